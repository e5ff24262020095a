/-
  Part 2 of a proof (walks and plain facts).
-/
import Derived.Test.YtiollbhgpiiodaaGreatDoorQ00
set_option linter.all false
set_option maxRecDepth 100000
set_option maxHeartbeats 64000000
open Nat renaming le_refl → ac
open Nat renaming add_zero → ao
open List renaming getElem?_eq_none → ar
open Nat renaming le_trans → aA
open Nat renaming mul_le_mul_left → aB
open Nat renaming lt_of_le_of_lt → aC
namespace Go.Proofs.YtiollbhgpiiodaaGreatDoor
open Go.RowKit
theorem lf (h l x y:Int) (h0:0<=h) (h1:h<18446744073709551616) (l0:0<=l) (l1:l<18446744073709551616) (x0:0<=x) (x1:x<18446744073709551616) (y0:0<=y) (y1:y<18446744073709551616)
  (hs:h*18446744073709551616+l+x*y<340282366920938463463374607431768211456) (w:World):
  Calls Tryz.prog 93 #[.agg #[.int .u64 h,.int .u64 l],.int .u64 x,.int .u64 y] w fun e w'=>
   ∃h' l':Int,e= .returned (.agg #[.int .u64 h',.int .u64 l'])/\0<=h'/\h'<18446744073709551616/\0<=l'/\l'<18446744073709551616/\h'*18446744073709551616+l'=h*18446744073709551616+l+x*y/\Ext w w':=by
 obtain⟨h,rfl⟩:=Int.eq_ofNat_of_zero_le h0;obtain⟨l,rfl⟩:=Int.eq_ofNat_of_zero_le l0;obtain⟨x,rfl⟩:=Int.eq_ofNat_of_zero_le x0;obtain⟨y,rfl⟩:=Int.eq_ofNat_of_zero_le y0;have key:=Dl (h*18446744073709551616+l) x y (by omega) (by omega) (by omega) w;have e1:wd (h*18446744073709551616+l)= .agg #[.int .u64 (h:Int),.int .u64 (l:Int)]:=by
  unfold wd;rw[show(h*18446744073709551616+l)/18446744073709551616=h from by omega,show(h*18446744073709551616+l)%18446744073709551616=l from by omega]
 rw[e1]at key;refine key.mono fun e w' ⟨he,hw⟩=>?_
 have hnn:((h*18446744073709551616+l+x*y:Nat):Int)=(h:Int)*18446744073709551616+l+(x:Int)*y:=by simp
 refine⟨_,_,he,by omega,?_,by omega,by omega,?_,hw⟩
 ·rw[<- hnn]at hs;omega
 rw[<- hnn];omega
theorem pq (h l h2 l2:Int) (h0:0<=h) (h1:h<18446744073709551616) (l0:0<=l) (l1:l<18446744073709551616) (x0:0<=h2) (x1:h2<18446744073709551616) (y0:0<=l2) (y1:l2<18446744073709551616) (w:World):
  Calls Tryz.prog 94 #[.agg #[.int .u64 h,.int .u64 l],.agg #[.int .u64 h2,.int .u64 l2]] w fun e w'=>
   e= .returned (iH (h*18446744073709551616+l).toNat (h2*18446744073709551616+l2).toNat)/\Ext w w':=by
 obtain⟨h,rfl⟩:=Int.eq_ofNat_of_zero_le h0;obtain⟨l,rfl⟩:=Int.eq_ofNat_of_zero_le l0;obtain⟨h2,rfl⟩:=Int.eq_ofNat_of_zero_le x0;obtain⟨l2,rfl⟩:=Int.eq_ofNat_of_zero_le y0;have key:=xt (h*18446744073709551616+l) (h2*18446744073709551616+l2) (by omega) (by omega) w;have e1: ∀h l:Nat,l<18446744073709551616->wd (h*18446744073709551616+l)= .agg #[.int .u64 (h:Int),.int .u64 (l:Int)]:=fun h l hl=>by
  unfold wd;rw[show(h*18446744073709551616+l)/18446744073709551616=h from by omega,show(h*18446744073709551616+l)%18446744073709551616=l from by omega]
 rw[e1 h l (by omega),e1 h2 l2 (by omega)]at key;rw[show((h:Int)*18446744073709551616+l).toNat=h*18446744073709551616+l from by omega,show((h2:Int)*18446744073709551616+l2).toNat=h2*18446744073709551616+l2 from by omega];exact key
def dE (x y:List Int):Nat->Int
 |0=>0
 |l+1=>dE x y l+x.getD l 0*y.getD l 0
def P4 (h l:Int):Nat->Value:=fun j=>if j=0 then .int .u64 h else .int .u64 l
def vq (s:Int):Value:=if -4611686018427387904<=s/\s<=4611686018427387904 then .tuple #[.int .i64 s,.bool true]else .tuple #[.int .i64 0,.bool false]
theorem kV {a b:Int} (ha:a<=1099511627776) (ha0:0<=a) (hb:b<=2305843009213693952) (hb0:0<=b):0<=a*b/\a*b<=2535301200456458802993406410752:=
 ⟨Int.mul_nonneg ha0 hb0,by
  have h1:a*b<=1099511627776*b:=Int.mul_le_mul_of_nonneg_right ha hb0;omega⟩
theorem Gq (A B:Option Addr) (c d:Nat) (x y:List Int) (w:World) (hx:RdI .i64 w A x) (hy:RdI .i64 w B y) (hl:x.length<=y.length) (hn:x.length<=65536) (hly:y.length<=9223372036854775807)
  (hbx: ∀(i:Nat) z,x[i]?=some z-> -1099511627776<=z/\z<=1099511627776) (hby: ∀(i:Nat) z,y[i]?=some z-> -2305843009213693952<=z/\z<=2305843009213693952):
  Calls Tryz.prog 59 #[.slice A x.length c,.slice B y.length d] w fun e w'=>e= .returned (vq (dE x y x.length))/\Ext w w':=by
 have HX:=Lib.hid hx;have HY:=Lib.hid hy;have HBX:=Lib.hid hbx;have HBY:=Lib.hid hby;clear hx hy hbx hby
 go_enter Tryz.func59,Tryz.ntmps59
 go_wp2_with fail
 go_loopw [17,8,9,10] (fun i _ _ _ wr=> ∃(k:Nat) (ph pl nh nl:Int),k<=x.length/\i= .int .i64 k/\0<=ph/\ph<18446744073709551616/\0<=pl/\pl<18446744073709551616/\0<=nh/\nh<18446744073709551616/\0<=nl/\nl<18446744073709551616/\
   Hid (wr.rowIs w.heap.size 136 2 (P4 ph pl))/\Hid (wr.rowIs (w.heap.size+1) 136 2 (P4 nh nl))/\Hid (Ext w wr)/\
   Hid (ph*18446744073709551616+pl-(nh*18446744073709551616+nl)=dE x y k/\ph*18446744073709551616+pl+(nh*18446744073709551616+nl)<=k*2535301200456458802993406410752)) (fun i _ _ _ _=>x.length-(intOf i).toNat)
 case atStart=>
  refine⟨0,0,0,0,0,Nat.zero_le _,rfl,by omega,by omega,by omega,by omega,by omega,by omega,by omega,by omega,Lib.hid ?_,Lib.hid ?_,Lib.hid (((Ext.refl _).alloc _).alloc _),Lib.hid ⟨rfl,by omega⟩⟩
  ·refine(World.rowIs.alloc (World.rowIs_alloc w _ _ (P4 0 0) ?_) _);intro i hi
   match i,hi with
   |0,_=>rfl
   |1,_=>rfl
  have:=World.rowIs_alloc (w.alloc (.cells #[.int .u64 0,.int .u64 0] 136)) #[.int .u64 0,.int .u64 0] 136 (P4 0 0) (by
   intro i hi
   match i,hi with
   |0,_=>rfl
   |1,_=>rfl)
  simpa using this
 case round=>
  obtain⟨k,ph,pl,nh,nl,hk,rfl,p0,p1,p2,p3,n0,n1,n2,n3,HP,HN,HE,HQ⟩:=hrel;have t1:wr.cell? ⟨w.heap.size,0,none⟩=some (.int .u64 ph):=HP.out.cell (by omega);have t2:wr.cell? ⟨w.heap.size,1,none⟩=some (.int .u64 pl):=HP.out.cell (by omega);have t3:wr.cell? ⟨w.heap.size+1,0,none⟩=some (.int .u64 nh):=HN.out.cell (by omega);have t4:wr.cell? ⟨w.heap.size+1,1,none⟩=some (.int .u64 nl):=HN.out.cell (by omega);by_cases hlt:k<x.length
  ·obtain⟨a,ha⟩:=getElem?_of_lt hlt;obtain⟨b,off,rfl,hc⟩:=(HX.out.ext HE.out).at_ ha;obtain⟨a2,ha2⟩:=getElem?_of_lt (l:=y) (k:=k) (by omega);obtain⟨b2,off2,rfl,hc2⟩:=(HY.out.ext HE.out).at_ ha2;obtain⟨ax0,ax1⟩:=HBX.out k a ha;obtain⟨ay0,ay1⟩:=HBY.out k a2 ha2;have HS:Hid (dE x y (k+1)=dE x y k+a*a2):=Lib.hid (by simp[dE,List.getD_eq_getElem?_getD,ha,ha2]);clear ha ha2;have hky:(k:Int)<(y.length:Int):=by omega
   by_cases ga:0<=a
   ·by_cases gb:0<=a2
    ·have hp:=kV (a:=a) (b:=a2) (by omega) (by omega) (by omega) (by omega);have hq:=HQ.out;have hs:ph*18446744073709551616+pl+a*a2<340282366920938463463374607431768211456:=by omega
     have HM:=Lib.hid (lf ph pl (a) (a2) (by omega) (by omega) (by omega) (by omega) (by omega) (by omega) (by omega) (by omega) hs);clear hp hq hs
     go_wp2_with fail
     refine(HM.out _).mono ?_;rintro e w1 ⟨h',l',rfl,q0,q1,q2,q3,q4,he⟩;have HE1:=Lib.hid (HE.out.trans he);have HO1:=Lib.hid (ii HP.out he);have HO2:=Lib.hid (ii HN.out he);have HQ4:=Lib.hid q4;have s1:w1.cell? ⟨w.heap.size,0,none⟩=some (.int .u64 ph):=HO1.out.cell (by omega);have s2:w1.cell? ⟨w.heap.size,1,none⟩=some (.int .u64 pl):=HO1.out.cell (by omega);have s3:w1.frozen? ⟨w.heap.size,0,none⟩=false:=HO1.out.frozen 0;have s4:w1.frozen? ⟨w.heap.size,1,none⟩=false:=HO1.out.frozen 1;clear q4 he HP HN HE HM t1 t2 t3 t4 hc hc2
     go_wp2_with fail
     go_roundw
     case rel=>
      refine⟨k+1,h',l',nh,nl,by omega,by go_num,by omega,by omega,by omega,by omega,by omega,by omega,by omega,by omega,Lib.hid ?_,Lib.hid ?_,Lib.hid ((HE1.out.setCell (by show w.heap.size<=w.heap.size;omega) _).setCell (by show w.heap.size<=w.heap.size;omega) _),Lib.hid ⟨by rw[HS.out];have:=HQ.out.1;have:=HQ4.out;omega,by have:=HQ.out.2;have:=HQ4.out;have:=kV (a:=a) (b:=a2) (by omega) (by omega) (by omega) (by omega);omega⟩⟩
      ·exact((HO1.out.set 0 _).set 1 _).congr (fun j hj=>by match j,hj with|0,_=>rfl|1,_=>rfl)
      exact(HO2.out.setOther (by show w.heap.size+1≠w.heap.size;omega) _).setOther (by show w.heap.size+1≠w.heap.size;omega) _
     case measure=>simp[intOf];omega
    have hp:=kV (a:=a) (b:= -a2) (by omega) (by omega) (by omega) (by omega);have hq:=HQ.out;have hs:nh*18446744073709551616+nl+a* -a2<340282366920938463463374607431768211456:=by omega
    have HM:=Lib.hid (lf nh nl (a) (-a2) (by omega) (by omega) (by omega) (by omega) (by omega) (by omega) (by omega) (by omega) hs);clear hp hq hs
    go_wp2_with fail
    refine(HM.out _).mono ?_;rintro e w1 ⟨h',l',rfl,q0,q1,q2,q3,q4,he⟩;have HE1:=Lib.hid (HE.out.trans he);have HO1:=Lib.hid (ii HN.out he);have HO2:=Lib.hid (ii HP.out he);have HQ4:=Lib.hid q4;have s1:w1.cell? ⟨w.heap.size+1,0,none⟩=some (.int .u64 nh):=HO1.out.cell (by omega);have s2:w1.cell? ⟨w.heap.size+1,1,none⟩=some (.int .u64 nl):=HO1.out.cell (by omega);have s3:w1.frozen? ⟨w.heap.size+1,0,none⟩=false:=HO1.out.frozen 0;have s4:w1.frozen? ⟨w.heap.size+1,1,none⟩=false:=HO1.out.frozen 1;clear q4 he HP HN HE HM t1 t2 t3 t4 hc hc2
    go_wp2_with fail
    go_roundw
    case rel=>
     refine⟨k+1,ph,pl,h',l',by omega,by go_num,by omega,by omega,by omega,by omega,by omega,by omega,by omega,by omega,Lib.hid ?_,Lib.hid ?_,Lib.hid ((HE1.out.setCell (by show w.heap.size<=w.heap.size+1;omega) _).setCell (by show w.heap.size<=w.heap.size+1;omega) _),Lib.hid ⟨by rw[HS.out];have:=HQ.out.1;have:=HQ4.out;have e:a*a2= -(a* -a2):=(by rw[Int.mul_neg,Int.neg_neg]);omega,by have:=HQ.out.2;have:=HQ4.out;have:=kV (a:=a) (b:= -a2) (by omega) (by omega) (by omega) (by omega);omega⟩⟩
     ·exact(HO2.out.setOther (by show w.heap.size≠w.heap.size+1;omega) _).setOther (by show w.heap.size≠w.heap.size+1;omega) _
     exact((HO1.out.set 0 _).set 1 _).congr (fun j hj=>by match j,hj with|0,_=>rfl|1,_=>rfl)
    case measure=>simp[intOf];omega
   by_cases gb:0<=a2
   ·have hp:=kV (a:= -a) (b:=a2) (by omega) (by omega) (by omega) (by omega);have hq:=HQ.out;have hs:nh*18446744073709551616+nl+ -a*a2<340282366920938463463374607431768211456:=by omega
    have HM:=Lib.hid (lf nh nl (-a) (a2) (by omega) (by omega) (by omega) (by omega) (by omega) (by omega) (by omega) (by omega) hs);clear hp hq hs
    go_wp2_with fail
    refine(HM.out _).mono ?_;rintro e w1 ⟨h',l',rfl,q0,q1,q2,q3,q4,he⟩;have HE1:=Lib.hid (HE.out.trans he);have HO1:=Lib.hid (ii HN.out he);have HO2:=Lib.hid (ii HP.out he);have HQ4:=Lib.hid q4;have s1:w1.cell? ⟨w.heap.size+1,0,none⟩=some (.int .u64 nh):=HO1.out.cell (by omega);have s2:w1.cell? ⟨w.heap.size+1,1,none⟩=some (.int .u64 nl):=HO1.out.cell (by omega);have s3:w1.frozen? ⟨w.heap.size+1,0,none⟩=false:=HO1.out.frozen 0;have s4:w1.frozen? ⟨w.heap.size+1,1,none⟩=false:=HO1.out.frozen 1;clear q4 he HP HN HE HM t1 t2 t3 t4 hc hc2
    go_wp2_with fail
    go_roundw
    case rel=>
     refine⟨k+1,ph,pl,h',l',by omega,by go_num,by omega,by omega,by omega,by omega,by omega,by omega,by omega,by omega,Lib.hid ?_,Lib.hid ?_,Lib.hid ((HE1.out.setCell (by show w.heap.size<=w.heap.size+1;omega) _).setCell (by show w.heap.size<=w.heap.size+1;omega) _),Lib.hid ⟨by rw[HS.out];have:=HQ.out.1;have:=HQ4.out;have e:a*a2= -(-a*a2):=(by rw[Int.neg_mul,Int.neg_neg]);omega,by have:=HQ.out.2;have:=HQ4.out;have:=kV (a:= -a) (b:=a2) (by omega) (by omega) (by omega) (by omega);omega⟩⟩
     ·exact(HO2.out.setOther (by show w.heap.size≠w.heap.size+1;omega) _).setOther (by show w.heap.size≠w.heap.size+1;omega) _
     exact((HO1.out.set 0 _).set 1 _).congr (fun j hj=>by match j,hj with|0,_=>rfl|1,_=>rfl)
    case measure=>simp[intOf];omega
   have hp:=kV (a:= -a) (b:= -a2) (by omega) (by omega) (by omega) (by omega);have hq:=HQ.out;have hs:ph*18446744073709551616+pl+ -a* -a2<340282366920938463463374607431768211456:=by omega
   have HM:=Lib.hid (lf ph pl (-a) (-a2) (by omega) (by omega) (by omega) (by omega) (by omega) (by omega) (by omega) (by omega) hs);clear hp hq hs
   go_wp2_with fail
   refine(HM.out _).mono ?_;rintro e w1 ⟨h',l',rfl,q0,q1,q2,q3,q4,he⟩;have HE1:=Lib.hid (HE.out.trans he);have HO1:=Lib.hid (ii HP.out he);have HO2:=Lib.hid (ii HN.out he);have HQ4:=Lib.hid q4;have s1:w1.cell? ⟨w.heap.size,0,none⟩=some (.int .u64 ph):=HO1.out.cell (by omega);have s2:w1.cell? ⟨w.heap.size,1,none⟩=some (.int .u64 pl):=HO1.out.cell (by omega);have s3:w1.frozen? ⟨w.heap.size,0,none⟩=false:=HO1.out.frozen 0;have s4:w1.frozen? ⟨w.heap.size,1,none⟩=false:=HO1.out.frozen 1;clear q4 he HP HN HE HM t1 t2 t3 t4 hc hc2
   go_wp2_with fail
   go_roundw
   case rel=>
    refine⟨k+1,h',l',nh,nl,by omega,by go_num,by omega,by omega,by omega,by omega,by omega,by omega,by omega,by omega,Lib.hid ?_,Lib.hid ?_,Lib.hid ((HE1.out.setCell (by show w.heap.size<=w.heap.size;omega) _).setCell (by show w.heap.size<=w.heap.size;omega) _),Lib.hid ⟨by rw[HS.out];have:=HQ.out.1;have:=HQ4.out;have e:a*a2= -a* -a2:=(by rw[Int.neg_mul_neg]);omega,by have:=HQ.out.2;have:=HQ4.out;have:=kV (a:= -a) (b:= -a2) (by omega) (by omega) (by omega) (by omega);omega⟩⟩
    ·exact((HO1.out.set 0 _).set 1 _).congr (fun j hj=>by match j,hj with|0,_=>rfl|1,_=>rfl)
    exact(HO2.out.setOther (by show w.heap.size+1≠w.heap.size;omega) _).setOther (by show w.heap.size+1≠w.heap.size;omega) _
   case measure=>simp[intOf];omega
  have hkl:k=x.length:=by omega
  have HK:Hid (ph*18446744073709551616+pl-(nh*18446744073709551616+nl)=dE x y x.length):=Lib.hid (by have:=HQ.out.1;rw[hkl]at this;exact this);obtain⟨D,hD⟩: ∃D,D=dE x y x.length:=⟨_,rfl⟩;have HM:=Lib.hid (pq ph pl nh nl p0 p1 p2 p3 n0 n1 n2 n3);have HM2:=Lib.hid (pq nh nl ph pl n0 n1 n2 n3 p0 p1 p2 p3);have hK:=HK.out;rw[<- hD]at hK;have HDD:=Lib.hid hD;by_cases g1:0<=D/\D<=4611686018427387904
  ·have e1:iH (ph*18446744073709551616+pl).toNat (nh*18446744073709551616+nl).toNat= .tuple #[.int .i64 D,.bool true]:=mN (by omega) (by omega);have HV:Hid (vq D= .tuple #[.int .i64 D,.bool true]):=Lib.hid (if_pos (by omega));rw[e1]at HM;clear hK hD e1 hkl HM2
   go_wp2_with fail
   refine(HM.out _).mono ?_;rintro e w1 ⟨rfl,he⟩;have HE1:=Lib.hid (HE.out.trans he);clear he
   go_wp2_with fail
   go_ret2
   exact⟨by rw[<- HDD.out,HV.out];rfl,HE1.out⟩
  have e1:iH (ph*18446744073709551616+pl).toNat (nh*18446744073709551616+nl).toNat= .tuple #[.int .i64 0,.bool false]:=iI (by omega);rw[e1]at HM;by_cases g2: -4611686018427387904<=D/\D<=0
  ·have e2:iH (nh*18446744073709551616+nl).toNat (ph*18446744073709551616+pl).toNat= .tuple #[.int .i64 (-D),.bool true]:=mN (by omega) (by omega);have HV:Hid (vq D= .tuple #[.int .i64 D,.bool true]):=Lib.hid (if_pos (by omega));have g3:=g2.1;have g4:=g2.2;rw[e2]at HM2;clear hK hD e1 e2 hkl
   go_wp2_with fail
   refine(HM.out _).mono ?_;rintro e w1 ⟨rfl,he⟩;have HE1:=Lib.hid (HE.out.trans he);have s1:w1.cell? ⟨w.heap.size,0,none⟩=some (.int .u64 ph):=he.cell t1;have s2:w1.cell? ⟨w.heap.size,1,none⟩=some (.int .u64 pl):=he.cell t2;have s3:w1.cell? ⟨w.heap.size+1,0,none⟩=some (.int .u64 nh):=he.cell t3;have s4:w1.cell? ⟨w.heap.size+1,1,none⟩=some (.int .u64 nl):=he.cell t4;clear he t1 t2 t3 t4
   go_wp2_with fail
   refine(HM2.out _).mono ?_;rintro e w2 ⟨rfl,he⟩;have HE2:=Lib.hid (HE1.out.trans he);clear he s1 s2 s3 s4
   go_wp2_with fail
   go_ret2
   refine⟨?_,HE2.out⟩;rw[<- HDD.out,HV.out]
   simp
  have e2:iH (nh*18446744073709551616+nl).toNat (ph*18446744073709551616+pl).toNat= .tuple #[.int .i64 0,.bool false]:=iI (by omega);have HV:Hid (vq D= .tuple #[.int .i64 0,.bool false]):=Lib.hid (if_neg (by omega));rw[e2]at HM2;clear hK hD e1 e2 hkl g1 g2
  go_wp2_with fail
  refine(HM.out _).mono ?_;rintro e w1 ⟨rfl,he⟩;have HE1:=Lib.hid (HE.out.trans he);have s1:w1.cell? ⟨w.heap.size,0,none⟩=some (.int .u64 ph):=he.cell t1;have s2:w1.cell? ⟨w.heap.size,1,none⟩=some (.int .u64 pl):=he.cell t2;have s3:w1.cell? ⟨w.heap.size+1,0,none⟩=some (.int .u64 nh):=he.cell t3;have s4:w1.cell? ⟨w.heap.size+1,1,none⟩=some (.int .u64 nl):=he.cell t4;clear he t1 t2 t3 t4
  go_wp2_with fail
  refine(HM2.out _).mono ?_;rintro e w2 ⟨rfl,he⟩;have HE2:=Lib.hid (HE1.out.trans he);clear he s1 s2 s3 s4
  go_wp2_with fail
  go_ret2
  refine⟨?_,HE2.out⟩;rw[<- HDD.out,HV.out];rfl
theorem jZ {x:List Int} (h:uE x=true) {k:Nat} {c:Int} (hk:x[k]?=some c): -1099511627776<=c/\c<=1099511627776:=by
 unfold uE at h;rw[List.all_eq_true]at h;have:=h c (List.mem_of_getElem? hk);simp at this;exact this
def zi (x:List Int):Option (List Int):=
 if uE x then(match x.find? (fun c=>c !=0)with
  |none=>none
  |some c=>some (if c<0 then x.map (fun a=> -a)else x))else none
theorem my {a b A B:Int} (ha: -A<=a/\a<=A) (hb: -B<=b/\b<=B) (hB:0<=B) (hA:0<=A): -(A*B)<=a*b/\a*b<=A*B:=by
 have h1:a.natAbs<=A.toNat:=by omega
 have h2:b.natAbs<=B.toNat:=by omega
 have h3:(a*b).natAbs<=A.toNat*B.toNat:=by rw[Int.natAbs_mul];exact Nat.mul_le_mul h1 h2
 have h4:((A.toNat*B.toNat:Nat):Int)=A*B:=by rw[Int.natCast_mul,Int.toNat_of_nonneg hA,Int.toNat_of_nonneg hB]
 omega
theorem Gu {x:List Int} {B:Int} (hB:0<=B) (h: ∀(i:Nat) z,x[i]?=some z-> -B<=z/\z<=B) (j:Nat): -B<=x.getD j 0/\x.getD j 0<=B:=by
 rw[List.getD_eq_getElem?_getD];cases hx:x[j]? with
 |none=>simp;omega
 |some z=>exact h j z hx
theorem pD {row x:List Int} (hr: ∀(i:Nat) z,row[i]?=some z-> -262144<=z/\z<=262144) (hx: ∀(i:Nat) z,x[i]?=some z-> -1099511627776<=z/\z<=1099511627776):
  ∀l:Nat,l<=8->qr row x l=dE row x l/\ -(l*288230376151711744)<=dE row x l/\dE row x l<=l*288230376151711744
 |0,_=>⟨rfl,by simp[dE],by simp[dE]⟩
 |l+1,hl=>by
  obtain⟨h1,h2,h3⟩:=pD hr hx l (by omega);have hp:=my (Gu (by omega) hr l) (Gu (by omega) hx l) (by omega) (by omega);have e:(262144:Int)*1099511627776=288230376151711744:=by decide
  rw[e]at hp;have hw1:wrap64 (row.getD l 0*x.getD l 0)=row.getD l 0*x.getD l 0:=IntWalk.wrap64_in _ ⟨by omega,by omega⟩;have hw2:wrap64 (dE row x l+row.getD l 0*x.getD l 0)=dE row x l+row.getD l 0*x.getD l 0:=IntWalk.wrap64_in _ ⟨by omega,by omega⟩;refine⟨?_,?_,?_⟩
  ·show wrap64 (qr row x l+wrap64 (row.getD l 0*x.getD l 0))=dE row x l+row.getD l 0*x.getD l 0;rw[hw1,h1,hw2]
  ·show _<=dE row x l+row.getD l 0*x.getD l 0;omega
  show dE row x l+row.getD l 0*x.getD l 0<=_;omega
theorem js.row_len {rows:List (List Int)} (h:js rows) {i:Nat} {r:List Int} (hi:rows[i]?=some r):r.length=rows.length:=(show Sq rows from h.2.2.1).at_ hi
theorem js.row_bd {rows:List (List Int)} (h:js rows) {i:Nat} {r:List Int} (hi:rows[i]?=some r): ∀(j:Nat) z,r[j]?=some z-> -262144<=z/\z<=262144:=by
 intro j z hz;have h1:=(List.getElem?_eq_some_iff.1 hi).1;have h2:=(List.getElem?_eq_some_iff.1 hz).1;rw[h.row_len hi]at h2;have:=h.2.2.2 i h1 j h2;unfold l6 at this;rw[pK hi hz]at this;omega
theorem xN {rows:List (List Int)} {x:List Int} (h:js rows) (hx:uE x=true): ∀(i:Nat) z,(dN rows x)[i]?=some z-> -2305843009213693952<=z/\z<=2305843009213693952:=by
 intro i z hz;obtain⟨row,h1,rfl⟩:=xM hz;have hl:=h.row_len h1;have h8:=h.2.1;obtain⟨e,h2,h3⟩:=pD (h.row_bd h1) (fun i z hz=>jZ hx hz) row.length (by omega);rw[e];have:((row.length:Nat):Int)<=8:=by omega
 omega
theorem i6 {n:Nat} {x:List Int}:FitB n x=true↔x.length=n/\uE x=true:=by
 unfold FitB;rw[Bool.and_eq_true,decide_eq_true_iff];exact⟨fun h=>⟨by omega,h.2⟩,fun h=>⟨by omega,h.2⟩⟩
theorem gy {rows:List (List Int)} (h:b8 rows=true):js rows:=by
 unfold b8 at h;simp at h;exact h.1
theorem li (rows:List (List Int)) (x:List Int):(dN rows x).length=rows.length:=by simp[dN]
def FL (R:FF) (n t:Nat):Prop:= ∀i,i<n->t<i-> -(dk R (t+1))<=2*bk R t i t/\2*bk R t i t<=dk R (t+1)
def OF (R:FF) (t:Nat):Prop:=3*dk R (t+1)*dk R (t+1)<=4*(dk R t*dk R (t+1+1)+bk R t (t+1) t*bk R t (t+1) t)
def OI (R:FF) (n t:Nat):Prop:=0<dk R (t+1)/\dk R (t+1)<65536/\FL R n t
def RedR (R:FF) (n:Nat):Prop:=
 (∀i,i<n-> ∀j,j<n->R i j=R j i)/\(∀k,k<n->0<dk R (k+1))/\dk R n<=10000/\(∀t,t+1<n->FL R n t/\OF R t)
theorem ju {R:FF} {n:Nat} (hs: ∀i,i<n-> ∀j,j<n->R i j=R j i): ∀k,k<=n->(∀t,t<k->dk R (t+1)≠0)-> ∀i j,i<n->j<n->bk R k i j=bk R k j i
 |0,_,_,i,j,hi,hj=>by rw[dz,dz];exact hs i hi j hj
 |k+1,hk,hd,i,j,hi,hj=>by
  have ih:=ju hs k (by omega) (fun t ht=>hd t (by omega));have h1:=sylv R k (fun t ht=>hd t (by omega)) i j;have h2:=sylv R k (fun t ht=>hd t (by omega)) j i;have e1:=ih i j hi hj;have e2:=ih i k hi (by omega);have e3:=ih k j (by omega) hj;have hne:dk R k≠0:=by
   cases k with
   |zero=>rw[da];omega
   |succ k=>exact hd k (by omega)
  apply Int.eq_of_mul_eq_mul_left hne;rw[h1,h2,e1,e2,e3,Int.mul_comm (bk R k k i)]
theorem kf {R:FF} {k:Nat} (h: ∀t,t<k->0<dk R (t+1)):0<dk R k:=by
 cases k with
 |zero=>rw[da];omega
 |succ k=>exact h k (by omega)
theorem QI {C D E x a b y:Int} (hC:0<=C) (hD:0<D) (hE:0<E) (hE2:E<65536) (h:D*y=E*x-a*b) (hx: -(C*D)<=x/\x<=C*D) (ha: -E<=2*a/\2*a<=E) (hb: -E<=2*b/\2*b<=E):
  -((C+16384)*E)<=y/\y<=(C+16384)*E:=by
 have hab:=my ha hb (by omega) (by omega);have e4:2*a*(2*b)=4*(a*b):=by grind
 rw[e4]at hab;have hEE:E*E<=65536*E:=Int.mul_le_mul_of_nonneg_right (by omega) (by omega);have hED:E*1<=E*D:=Int.mul_le_mul_of_nonneg_left (by omega) (by omega);have h1:E*x<=E*(C*D):=Int.mul_le_mul_of_nonneg_left hx.2 (by omega);have h2:E*(-(C*D))<=E*x:=Int.mul_le_mul_of_nonneg_left hx.1 (by omega);have e5:E*(-(C*D))= -(C*(E*D)):=by grind
 have e6:E*(C*D)=C*(E*D):=by grind
 rw[e6]at h1;rw[e5]at h2;constructor
 ·rcases Int.lt_or_le y (-((C+16384)*E))with hlt|hle
  ·exfalso;have:=Int.mul_le_mul_of_nonneg_left (show y<= -((C+16384)*E)-1 by omega) (show 0<=D by omega);have e7:D*(-((C+16384)*E)-1)= -(C*(E*D))-16384*(E*D)-D:=by grind
   rw[e7,h]at this;omega
  exact hle
 rcases Int.lt_or_le ((C+16384)*E) y with hlt|hle
 ·exfalso;have:=Int.mul_le_mul_of_nonneg_left (show(C+16384)*E+1<=y by omega) (show 0<=D by omega);have e7:D*((C+16384)*E+1)=C*(E*D)+16384*(E*D)+D:=by grind
  rw[e7,h]at this;omega
 exact hle
theorem Bu {R:FF} {n:Nat} (hs: ∀i,i<n-> ∀j,j<n->R i j=R j i) (hb: ∀i,i<n-> ∀j,j<n-> -262144<=R i j/\R i j<=262144):
  ∀k,(∀t,t<k->OI R n t)-> ∀i j,k<=i->i<n->k<=j->j<n-> -((262144+k*16384)*dk R k)<=bk R k i j/\bk R k i j<=(262144+k*16384)*dk R k
 |0,_,i,j,_,hi,_,hj=>by
  rw[dz,da];have:=hb i hi j hj;simp;omega
 |k+1,hk,i,j,hki,hi,hkj,hj=>by
  have ih:=Bu hs hb k (fun t ht=>hk t (by omega)) i j (by omega) hi (by omega) hj;obtain⟨hE,hE2,hsz⟩:=hk k (by omega);have hne: ∀t,t<k->dk R (t+1)≠0:=fun t ht=>by have:=(hk t (by omega)).1;omega
  have hD:0<dk R k:=kf (fun t ht=>(hk t (by omega)).1);have h1:=hsz i hi (by omega);have h2:=hsz j hj (by omega);rw[ju hs k (by omega) hne j k hj (by omega)]at h2;have:=QI (C:=262144+k*16384) (by omega) hD hE hE2 (sylv R k hne i j) ih h1 h2;have e:((262144:Int)+(k+1:Nat)*16384)=262144+k*16384+16384:=by omega
  rw[e];exact this
def Vf (R:FF) (n k:Nat) (stg:List (List Int)):Prop:=stg.length=n-k/\ ∀i j,i<n-k->j<n-k->ent stg i j=bk R k (k+i) (k+j)
theorem mi {R:FF} {n:Nat} (hn:n<=8) (hs: ∀i,i<n-> ∀j,j<n->R i j=R j i) (hb: ∀i,i<n-> ∀j,j<n-> -262144<=R i j/\R i j<=262144)
  {k:Nat} (hkn:k<n) (hk: ∀t,t<k->OI R n t) {i j:Nat} (hki:k<=i) (hi:i<n) (hkj:k<=j) (hj:j<n): -34359738368<=bk R k i j/\bk R k i j<=34359738368:=by
 have h:=Bu hs hb k hk i j hki hi hkj hj;have hD:0<dk R k:=kf (fun t ht=>(hk t (by omega)).1);have hD2:dk R k<65536:=by
  cases k with
  |zero=>rw[da];omega
  |succ k=>exact(hk k (by omega)).2.1
 have h3:((262144:Int)+k*16384)*dk R k<=524288*65536:=Int.mul_le_mul (by omega) (by omega) (by omega) (by omega);omega
theorem Jl {R:FF} {n:Nat} (hn:n<=8) (hs: ∀i,i<n-> ∀j,j<n->R i j=R j i) (hb: ∀i,i<n-> ∀j,j<n-> -262144<=R i j/\R i j<=262144)
  {k:Nat} (hkn:k+1<n) (hk: ∀t,t<k+1->OI R n t) {stg:List (List Int)} (hst:Vf R n k stg) {i j:Nat} (hi:i<n-(k+1)) (hj:j<n-(k+1)):
  PT stg (dk R k) i j=bk R (k+1) (k+1+i) (k+1+j):=by
 have hk': ∀t,t<k->OI R n t:=fun t ht=>hk t (by omega)
 have hne: ∀t,t<k->dk R (t+1)≠0:=fun t ht=>by have:=(hk t (by omega)).1;omega
 have hD:0<dk R k:=kf (fun t ht=>(hk' t ht).1);obtain⟨hE,hE2,hsz⟩:=hk k (by omega);have e00:=hst.2 0 0 (by omega) (by omega);have eij:=hst.2 (i+1) (j+1) (by omega) (by omega);have ei0:=hst.2 (i+1) 0 (by omega) (by omega);have e0j:=hst.2 0 (j+1) (by omega) (by omega);simp only[ao]at e00 ei0 e0j;rw[<- ca]at e00;rw[show k+(i+1)=k+1+i by omega]at eij ei0;rw[show k+(j+1)=k+1+j by omega]at eij e0j;have b1:=mi hn hs hb (by omega) hk' (i:=k+1+i) (j:=k+1+j) (by omega) (by omega) (by omega) (by omega);have b2:=mi hn hs hb (by omega) hk' (i:=k+1+i) (j:=k) (by omega) (by omega) (by omega) (by omega);have b3:=mi hn hs hb (by omega) hk' (i:=k) (j:=k+1+j) (by omega) (by omega) (by omega) (by omega);have b4:=mi hn hs hb (by omega) hk (i:=k+1+i) (j:=k+1+j) (by omega) (by omega) (by omega) (by omega);have hs1:=hsz (k+1+i) (by omega) (by omega);have m1:=my (a:=dk R (k+1)) (A:=65536) ⟨by omega,by omega⟩ b1 (by omega) (by omega);have m2:=my (a:=bk R k (k+1+i) k) (A:=65536) ⟨by omega,by omega⟩ b3 (by omega) (by omega);have hsy:=sylv R k hne (k+1+i) (k+1+j);unfold PT;rw[e00,eij,ei0,e0j];rw[IntWalk.wrap64_in (dk R (k+1)*bk R k (k+1+i) (k+1+j)) ⟨by omega,by omega⟩,IntWalk.wrap64_in (bk R k (k+1+i) k*bk R k k (k+1+j)) ⟨by omega,by omega⟩];rw[IntWalk.wrap64_in (dk R (k+1)*bk R k (k+1+i) (k+1+j)-bk R k (k+1+i) k*bk R k k (k+1+j)) ⟨by omega,by omega⟩];rw[<- hsy,Int.mul_tdiv_cancel_left _ (by omega),IntWalk.wrap64_in _ ⟨by omega,by omega⟩]
theorem ww {R:FF} {n:Nat} (hn:n<=8) (hs: ∀i,i<n-> ∀j,j<n->R i j=R j i) (hb: ∀i,i<n-> ∀j,j<n-> -262144<=R i j/\R i j<=262144):
  ∀f k stg,k<n->n<=f+k->(∀t,t<k->OI R n t)->Vf R n k stg->
   (rh f stg (dk R k)=true↔(∀t,k<=t->t+1<n->OI R n t/\OF R t)/\0<dk R n/\dk R n<=10000)
 |0,k,stg,hk,hf,_,_=>by omega
 |f+1,k,stg,hk,hf,hok,hst=>by
  have e00:=hst.2 0 0 (by omega) (by omega);simp only[ao]at e00;rw[<- ca]at e00;by_cases hl:n=k+1
  ·subst hl;rw[rh,if_pos (by rw[hst.1];omega),e00];simp only[Bool.and_eq_true,decide_eq_true_iff];exact⟨fun h=>⟨fun t h1 h2=>by omega,h⟩,fun h=>h.2⟩
  rw[rh,if_neg (by rw[hst.1];omega)];have hshort:l5 stg↔OI R n k:=by
   unfold l5 OI FL px;rw[e00,hst.1];refine and_congr Iff.rfl (and_congr Iff.rfl ⟨fun h i hi hik=>?_,fun h i hi hi1=>?_⟩)
   ·have h1:=h (i-k) (by omega) (by omega);have e:=hst.2 (i-k) 0 (by omega) (by omega);rw[show k+(i-k)=i by omega,ao]at e;have b1:=mi hn hs hb (by omega) hok (i:=i) (j:=k) (by omega) (by omega) (by omega) (by omega);rw[e,IntWalk.wrap64_in (2*bk R k i k) ⟨by omega,by omega⟩,IntWalk.wrap64_in (-2*bk R k i k) ⟨by omega,by omega⟩]at h1;omega
   have h1:=h (k+i) (by omega) (by omega);have e:=hst.2 i 0 (by omega) (by omega);rw[ao]at e;have b1:=mi hn hs hb (by omega) hok (i:=k+i) (j:=k) (by omega) (by omega) (by omega) (by omega);rw[e,IntWalk.wrap64_in (2*bk R k (k+i) k) ⟨by omega,by omega⟩,IntWalk.wrap64_in (-2*bk R k (k+i) k) ⟨by omega,by omega⟩];omega
  by_cases hP:l5 stg
  ·rw[if_pos hP];have hok1: ∀t,t<k+1->OI R n t:=fun t ht=>by
    by_cases e:t=k
    ·subst e;exact hshort.1 hP
    exact hok t (by omega)
   obtain⟨hE,hE2,hsz⟩:=hok1 k (by omega);have hD:0<dk R k:=kf (fun t ht=>(hok t ht).1);have hD2:dk R k<65536:=by
    cases k with
    |zero=>rw[da];omega
    |succ k=>exact(hok k (by omega)).2.1
   have hnx: ∀i j,i<n-(k+1)->j<n-(k+1)->PT stg (dk R k) i j=bk R (k+1) (k+1+i) (k+1+j):=fun i j hi hj=>Jl hn hs hb (by omega) hok1 hst hi hj
   have hst':Vf R n (k+1) (PU stg (dk R k)):=by
    unfold PU;rw[hst.1];refine⟨by rw[lk];omega,fun i j hi hj=>?_⟩;rw[ent,El (by omega) (by omega)];exact hnx i j hi hj
   have hlov:DC stg (dk R k)↔ ¬OF R k:=by
    unfold DC OF;have e10:ent stg 1 0=bk R k (k+1) k:=hst.2 1 0 (by omega) (by omega);have en:=hnx 0 0 (by omega) (by omega);simp only[ao]at en;rw[<- ca]at en;rw[en,e10,e00];have b4:=mi hn hs hb (by omega) hok1 (i:=k+1) (j:=k+1) (by omega) (by omega) (by omega) (by omega);rw[<- ca]at b4;have hs1:=hsz (k+1) (by omega) (by omega);have m1:=my (a:=dk R k) (A:=65536) ⟨by omega,by omega⟩ b4 (by omega) (by omega);have m2:=my (a:=bk R k (k+1) k) (b:=bk R k (k+1) k) (A:=65536) (B:=65536) ⟨by omega,by omega⟩ ⟨by omega,by omega⟩ (by omega) (by omega);have m3:=my (a:=3*dk R (k+1)) (b:=dk R (k+1)) (A:=196608) (B:=65536) ⟨by omega,by omega⟩ ⟨by omega,by omega⟩ (by omega) (by omega);rw[IntWalk.wrap64_in (dk R k*dk R (k+1+1)) ⟨by omega,by omega⟩,IntWalk.wrap64_in (bk R k (k+1) k*bk R k (k+1) k) ⟨by omega,by omega⟩,IntWalk.wrap64_in (3*dk R (k+1)*dk R (k+1)) ⟨by omega,by omega⟩];rw[IntWalk.wrap64_in (dk R k*dk R (k+1+1)+bk R k (k+1) k*bk R k (k+1) k) ⟨by omega,by omega⟩];rw[IntWalk.wrap64_in (4*_) ⟨by omega,by omega⟩];omega
   by_cases hL:OF R k
   ·rw[if_neg (by rw[hlov];exact fun h=>h hL),e00,ww hn hs hb f (k+1) _ (by omega) (by omega) hok1 hst'];refine and_congr ⟨fun h t h1 h2=>?_,fun h t h1 h2=>h t (by omega) h2⟩ Iff.rfl;by_cases e:t=k
    ·subst e;exact⟨hok1 t (by omega),hL⟩
    exact h t (by omega) h2
   rw[if_pos (hlov.2 hL)];exact⟨fun h=>(nomatch h),fun h=>absurd (h.1 k (ac _) (by omega)).2 hL⟩
  rw[if_neg hP];exact⟨fun h=>(nomatch h),fun h=>absurd (hshort.2 (h.1 k (ac _) (by omega)).1) hP⟩
def AQ:Nat->Nat
 |0=>0
 |k+1=>AQ k+(k+1)
theorem fd {x a b C:Nat} (h:x^a<=C) (hC:C<(b+1)^a):x<=b:=by
 rcases Nat.lt_or_ge b x with hlt|hge
 ·have:=Nat.pow_le_pow_left (show b+1<=x by omega) a;omega
 exact hge
theorem Sy {e:Nat->Nat} (h: ∀k,1<=k->k<1->e k^(k+1)<=2^AQ k*e (k+1)^k) (h1:e 1<=10000): ∀k,1<=k->k<=1->e k<65536:=by
 intro k hk1 hk2
 match k,hk1,hk2 with
 |1,_,_=>exact aC h1 (by decide)
 |k+2,_,hk2=>omega
theorem SA {e:Nat->Nat} (h: ∀k,1<=k->k<2->e k^(k+1)<=2^AQ k*e (k+1)^k) (h2:e 2<=10000): ∀k,1<=k->k<=2->e k<65536:=by
 have h1:e 1<=141:=fd (a:=2) (aA (h 1 (by omega) (by omega)) (aB _ (Nat.pow_le_pow_left h2 1))) (by decide+kernel);intro k hk1 hk2
 match k,hk1,hk2 with
 |1,_,_=>exact aC h1 (by decide)
 |2,_,_=>exact aC h2 (by decide)
 |k+3,_,hk2=>omega
theorem SB {e:Nat->Nat} (h: ∀k,1<=k->k<3->e k^(k+1)<=2^AQ k*e (k+1)^k) (h3:e 3<=10000): ∀k,1<=k->k<=3->e k<65536:=by
 have h2:e 2<=928:=fd (a:=3) (aA (h 2 (by omega) (by omega)) (aB _ (Nat.pow_le_pow_left h3 2))) (by decide+kernel);have h1:e 1<=43:=fd (a:=2) (aA (h 1 (by omega) (by omega)) (aB _ (Nat.pow_le_pow_left h2 1))) (by decide+kernel);intro k hk1 hk2
 match k,hk1,hk2 with
 |1,_,_=>exact aC h1 (by decide)
 |2,_,_=>exact aC h2 (by decide)
 |3,_,_=>exact aC h3 (by decide)
 |k+4,_,hk2=>omega
theorem SC {e:Nat->Nat} (h: ∀k,1<=k->k<4->e k^(k+1)<=2^AQ k*e (k+1)^k) (h4:e 4<=10000): ∀k,1<=k->k<=4->e k<65536:=by
 have h3:e 3<=2828:=fd (a:=4) (aA (h 3 (by omega) (by omega)) (aB _ (Nat.pow_le_pow_left h4 3))) (by decide+kernel);have h2:e 2<=399:=fd (a:=3) (aA (h 2 (by omega) (by omega)) (aB _ (Nat.pow_le_pow_left h3 2))) (by decide+kernel);have h1:e 1<=28:=fd (a:=2) (aA (h 1 (by omega) (by omega)) (aB _ (Nat.pow_le_pow_left h2 1))) (by decide+kernel);intro k hk1 hk2
 match k,hk1,hk2 with
 |1,_,_=>exact aC h1 (by decide)
 |2,_,_=>exact aC h2 (by decide)
 |3,_,_=>exact aC h3 (by decide)
 |4,_,_=>exact aC h4 (by decide)
 |k+5,_,hk2=>omega
theorem SD {e:Nat->Nat} (h: ∀k,1<=k->k<5->e k^(k+1)<=2^AQ k*e (k+1)^k) (h5:e 5<=10000): ∀k,1<=k->k<=5->e k<65536:=by
 have h4:e 4<=6339:=fd (a:=5) (aA (h 4 (by omega) (by omega)) (aB _ (Nat.pow_le_pow_left h5 4))) (by decide+kernel);have h3:e 3<=2009:=fd (a:=4) (aA (h 3 (by omega) (by omega)) (aB _ (Nat.pow_le_pow_left h4 3))) (by decide+kernel);have h2:e 2<=318:=fd (a:=3) (aA (h 2 (by omega) (by omega)) (aB _ (Nat.pow_le_pow_left h3 2))) (by decide+kernel);have h1:e 1<=25:=fd (a:=2) (aA (h 1 (by omega) (by omega)) (aB _ (Nat.pow_le_pow_left h2 1))) (by decide+kernel);intro k hk1 hk2
 match k,hk1,hk2 with
 |1,_,_=>exact aC h1 (by decide)
 |2,_,_=>exact aC h2 (by decide)
 |3,_,_=>exact aC h3 (by decide)
 |4,_,_=>exact aC h4 (by decide)
 |5,_,_=>exact aC h5 (by decide)
 |k+6,_,hk2=>omega
theorem SE {e:Nat->Nat} (h: ∀k,1<=k->k<6->e k^(k+1)<=2^AQ k*e (k+1)^k) (h6:e 6<=10000): ∀k,1<=k->k<=6->e k<65536:=by
 have h5:e 5<=12187:=fd (a:=6) (aA (h 5 (by omega) (by omega)) (aB _ (Nat.pow_le_pow_left h6 5))) (by decide+kernel);have h4:e 4<=7426:=fd (a:=5) (aA (h 4 (by omega) (by omega)) (aB _ (Nat.pow_le_pow_left h5 4))) (by decide+kernel);have h3:e 3<=2262:=fd (a:=4) (aA (h 3 (by omega) (by omega)) (aB _ (Nat.pow_le_pow_left h4 3))) (by decide+kernel);have h2:e 2<=344:=fd (a:=3) (aA (h 2 (by omega) (by omega)) (aB _ (Nat.pow_le_pow_left h3 2))) (by decide+kernel);have h1:e 1<=26:=fd (a:=2) (aA (h 1 (by omega) (by omega)) (aB _ (Nat.pow_le_pow_left h2 1))) (by decide+kernel);intro k hk1 hk2
 match k,hk1,hk2 with
 |1,_,_=>exact aC h1 (by decide)
 |2,_,_=>exact aC h2 (by decide)
 |3,_,_=>exact aC h3 (by decide)
 |4,_,_=>exact aC h4 (by decide)
 |5,_,_=>exact aC h5 (by decide)
 |6,_,_=>exact aC h6 (by decide)
 |k+7,_,hk2=>omega
theorem SF {e:Nat->Nat} (h: ∀k,1<=k->k<7->e k^(k+1)<=2^AQ k*e (k+1)^k) (h7:e 7<=10000): ∀k,1<=k->k<=7->e k<65536:=by
 have h6:e 6<=21461:=fd (a:=7) (aA (h 6 (by omega) (by omega)) (aB _ (Nat.pow_le_pow_left h7 6))) (by decide+kernel);have h5:e 5<=23029:=fd (a:=6) (aA (h 5 (by omega) (by omega)) (aB _ (Nat.pow_le_pow_left h6 5))) (by decide+kernel);have h4:e 4<=12356:=fd (a:=5) (aA (h 4 (by omega) (by omega)) (aB _ (Nat.pow_le_pow_left h5 4))) (by decide+kernel);have h3:e 3<=3314:=fd (a:=4) (aA (h 3 (by omega) (by omega)) (aB _ (Nat.pow_le_pow_left h4 3))) (by decide+kernel);have h2:e 2<=444:=fd (a:=3) (aA (h 2 (by omega) (by omega)) (aB _ (Nat.pow_le_pow_left h3 2))) (by decide+kernel);have h1:e 1<=29:=fd (a:=2) (aA (h 1 (by omega) (by omega)) (aB _ (Nat.pow_le_pow_left h2 1))) (by decide+kernel);intro k hk1 hk2
 match k,hk1,hk2 with
 |1,_,_=>exact aC h1 (by decide)
 |2,_,_=>exact aC h2 (by decide)
 |3,_,_=>exact aC h3 (by decide)
 |4,_,_=>exact aC h4 (by decide)
 |5,_,_=>exact aC h5 (by decide)
 |6,_,_=>exact aC h6 (by decide)
 |7,_,_=>exact aC h7 (by decide)
 |k+8,_,hk2=>omega
theorem SG {e:Nat->Nat} (h: ∀k,1<=k->k<8->e k^(k+1)<=2^AQ k*e (k+1)^k) (h8:e 8<=10000): ∀k,1<=k->k<=8->e k<65536:=by
 have h7:e 7<=35777:=fd (a:=8) (aA (h 7 (by omega) (by omega)) (aB _ (Nat.pow_le_pow_left h8 7))) (by decide+kernel);have h6:e 6<=63999:=fd (a:=7) (aA (h 6 (by omega) (by omega)) (aB _ (Nat.pow_le_pow_left h7 6))) (by decide+kernel);have h5:e 5<=57242:=fd (a:=6) (aA (h 5 (by omega) (by omega)) (aB _ (Nat.pow_le_pow_left h6 5))) (by decide+kernel);have h4:e 4<=25599:=fd (a:=5) (aA (h 4 (by omega) (by omega)) (aB _ (Nat.pow_le_pow_left h5 4))) (by decide+kernel);have h3:e 3<=5724:=fd (a:=4) (aA (h 3 (by omega) (by omega)) (aB _ (Nat.pow_le_pow_left h4 3))) (by decide+kernel);have h2:e 2<=639:=fd (a:=3) (aA (h 2 (by omega) (by omega)) (aB _ (Nat.pow_le_pow_left h3 2))) (by decide+kernel);have h1:e 1<=35:=fd (a:=2) (aA (h 1 (by omega) (by omega)) (aB _ (Nat.pow_le_pow_left h2 1))) (by decide+kernel);intro k hk1 hk2
 match k,hk1,hk2 with
 |1,_,_=>exact aC h1 (by decide)
 |2,_,_=>exact aC h2 (by decide)
 |3,_,_=>exact aC h3 (by decide)
 |4,_,_=>exact aC h4 (by decide)
 |5,_,_=>exact aC h5 (by decide)
 |6,_,_=>exact aC h6 (by decide)
 |7,_,_=>exact aC h7 (by decide)
 |8,_,_=>exact aC h8 (by decide)
 |k+9,_,hk2=>omega
theorem Rx {e:Nat->Nat} {n:Nat} (h0:e 0=1) (hp: ∀k,k<=n->0<e k) (h: ∀k,k+1<n->e (k+1)*e (k+1)<=2*(e k*e (k+2))):
  ∀k,k<n->e k^(k+1)<=2^AQ k*e (k+1)^k
 |0,_=>by simp[h0,AQ]
 |k+1,hk=>by
  have ih:=Rx h0 hp h k (by omega);have h1:=Nat.pow_le_pow_left (h k (by omega)) (k+1);have e1:(e (k+1)*e (k+1))^(k+1)=e (k+1)^k*e (k+1)^(k+1+1):=by
   rw[Nat.mul_pow,<- Nat.pow_add,<- Nat.pow_add];congr 1;omega
  have e2:(2*(e k*e (k+2)))^(k+1)=2^(k+1)*(e k^(k+1)*e (k+2)^(k+1)):=by rw[Nat.mul_pow,Nat.mul_pow]
  rw[e1,e2]at h1;have h2:2^(k+1)*(e k^(k+1)*e (k+2)^(k+1))<=2^(k+1)*((2^AQ k*e (k+1)^k)*e (k+2)^(k+1)):=aB _ (Nat.mul_le_mul_right _ ih);have e3:2^(k+1)*((2^AQ k*e (k+1)^k)*e (k+2)^(k+1))=e (k+1)^k*(2^AQ (k+1)*e (k+1+1)^(k+1)):=by
   rw[AQ,Nat.pow_add 2 (AQ k)];generalize 2^(k+1)=A;generalize e (k+2)^(k+1)=B;generalize 2^AQ k=C;generalize e (k+1)^k=D;grind
  rw[e3]at h2;exact Nat.le_of_mul_le_mul_left (aA h1 h2) (Nat.pow_pos (hp (k+1) (by omega)))
theorem It {e:Nat->Nat} {n:Nat} (h1:1<=n) (h8:n<=8) (h: ∀k,1<=k->k<n->e k^(k+1)<=2^AQ k*e (k+1)^k) (hn:e n<=10000): ∀k,1<=k->k<=n->e k<65536:=by
 match n,h1,h8 with
 |1,_,_=>exact Sy h hn
 |2,_,_=>exact SA h hn
 |3,_,_=>exact SB h hn
 |4,_,_=>exact SC h hn
 |5,_,_=>exact SD h hn
 |6,_,_=>exact SE h hn
 |7,_,_=>exact SF h hn
 |8,_,_=>exact SG h hn
 |n+9,_,h8=>omega
theorem kh {R:FF} {n:Nat} (h1:1<=n) (h8:n<=8) (h:RedR R n): ∀k,k<n->dk R (k+1)<65536:=by
 obtain⟨_,hp,hd,hl⟩:=h;have hpos: ∀k,k<=n->0<dk R k:=fun k hk=>kf (fun t ht=>hp t (by omega))
 intro k hk;have hh:=Rx (e:=fun k=>(dk R k).toNat) (n:=n) (by rw[da];rfl) (fun k hk=>by have:=hpos k hk;omega) (fun k hk=>?_)
 ·have:=It h1 h8 (fun k _ hk=>hh k hk) (by omega) (k+1) (by omega) (by omega);omega
 obtain⟨hs,hlv⟩:=hl k hk;have h1:=hs (k+1) (by omega) (by omega);have m:=my h1 h1 (by have:=hpos (k+1) (by omega);omega) (by have:=hpos (k+1) (by omega);omega);unfold OF at hlv;have e1:2*bk R k (k+1) k*(2*bk R k (k+1) k)=4*(bk R k (k+1) k*bk R k (k+1) k):=by grind
 have e2:3*dk R (k+1)*dk R (k+1)=3*(dk R (k+1)*dk R (k+1)):=by grind
 rw[e1]at m;rw[e2]at hlv;have p0:=hpos k (by omega);have p1:=hpos (k+1) (by omega);have p2:=hpos (k+2) (by omega);have c0:((dk R k).toNat:Int)=dk R k:=Int.toNat_of_nonneg (by omega);have c1:((dk R (k+1)).toNat:Int)=dk R (k+1):=Int.toNat_of_nonneg (by omega);have c2:((dk R (k+2)).toNat:Int)=dk R (k+2):=Int.toNat_of_nonneg (by omega);have:(((dk R (k+1)).toNat*(dk R (k+1)).toNat:Nat):Int)<=((2*((dk R k).toNat*(dk R (k+2)).toNat):Nat):Int):=by
  push_cast
  rw[c0,c1,c2];have:dk R (k+2)=dk R (k+1+1):=rfl;rw[this];omega
 exact Int.ofNat_le.1 this
theorem QH {C D E x a b y:Int} (hC:0<=C) (hD:0<D) (hE:0<E) (hE2:E<65536) (h:D*y=E*x-a*b) (hy: -(C*E)<=y/\y<=C*E) (ha: -E<=2*a/\2*a<=E) (hb: -E<=2*b/\2*b<=E):
  -((C+16384)*D)<=x/\x<=(C+16384)*D:=by
 have hab:=my ha hb (by omega) (by omega);have e4:2*a*(2*b)=4*(a*b):=by grind
 rw[e4]at hab;have hEE:E*E<=65536*E:=Int.mul_le_mul_of_nonneg_right (by omega) (by omega);have hED:E*1<=E*D:=Int.mul_le_mul_of_nonneg_left (by omega) (by omega);have h1:D*y<=D*(C*E):=Int.mul_le_mul_of_nonneg_left hy.2 (by omega);have h2:D*(-(C*E))<=D*y:=Int.mul_le_mul_of_nonneg_left hy.1 (by omega);have e5:D*(-(C*E))= -(C*(E*D)):=by grind
 have e6:D*(C*E)=C*(E*D):=by grind
 rw[e6]at h1;rw[e5]at h2;constructor
 ·rcases Int.lt_or_le x (-((C+16384)*D))with hlt|hle
  ·exfalso;have:=Int.mul_le_mul_of_nonneg_left (show x<= -((C+16384)*D)-1 by omega) (show 0<=E by omega);have e7:E*(-((C+16384)*D)-1)= -(C*(E*D))-16384*(E*D)-E:=by grind
   rw[e7]at this;omega
  exact hle
 rcases Int.lt_or_le ((C+16384)*D) x with hlt|hle
 ·exfalso;have:=Int.mul_le_mul_of_nonneg_left (show(C+16384)*D+1<=x by omega) (show 0<=E by omega);have e7:E*((C+16384)*D+1)=C*(E*D)+16384*(E*D)+E:=by grind
  rw[e7]at this;omega
 exact hle
theorem uZ {R:FF} {n:Nat} (hs: ∀i,i<n-> ∀j,j<n->R i j=R j i) (hp: ∀k,k<n->0<dk R (k+1)) (hp2: ∀k,k<n->dk R (k+1)<65536) (hz: ∀t,t+1<n->FL R n t)
  {i:Nat} (hi:i<n): ∀m j k:Nat,j=k+m->j<=i-> -((65535+(m:Int)*16384)*dk R k)<=bk R k i j/\bk R k i j<=(65535+(m:Int)*16384)*dk R k
 |0,j,k,hjk,hj=>by
  have hjk:j=k:=by omega
  subst hjk;have hD:0<dk R j:=kf (fun t ht=>hp t (by omega));have hE:=hp j (by omega);have hE2:=hp2 j (by omega);have hle: -(dk R (j+1))<=bk R j i j/\bk R j i j<=dk R (j+1):=by
   by_cases e:i=j
   ·subst e;rw[<- ca];omega
   have:=hz j (by omega) i hi (by omega);omega
  have:(65535:Int)*1<=65535*dk R j:=Int.mul_le_mul_of_nonneg_left (by omega) (by omega);have e:((65535:Int)+(0:Nat)*16384)=65535:=by omega
  show -((65535+((0:Nat):Int)*16384)*dk R j)<=_/\_<=(65535+((0:Nat):Int)*16384)*dk R j;rw[e];omega
 |m+1,j,k,hjk,hj=>by
  have ih:=uZ hs hp hp2 hz hi m j (k+1) (by omega) hj;have hne: ∀t,t<k->dk R (t+1)≠0:=fun t ht=>by have:=hp t (by omega);omega
  have hD:0<dk R k:=kf (fun t ht=>hp t (by omega));have h1:=hz k (by omega) i hi (by omega);have h2:=hz k (by omega) j (by omega) (by omega);rw[ju hs k (by omega) hne j k (by omega) (by omega)]at h2;have:=QH (C:=65535+m*16384) (by omega) hD (hp k (by omega)) (hp2 k (by omega)) (sylv R k hne i j) ih h1 h2;have e:((65535:Int)+(m+1:Nat)*16384)=65535+m*16384+16384:=by omega
  rw[e];exact this
theorem iP {R:FF} {n:Nat} (h1:1<=n) (h8:n<=8) (h:RedR R n): ∀i,i<n-> ∀j,j<n-> -262144<R i j/\R i j<262144:=by
 have hsm:=kh h1 h8 h;obtain⟨hs,hp,hd,hl⟩:=h;have key: ∀i,i<n-> ∀j,j<=i-> -262144<R i j/\R i j<262144:=by
  intro i hi j hj;have:=uZ hs hp hsm (fun t ht=>(hl t ht).1) hi j j 0 (by omega) hj;rw[dz,da,Int.mul_one]at this;have hj8:(j:Int)<=7:=by omega
  omega
 intro i hi j hj;rcases Nat.le_total j i with h|h
 ·exact key i hi j h
 rw[hs i hi j hj];exact key j hj i h
def Sf (rows:List (List Int)):Prop:=1<=rows.length/\rows.length<=8/\Sq rows/\RedR (ent rows) rows.length
theorem fk (rows:List (List Int)):b8 rows=true↔Sf rows:=by
 have hst:Vf (ent rows) rows.length 0 rows:=⟨by omega,fun i j _ _=>by rw[dz];simp⟩;unfold b8;rw[Bool.and_eq_true,decide_eq_true_iff];constructor
 ·rintro⟨⟨h1,h8,hsq,hsm⟩,hr⟩;have hs: ∀i,i<rows.length-> ∀j,j<rows.length->ent rows i j=ent rows j i:=fun i hi j hj=>(hsm i hi j hj).1
  have:=(ww h8 hs (fun i hi j hj=>by have:=(hsm i hi j hj).2;omega) rows.length 0 rows (by omega) (by omega) (fun t ht=>by omega) hst).1 hr;refine⟨h1,h8,hsq,hs,fun k hk=>?_,this.2.2,fun t ht=>?_⟩
  ·by_cases e:k+1=rows.length
   ·rw[e];exact this.2.1
   exact(this.1 k (by omega) (by omega)).1.1
  have h:=this.1 t (by omega) ht;exact⟨h.1.2.2,h.2⟩
 rintro⟨h1,h8,hsq,hr⟩;have hes:=iP h1 h8 hr;have hds:=kh h1 h8 hr;obtain⟨hs,hp,hd,hl⟩:=hr;refine⟨⟨h1,h8,hsq,fun i hi j hj=>⟨hs i hi j hj,hes i hi j hj⟩⟩,?_⟩;refine(ww h8 hs (fun i hi j hj=>by have:=hes i hi j hj;omega) rows.length 0 rows (by omega) (by omega) (fun t ht=>by omega) hst).2 ⟨fun t _ ht=>?_,?_,hd⟩
 ·exact⟨⟨hp t (by omega),hds t (by omega),(hl t ht).1⟩,(hl t ht).2⟩
 have:=hp (rows.length-1) (by omega);rw[show rows.length-1+1=rows.length by omega]at this;exact this
def bj (m:Nat) (g:Nat->Int):List Int:=(List.range m).map g
def bi (n m:Nat) (f:FF):List (List Int):=(List.range n).map fun i=>bj m (f i)
theorem bf (m:Nat) (g:Nat->Int):(bj m g).length=m:=by simp[bj]
theorem aW (n m:Nat) (f:FF):(bi n m f).length=n:=by simp[bi]
theorem aQ {m j:Nat} (g:Nat->Int) (h:j<m):(bj m g)[j]?=some (g j):=by simp[bj,h]
theorem bx {n i:Nat} (m:Nat) (f:FF) (h:i<n):(bi n m f)[i]?=some (bj m (f i)):=by simp[bi,h]
theorem gn {m:Nat} {g g':Nat->Int} (h: ∀j,j<m->g j=g' j):bj m g=bj m g':=List.map_congr_left fun j hj=>h j (List.mem_range.1 hj)
theorem ig {n m:Nat} {f f':FF} (h: ∀i j,i<n->j<m->f i j=f' i j):bi n m f=bi n m f':=
 List.map_congr_left fun i hi=>gn fun j hj=>h i j (List.mem_range.1 hi) hj
theorem rp {m j:Nat} (g:Nat->Int) (v:Int):(bj m g).set j v=bj m (fun c=>if c=j then v else g c):=by
 apply List.ext_getElem?;intro c;rw[List.getElem?_set];by_cases hc:c<m
 ·rw[aQ _ hc,aQ _ hc,bf];by_cases e:j=c
  ·subst e;simp[hc]
  simp[e,Ne.symm e]
 rw[ar (l:=bj m g) (by rw[bf];omega),ar (l:=bj m _) (by rw[bf];omega),bf];by_cases e:j=c
 ·subst e;simp[hc]
 simp[e]
theorem GL {n m i:Nat} (f:FF) (g:Nat->Int):(bi n m f).set i (bj m g)=bi n m (fun r=>if r=i then g else f r):=by
 apply List.ext_getElem?;intro c;rw[List.getElem?_set];by_cases hc:c<n
 ·rw[bx _ _ hc,bx _ _ hc,aW];by_cases e:i=c
  ·subst e;simp[hc]
  simp[e,Ne.symm e]
 rw[ar (l:=bi n m f) (by rw[aW];omega),ar (l:=bi n m _) (by rw[aW];omega),aW];by_cases e:i=c
 ·subst e;simp[hc]
 simp[e]
theorem M4 (l:List Int):l=bj l.length fun j=>l.getD j 0:=by
 apply List.ext_getElem?;intro c;by_cases hc:c<l.length
 ·rw[aQ _ hc,List.getD_eq_getElem?_getD,List.getElem?_eq_getElem hc];rfl
 rw[ar (by omega),ar (by rw[bf];omega)]
theorem zW {M:List (List Int)} {m:Nat} (h: ∀r∈M,r.length=m):M=bi M.length m (ent M):=by
 apply List.ext_getElem?;intro c;by_cases hc:c<M.length
 ·rw[bx _ _ hc,List.getElem?_eq_getElem hc];have e:=M4 M[c];rw[h _ (List.getElem_mem hc)]at e;rw[e]
  congr 1
  refine gn fun j hj=>?_
  simp only[ent,List.getD_eq_getElem?_getD,List.getElem?_eq_getElem hc,Option.getD_some]
 rw[ar (by omega),ar (by rw[aW];omega)]
theorem zz {n m i j:Nat} (f:FF) (hi:i<n) (hj:j<m):ent (bi n m f) i j=f i j:=by
 simp only[ent,List.getD_eq_getElem?_getD,bx _ _ hi,Option.getD_some,aQ _ hj]
def piv (f:FF) (n k p:Nat):Nat:=if p<n then(if f p k=0 then piv f n k (p+1)else p)else n
termination_by n-p
def swp (p k:Nat) (f:FF):Nat->Nat->Int:=fun i=>if i=p then f k else if i=k then f p else f i
def Kb (k:Nat) (last:Int) (f:FF):Nat->Nat->Int:=fun i j=>if k<i/\k<j then(f k k*f i j-f i k*f k j)/last else f i j
def Ug (n k:Nat) (f:FF):Nat->Nat->Int:=swp (piv f n k k) k f
def detG (n k:Nat) (f:FF) (last:Int) (neg:Bool):Int:=
 if k<n then(if piv f n k k=n then 0 else detG n (k+1) (Kb k last (Ug n k f)) (Ug n k f k k) (neg !=decide (k<piv f n k k)))
 else if neg then -last else last
termination_by n-k
def detF (n:Nat) (f:FF):Int:=detG n 0 f 1 false
theorem Ai {f:FF} {n k p:Nat} (h:p<n) (h0:f p k=0):piv f n k p=piv f n k (p+1):=by rw[piv,if_pos h,if_pos h0]
theorem Ah {f:FF} {n k p:Nat} (h:p<n) (h0:f p k≠0):piv f n k p=p:=by rw[piv,if_pos h,if_neg h0]
theorem uk {f:FF} {n k p:Nat} (h: ¬p<n):piv f n k p=n:=by rw[piv,if_neg h]
theorem wX (k:Nat) (f:FF):swp k k f=f:=by
 funext i;unfold swp;by_cases h:i=k
 ·subst h;simp
 simp[h]
theorem Gh {f:FF} {n:Nat} (hd: ∀t,t+1<n->dk f (t+1)≠0): ∀m k g,n-k=m->k<=n->(∀i j,k<=i->i<n->k<=j->j<n->g i j=bk f k i j)->detG n k g (dk f k) false=dk f n
 |0,k,g,hm,hk,_=>by
  have:k=n:=by omega
  subst this;rw[detG,if_neg (by omega)];rfl
 |m+1,k,g,hm,hk,hg=>by
  have hkk:g k k=dk f (k+1):=by rw[hg k k (by omega) (by omega) (by omega) (by omega),ca]
  rw[detG,if_pos (show k<n by omega)];by_cases h0:g k k=0
  ·have hn:k+1=n:=by
    by_cases e:k+1<n
    ·exact absurd (hkk▸h0) (hd k e)
    omega
   rw[Ai (by omega) h0,uk (by omega),if_pos rfl,<- hn,<- hkk,h0]
  have hp:piv g n k k=k:=Ah (by omega) h0;rw[hp,if_neg (by omega),Ug,hp,wX,hkk];have hne:dk f k≠0:=by
   cases k with
   |zero=>rw[da];omega
   |succ k=>exact hd k (by omega)
  rw[show(false !=decide (k<k))=false by simp];refine Gh hd m (k+1) _ (by omega) (by omega) fun i j hi hin hj hjn=>?_
  have hs:=sylv f k (fun t ht=>hd t (by omega)) i j;show(if k<i/\k<j then _ else _)=_;rw[if_pos ⟨by omega,by omega⟩,hkk,hg i j (by omega) hin (by omega) hjn,hg i k (by omega) hin (by omega) (by omega),hg k j (by omega) (by omega) (by omega) hjn,<- hs,Int.mul_ediv_cancel_left _ hne]
theorem mn {f:FF} {n:Nat} (hd: ∀t,t+1<n->dk f (t+1)≠0):detF n f=dk f n:=
 Gh hd n 0 f rfl (by omega) fun i j _ _ _ _=>(dz f i j).symm
theorem v8 {f g:FF}: ∀{k:Nat},(∀i,i<k->f i=g i)->om f k=om g k
 |0,_=>rfl
 |k+1,h=>by rw[om,om,h k (by omega),v8 fun i hi=>h i (by omega)]
theorem ss {r s:Nat->Int}: ∀(cs:List Nat) {f g:List Nat->Int},(∀c∈cs,r c=s c)->(∀l,(∀c∈l,c∈cs)->f l=g l)->dR r f cs=dR s g cs
 |[],_,_,_,_=>rfl
 |c::cs,f,g,h,hf=>by
  rw[dR,dR,h c List.mem_cons_self,hf cs (fun c hc=>List.mem_cons_of_mem _ hc),ss cs (fun c hc=>h c (List.mem_cons_of_mem _ hc)) (fun l hl=>hf (c::l) (fun d hd=>by
   rcases List.mem_cons.1 hd with rfl|hd
   ·exact List.mem_cons_self
   exact List.mem_cons_of_mem _ (hl d hd)))]
theorem oW {f g:FF}: ∀{k:Nat} {cs:List Nat},(∀i,i<k-> ∀c∈cs,f i c=g i c)->om f k cs=om g k cs
 |0,_,_=>rfl
 |k+1,cs,h=>by
  show dR (f k) (om f k) cs=dR (g k) (om g k) cs;exact ss cs (fun c hc=>h k (by omega) c hc) (fun l hl=>oW fun i hi c hc=>h i (by omega) c (hl c hc))
theorem iu {f g:FF} {k:Nat} (h: ∀i j,i<k->j<k->f i j=g i j):dk f k=dk g k:=oW fun i hi c hc=>h i c hi (jv hc)
theorem D7 {f g:FF} {i j:Nat} (h: ∀r c,r<j->c<=j->g r c=f r c) (hi: ∀c,c<=j->g j c=f i c):dk g (j+1)=bk f j i j:=by
 rw[ca,bk,bk];refine ss _ (fun c hc=>?_) (fun l hl=>oW fun r hr c hc=>?_)
 ·rcases List.mem_cons.1 hc with rfl|hc
  ·exact hi c (by omega)
  exact hi c (by have:=jv hc;omega)
 have:=hl c hc;rcases List.mem_cons.1 this with rfl|this
 ·exact h r c hr (by omega)
 exact h r c hr (by have:=jv this;omega)
def m0 (f:FF) (i j:Nat):Nat->Nat->Int:=fun r c=>if r<j then f r c else f i c
def lam (f:FF) (i j:Nat):Int:=detF (j+1) (m0 f i j)
def dd (f:FF) (k:Nat):Int:=if k=0 then 1 else detF k f
def SymF (f:FF) (n:Nat):Prop:= ∀i,i<n-> ∀j,j<n->f i j=f j i
def A2 (f:FF) (n:Nat):Prop:= ∀k,k<n->0<detF (k+1) f
def SizF (f:FF) (i j:Nat):Prop:=2*((lam f i j).natAbs:Int)<=dd f (j+1)
def LovF (f:FF) (i:Nat):Prop:=3*(dd f i*dd f i)<=4*(dd f (i-1)*dd f (i+1)+lam f i (i-1)*lam f i (i-1))
def Sg (f:FF) (n:Nat):Prop:= ∀i,i<n->(∀j,j<i->SizF f i j)/\(0<i->LovF f i)
theorem Aj {f:FF} {n:Nat} (h:A2 f n): ∀k,k<n->0<dk f (k+1)/\detF (k+1) f=dk f (k+1):=by
 intro k
 induction k using Nat.strongRecOn with
 |ind k ih=>
  intro hk;have e:detF (k+1) f=dk f (k+1):=mn fun t ht=>by have:=(ih t (by omega) (by omega)).1;omega
  exact⟨e▸h k hk,e⟩
theorem qE {f:FF} {n:Nat} (h: ∀k,k<n->0<dk f (k+1)): ∀k,k<n->detF (k+1) f=dk f (k+1):=fun k hk=>
 mn fun t ht=>by have:=h t (by omega);omega
theorem kN {f:FF} {n:Nat} (h: ∀k,k<n->0<dk f (k+1)) {k:Nat} (hk:k<=n):dd f k=dk f k:=by
 cases k with
 |zero=>rfl
 |succ k=>exact qE h k (by omega)
theorem pP {f:FF} {n:Nat} (h: ∀k,k<n->0<dk f (k+1)) {i j:Nat} (hj:j<n):lam f i j=bk f j i j:=by
 have e: ∀t,t+1<j+1->dk (m0 f i j) (t+1)=dk f (t+1):=fun t ht=>iu fun r c hr hc=>by
  unfold m0;rw[if_pos (by omega)]
 rw[lam,mn (fun t ht=>by rw[e t ht];have:=h t (by omega);omega)];refine D7 (fun r c hr hc=>?_) (fun c hc=>?_)
 ·unfold m0;rw[if_pos hr]
 unfold m0;rw[if_neg (by omega)]
theorem un {f:FF} {n:Nat} (hn:1<=n):(SymF f n/\A2 f n/\detF n f<=10000/\Sg f n)↔RedR f n:=by
 constructor
 ·rintro⟨h1,h2,h3,h4⟩;have hp: ∀k,k<n->0<dk f (k+1):=fun k hk=>(Aj h2 k hk).1
  have hdn:detF n f=dk f n:=by
   have:=(Aj h2 (n-1) (by omega)).2;rwa[show n-1+1=n by omega]at this
  refine⟨h1,hp,hdn▸h3,fun t ht=>⟨fun i hi hti=>?_,?_⟩⟩
  ·have:=(h4 i hi).1 t hti;rw[SizF,pP hp (by omega),kN hp (by omega)]at this;omega
  have:=(h4 (t+1) ht).2 (by omega);rw[LovF,pP hp (by omega),kN hp (by omega),kN hp (by omega),kN hp (by omega)]at this;rw[Nat.add_sub_cancel]at this;rw[OF,Int.mul_assoc];exact this
 rintro⟨h1,hp,h3,h4⟩;have hdn:detF n f=dk f n:=by
  have:=qE hp (n-1) (by omega);rwa[show n-1+1=n by omega]at this
 refine⟨h1,fun k hk=>?_,hdn.symm▸h3,fun i hi=>⟨fun j hj=>?_,fun h0=>?_⟩⟩
 ·rw[qE hp k hk];exact hp k hk
 ·have:=(h4 j (by omega)).1 i hi hj;rw[SizF,pP hp (by omega),kN hp (by omega)];omega
 have:=(h4 (i-1) (by omega)).2;rw[OF,Int.mul_assoc,show i-1+1=i by omega]at this;rw[LovF,pP hp (by omega),kN hp (by omega),kN hp (by omega),kN hp (by omega)];exact this
section
def fA (f:FF) (i j:Nat) (c:Int):Nat->Nat->Int:=fun a b=>f a b+(if a=i then c*f j b else 0)+(if b=i then c*f a j else 0)+(if a=i then(if b=i then c*c*f j j else 0)else 0)
def o9 (m a:Nat):Nat:=if a=m then m+1 else if a=m+1 then m else a
def jW (f:FF) (m:Nat):Nat->Nat->Int:=fun a b=>f (o9 m a) (o9 m b)
theorem Nv {m a:Nat} (h:a<m):o9 m a=a:=by unfold o9;rw[if_neg (by omega),if_neg (by omega)]
theorem Aw {m a:Nat} (h:m+1<a):o9 m a=a:=by unfold o9;rw[if_neg (by omega),if_neg (by omega)]
theorem CZ (m:Nat):o9 m m=m+1:=by simp[o9]
theorem Ax (m:Nat):o9 m (m+1)=m:=by simp[o9]
theorem qb {m a n:Nat} (hm:m+1<n) (h:a<n):o9 m a<n:=by unfold o9;split<;>(try split)<;>omega
theorem Gl {f:FF} {k:Nat} (h: ∀t,t<k->dk f (t+1)≠0):dk f k≠0:=by
 cases k with
 |zero=>rw[da];omega
 |succ k=>exact h k (by omega)
theorem uX {g:FF} {i j a b:Nat} {c:Int} (ha:a≠i) (hb:b≠i):fA g i j c a b=g a b:=by
 unfold fA;rw[if_neg ha,if_neg hb,if_neg ha];omega
theorem KQ {f:FF} {i j:Nat} {c:Int} (hji:j<i): ∀k,k<=j+1->(∀t,t<k->dk f (t+1)≠0)->(∀k',k'<=k->dk (fA f i j c) k'=dk f k')/\ ∀a b,bk (fA f i j c) k a b=fA (bk f k) i j c a b
 |0,_,_=>⟨fun k' h=>by have:k'=0:=(by omega);subst this;rfl,fun a b=>by rw[dz];unfold fA;simp only[dz]⟩
 |k+1,hk,hd=>by
  obtain⟨h1,h2⟩:=KQ (c:=c) hji k (by omega) (fun t ht=>hd t (by omega));have e1:dk (fA f i j c) (k+1)=dk f (k+1):=by rw[ca,h2,uX (by omega) (by omega),ca]
  have hd': ∀t,t<k->dk (fA f i j c) (t+1)≠0:=fun t ht=>by rw[h1 (t+1) (by omega)];exact hd t (by omega)
  refine⟨fun k' h=>?_,fun a b=>?_⟩
  ·by_cases e:k'=k+1
   ·subst e;exact e1
   exact h1 k' (by omega)
  have hne:=Gl (f:=f) (k:=k) (fun t ht=>hd t (by omega));have s:=sylv (fA f i j c) k hd' a b;rw[h1 k (by omega),e1,h2 a b,h2 a k,h2 k b]at s;have s1:=sylv f k (fun t ht=>hd t (by omega)) a b;have s2:=sylv f k (fun t ht=>hd t (by omega)) j b;have s3:=sylv f k (fun t ht=>hd t (by omega)) a j;have s4:=sylv f k (fun t ht=>hd t (by omega)) j j;refine Int.eq_of_mul_eq_mul_left hne ?_;rw[s];have hki: ¬k=i:=by omega
  unfold fA;by_cases ha:a=i
  ·by_cases hb:b=i
   ·simp only[ha,hb,hki,if_true,if_false];subst ha;subst hb;grind
   simp only[ha,hb,hki,if_true,if_false];subst ha;grind
  by_cases hb:b=i
  ·simp only[ha,hb,hki,if_true,if_false];subst hb;grind
  simp only[ha,hb,hki,if_false];grind
theorem FY {f g:FF} {n k0:Nat} (hf: ∀t,t<n->dk f (t+1)≠0) (hg: ∀t,t<k0->dk g (t+1)≠0) (hd:dk g k0=dk f k0) (h0: ∀a b,a<n->b<n->bk g k0 a b=bk f k0 a b):
  ∀k,k0<=k->k<=n->(∀k',k0<=k'->k'<=k->dk g k'=dk f k')/\ ∀a b,a<n->b<n->bk g k a b=bk f k a b:=by
 intro k
 induction k with
 |zero=>exact fun h1 h2=>⟨fun k' g1 g2=>by have:k'=k0:=(by omega);subst this;exact hd,fun a b ha hb=>by have:k0=0:=(by omega);subst this;exact h0 a b ha hb⟩
 |succ k ih=>
  intro h1 h2;by_cases e:k0=k+1
  ·subst e;exact⟨fun k' g1 g2=>by have:k'=k+1:=(by omega);subst this;exact hd,h0⟩
  obtain⟨p1,p2⟩:=ih (by omega) (by omega);have e1:dk g (k+1)=dk f (k+1):=by rw[ca,p2 k k (by omega) (by omega),ca]
  have hg': ∀t,t<k->dk g (t+1)≠0:=fun t ht=>by
   by_cases h:t<k0
   ·exact hg t h
   rw[p1 (t+1) (by omega) (by omega)];exact hf t (by omega)
  refine⟨fun k' g1 g2=>?_,fun a b ha hb=>?_⟩
  ·by_cases e:k'=k+1
   ·subst e;exact e1
   exact p1 k' g1 (by omega)
  have hne:=Gl (f:=f) (k:=k) (fun t ht=>hf t (by omega));have s:=sylv g k hg' a b;have s1:=sylv f k (fun t ht=>hf t (by omega)) a b;rw[p1 k (by omega) (by omega),e1,p2 a b ha hb,p2 a k ha (by omega),p2 k b (by omega) hb,<- s1]at s;exact Int.eq_of_mul_eq_mul_left hne s
section
variable {f:FF} {n:Nat}
theorem DX (hs:SymF f n) (hp: ∀t,t<n->dk f (t+1)≠0) {k a t:Nat} (hk:k<=n) (ht:t<k) (ha:a<n):bk f k a t=0:=by
 rw[ju hs k hk (fun t ht=>hp t (by omega)) a t ha (by omega),jH f ht]
theorem j8 (hs:SymF f n) (hp: ∀t,t<n->dk f (t+1)≠0) {i j:Nat} (c:Int) (hji:j<i) (hi:i<n):
  (∀k,k<=n->dk (fA f i j c) k=dk f k)/\(∀k a b,k<=j->bk (fA f i j c) k a b=fA (bk f k) i j c a b)/\ ∀k a b,j<k->k<=n->a<n->b<n->bk (fA f i j c) k a b=bk f k a b:=by
 have hlo:=KQ (f:=f) (c:=c) hji;obtain⟨h1,h2⟩:=hlo (j+1) (ac _) (fun t ht=>hp t (by omega));have h0: ∀a b,a<n->b<n->bk (fA f i j c) (j+1) a b=bk f (j+1) a b:=fun a b ha hb=>by
  rw[h2];unfold fA;rw[jH f (show j<j+1 by omega) b,jH f (show j<j+1 by omega) j,DX hs hp (by omega) (show j<j+1 by omega) ha]
  simp
 have hsame:=FY (f:=f) (g:=fA f i j c) (n:=n) (k0:=j+1) hp (fun t ht=>by rw[h1 (t+1) (by omega)];exact hp t (by omega)) (h1 (j+1) (by omega)) h0;refine⟨fun k hk=>?_,fun k a b hk=>(hlo k (by omega) (fun t ht=>hp t (by omega))).2 a b,fun k a b hjk hk ha hb=>(hsame k (by omega) hk).2 a b ha hb⟩;by_cases h:k<=j+1
 ·exact h1 k h
 exact(hsame k (by omega) hk).1 k (by omega) (by omega)
theorem zh {m:Nat}: ∀k,k<=m->(∀t,t<k->dk f (t+1)≠0)->(∀k',k'<=k->dk (jW f m) k'=dk f k')/\ ∀a b,bk (jW f m) k a b=bk f k (o9 m a) (o9 m b)
 |0,_,_=>⟨fun k' h=>by have:k'=0:=(by omega);subst this;rfl,fun a b=>by rw[dz,dz];rfl⟩
 |k+1,hk,hd=>by
  obtain⟨h1,h2⟩:=zh (m:=m) k (by omega) (fun t ht=>hd t (by omega));have e1:dk (jW f m) (k+1)=dk f (k+1):=by rw[ca,h2,Nv (by omega),ca]
  have hd': ∀t,t<k->dk (jW f m) (t+1)≠0:=fun t ht=>by rw[h1 (t+1) (by omega)];exact hd t (by omega)
  refine⟨fun k' h=>?_,fun a b=>?_⟩
  ·by_cases e:k'=k+1
   ·subst e;exact e1
   exact h1 k' (by omega)
  have hne:=Gl (f:=f) (k:=k) (fun t ht=>hd t (by omega));have s:=sylv (jW f m) k hd' a b;rw[h1 k (by omega),e1,h2 a b,h2 a k,h2 k b,Nv (show k<m by omega)]at s;have s1:=sylv f k (fun t ht=>hd t (by omega)) (o9 m a) (o9 m b);refine Int.eq_of_mul_eq_mul_left hne ?_;rw[s,s1]
theorem Vt (xmm x11 x1m xm1 xab xam xmb xa1 x1b:Int):(xmm*x11-x1m*xm1)*(xmm*xab-xam*xmb)-(xmm*xa1-xam*xm1)*(xmm*x1b-x1m*xmb)=xmm*(xmm*x11*xab-x11*xam*xmb-x1m*xm1*xab+xam*xm1*x1b+xa1*x1m*xmb-xmm*xa1*x1b):=by grind
theorem Vu (xmm x11 x1m xm1 xab xam xmb xa1 x1b:Int):(x11*xmm-xm1*x1m)*(x11*xab-xa1*x1b)-(x11*xam-xa1*x1m)*(x11*xmb-xm1*x1b)=x11*(xmm*x11*xab-x11*xam*xmb-x1m*xm1*xab+xam*xm1*x1b+xa1*x1m*xmb-xmm*xa1*x1b):=by grind
theorem wW (hs:SymF f n) (hp: ∀t,t<n->0<dk f (t+1)) {m:Nat} (hm:m+1<n):
  dk f (m+1)*dk (jW f m) (m+1)=dk f m*dk f (m+2)+bk f m (m+1) m*bk f m (m+1) m/\0<dk (jW f m) (m+1):=by
 have hne: ∀t,t<n->dk f (t+1)≠0:=fun t ht=>by have:=hp t ht;omega
 obtain⟨h1,h2⟩:=zh (f:=f) (m:=m) m (ac _) (fun t ht=>hne t (by omega));have e:dk (jW f m) (m+1)=bk f m (m+1) (m+1):=by rw[ca,h2,CZ]
 have s:=sylv f m (fun t ht=>hne t (by omega)) (m+1) (m+1);have hsy:=ju hs m (by omega) (fun t ht=>hne t (by omega)) m (m+1) (by omega) (by omega);rw[hsy,<- ca f (m+1)]at s;have key:dk f (m+1)*dk (jW f m) (m+1)=dk f m*dk f (m+2)+bk f m (m+1) m*bk f m (m+1) m:=by rw[e,s];omega
 refine⟨key,?_⟩;have p1:=hp m (by omega);have p2:=hp (m+1) hm;have p0:0<dk f m:=by
  cases m with
  |zero=>rw[da];omega
  |succ m=>exact hp m (by omega)
 have q1:0<dk f m*dk f (m+2):=Int.mul_pos p0 p2;have q2:0<=bk f m (m+1) m*bk f m (m+1) m:=by
  rcases Int.le_total 0 (bk f m (m+1) m)with h|h
  ·exact Int.mul_nonneg h h
  exact Int.mul_nonneg_of_nonpos_of_nonpos h h
 rcases Int.lt_or_le 0 (dk (jW f m) (m+1))with h|h
 ·exact h
 exfalso;have:=Int.mul_nonpos_of_nonneg_of_nonpos (Int.le_of_lt p1) h;omega
theorem ol (hs:SymF f n) (hp: ∀t,t<n->0<dk f (t+1)) {m:Nat} (hm:m+1<n):
  (∀k,k<=n->k≠m+1->dk (jW f m) k=dk f k)/\(∀k a b,k<=m->bk (jW f m) k a b=bk f k (o9 m a) (o9 m b))/\ ∀k a b,m+1<k->k<=n->a<n->b<n->bk (jW f m) k a b=bk f k a b:=by
 have hne: ∀t,t<n->dk f (t+1)≠0:=fun t ht=>by have:=hp t ht;omega
 have hlo:=zh (f:=f) (m:=m);obtain⟨h1,h2⟩:=hlo m (ac _) (fun t ht=>hne t (by omega));have hsm:=(wW hs hp hm).2;have hgm: ∀t,t<m+1->dk (jW f m) (t+1)≠0:=fun t ht=>by
  by_cases e:t=m
  ·subst e;omega
  rw[h1 (t+1) (by omega)];exact hne t (by omega)
 have hPne:=Gl (f:=f) (k:=m) (fun t ht=>hne t (by omega));have hd1:=hne m (by omega);have hsg:SymF (jW f m) n:=fun a ha b hb=>hs _ (qb hm ha) _ (qb hm hb)
 -- stage m + 2 for a, b behind m + 1
 have hz: ∀a b,m+1<a->m+1<b->bk (jW f m) (m+2) a b=bk f (m+2) a b:=fun a b ha hb=>by
  have F: ∀x y,dk f m*bk f (m+1) x y=dk f (m+1)*bk f m x y-bk f m x m*bk f m m y:=fun x y=>sylv f m (fun t ht=>hne t (by omega)) x y
  have G: ∀x y,dk f m*bk (jW f m) (m+1) x y=dk (jW f m) (m+1)*bk f m (o9 m x) (o9 m y)-bk f m (o9 m x) (m+1)*bk f m (m+1) (o9 m y):=fun x y=>by
   have:=sylv (jW f m) m (fun t ht=>hgm t (by omega)) x y;rw[h1 m (by omega),h2,h2,h2,CZ]at this;exact this
  have F2:=sylv f (m+1) (fun t ht=>hne t (by omega)) a b;have G2:=sylv (jW f m) (m+1) hgm a b;rw[ca f (m+1)]at F2;rw[ca (jW f m) (m+1)]at G2;have f11:=F (m+1) (m+1);have fab:=F a b;have fa1:=F a (m+1);have f1b:=F (m+1) b;have g11:=G (m+1) (m+1);have gab:=G a b;have ga1:=G a (m+1);have g1b:=G (m+1) b;rw[Ax]at g11;rw[Aw ha,Aw hb]at gab;rw[Aw ha,Ax]at ga1;rw[Aw hb,Ax]at g1b;have ed:dk (jW f m) (m+1)=bk f m (m+1) (m+1):=by rw[ca,h2,CZ]
  have ed':dk f (m+1)=bk f m m m:=ca f m;rw[ed]at g11 gab ga1 g1b G2;rw[ed']at f11 fab fa1 f1b F2;have hx1:bk f m (m+1) (m+1)≠0:=by rw[<- ed];omega
  have hxm:bk f m m m≠0:=by rw[<- ed'];exact hd1
  generalize bk (jW f m) (m+2) a b=z' at*
  generalize bk f (m+2) a b=z at*
  generalize bk (jW f m) (m+1) (m+1) (m+1)=y11' at*
  generalize bk (jW f m) (m+1) a b=yab' at*
  generalize bk (jW f m) (m+1) a (m+1)=ya1' at*
  generalize bk (jW f m) (m+1) (m+1) b=y1b' at*
  generalize bk f (m+1) (m+1) (m+1)=y11 at*
  generalize bk f (m+1) a b=yab at*
  generalize bk f (m+1) a (m+1)=ya1 at*
  generalize bk f (m+1) (m+1) b=y1b at*
  generalize bk f m (m+1) (m+1)=x11 at*
  generalize bk f m m m=xmm at*
  generalize bk f m (m+1) m=x1m at*
  generalize bk f m m (m+1)=xm1 at*
  generalize bk f m a b=xab at*
  generalize bk f m a m=xam at*
  generalize bk f m m b=xmb at*
  generalize bk f m a (m+1)=xa1 at*
  generalize bk f m (m+1) b=x1b at*
  generalize dk f m=p at*
  have k1:p*p*(xmm*z)=xmm*(xmm*x11*xab-x11*xam*xmb-x1m*xm1*xab+xam*xm1*x1b+xa1*x1m*xmb-xmm*xa1*x1b):=by
   have:p*p*(xmm*z)=(p*y11)*(p*yab)-(p*ya1)*(p*y1b):=by rw[F2];grind
   rw[this,f11,fab,fa1,f1b];exact Vt _ _ _ _ _ _ _ _ _
  have k2:p*p*(x11*z')=x11*(xmm*x11*xab-x11*xam*xmb-x1m*xm1*xab+xam*xm1*x1b+xa1*x1m*xmb-xmm*xa1*x1b):=by
   have:p*p*(x11*z')=(p*y11')*(p*yab')-(p*ya1')*(p*y1b'):=by rw[G2];grind
   rw[this,g11,gab,ga1,g1b];exact Vu _ _ _ _ _ _ _ _ _
  have k3:p*p*z=xmm*x11*xab-x11*xam*xmb-x1m*xm1*xab+xam*xm1*x1b+xa1*x1m*xmb-xmm*xa1*x1b:=
   Int.eq_of_mul_eq_mul_left hxm (by rw[<- k1];exact Int.mul_left_comm _ _ _)
  have k4:p*p*z'=xmm*x11*xab-x11*xam*xmb-x1m*xm1*xab+xam*xm1*x1b+xa1*x1m*xmb-xmm*xa1*x1b:=
   Int.eq_of_mul_eq_mul_left hx1 (by rw[<- k2];exact Int.mul_left_comm _ _ _)
  exact Int.eq_of_mul_eq_mul_left (Int.mul_ne_zero hPne hPne) (k4.trans k3.symm)
 have hd2:dk (jW f m) (m+2)=dk f (m+2):=by
  have s1:=sylv f m (fun t ht=>hne t (by omega)) (m+1) (m+1);have s2:=sylv (jW f m) m (fun t ht=>hgm t (by omega)) (m+1) (m+1);have ed:dk (jW f m) (m+1)=bk f m (m+1) (m+1):=by rw[ca,h2,CZ]
  rw[h1 m (by omega),h2,h2,h2,CZ,Ax,ed,<- ca (jW f m) (m+1)]at s2;rw[<- ca f (m+1),ca f m]at s1;refine Int.eq_of_mul_eq_mul_left hPne ?_;rw[s1,s2,Int.mul_comm (bk f m (m+1) (m+1)),Int.mul_comm (bk f m m (m+1))]
 have hg2: ∀t,t<m+2->dk (jW f m) (t+1)≠0:=fun t ht=>by
  by_cases e:t=m+1
  ·subst e;rw[hd2];exact hne (m+1) (by omega)
  exact hgm t (by omega)
 have h0: ∀a b,a<n->b<n->bk (jW f m) (m+2) a b=bk f (m+2) a b:=fun a b ha hb=>by
  by_cases h1a:a<m+2
  ·rw[jH _ h1a,jH _ h1a]
  by_cases h1b:b<m+2
  ·rw[DX hs hne (by omega) h1b ha,ju hsg (m+2) (by omega) hg2 a b ha hb,jH _ h1b]
  exact hz a b (by omega) (by omega)
 have hsame:=FY (f:=f) (g:=jW f m) (n:=n) (k0:=m+2) hne hg2 hd2 h0;refine⟨fun k hk hkm=>?_,fun k a b hk=>(hlo k hk (fun t ht=>hne t (by omega))).2 a b,fun k a b hmk hk ha hb=>(hsame k (by omega) hk).2 a b ha hb⟩;by_cases h:k<=m
 ·exact h1 k h
 exact(hsame k (by omega) hk).1 k (by omega) (by omega)
end
end
end Go.Proofs.YtiollbhgpiiodaaGreatDoor
