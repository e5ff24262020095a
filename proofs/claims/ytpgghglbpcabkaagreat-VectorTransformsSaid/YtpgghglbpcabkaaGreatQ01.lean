/-
  Part 2 of a proof (walks and plain facts).
-/
import Derived.Test.YtpgghglbpcabkaaGreatQ00
set_option linter.all false
set_option maxRecDepth 100000
set_option maxHeartbeats 64000000
namespace Go.Proofs.YtpgghglbpcabkaaGreat
open Go.RowKit
theorem jV (h l x y:Int) (h0:0<=h) (h1:h<18446744073709551616) (l0:0<=l) (l1:l<18446744073709551616) (x0:0<=x) (x1:x<18446744073709551616) (y0:0<=y) (y1:y<18446744073709551616)
  (hs:h*18446744073709551616+l+x*y<340282366920938463463374607431768211456) (w:World):
  Calls Tryz.prog 77 #[.agg #[.int .u64 h,.int .u64 l],.int .u64 x,.int .u64 y] w fun e w'=>
   ∃h' l':Int,e= .returned (.agg #[.int .u64 h',.int .u64 l'])/\0<=h'/\h'<18446744073709551616/\0<=l'/\l'<18446744073709551616/\h'*18446744073709551616+l'=h*18446744073709551616+l+x*y/\Ext w w':=by
 obtain⟨h,rfl⟩:=Int.eq_ofNat_of_zero_le h0
 obtain⟨l,rfl⟩:=Int.eq_ofNat_of_zero_le l0
 obtain⟨x,rfl⟩:=Int.eq_ofNat_of_zero_le x0
 obtain⟨y,rfl⟩:=Int.eq_ofNat_of_zero_le y0
 have key:=yz (h*18446744073709551616+l) x y (by omega) (by omega) (by omega) w
 have e1:wd (h*18446744073709551616+l)= .agg #[.int .u64 (h:Int),.int .u64 (l:Int)]:=by
  unfold wd
  rw[show(h*18446744073709551616+l)/18446744073709551616=h from by omega,show(h*18446744073709551616+l)%18446744073709551616=l from by omega]
 rw[e1]at key
 refine key.mono fun e w' ⟨he,hw⟩=>?_
 have hnn:((h*18446744073709551616+l+x*y:Nat):Int)=(h:Int)*18446744073709551616+l+(x:Int)*y:=by simp
 refine⟨_,_,he,by omega,?_,by omega,by omega,?_,hw⟩
 ·rw[<- hnn]at hs;omega
 ·rw[<- hnn];omega
theorem ni (h l h2 l2:Int) (h0:0<=h) (h1:h<18446744073709551616) (l0:0<=l) (l1:l<18446744073709551616) (x0:0<=h2) (x1:h2<18446744073709551616) (y0:0<=l2) (y1:l2<18446744073709551616) (w:World):
  Calls Tryz.prog 78 #[.agg #[.int .u64 h,.int .u64 l],.agg #[.int .u64 h2,.int .u64 l2]] w fun e w'=>
   e= .returned (ii (h*18446744073709551616+l).toNat (h2*18446744073709551616+l2).toNat)/\Ext w w':=by
 obtain⟨h,rfl⟩:=Int.eq_ofNat_of_zero_le h0
 obtain⟨l,rfl⟩:=Int.eq_ofNat_of_zero_le l0
 obtain⟨h2,rfl⟩:=Int.eq_ofNat_of_zero_le x0
 obtain⟨l2,rfl⟩:=Int.eq_ofNat_of_zero_le y0
 have key:=tT (h*18446744073709551616+l) (h2*18446744073709551616+l2) (by omega) (by omega) w
 have e1: ∀h l:Nat,l<18446744073709551616->wd (h*18446744073709551616+l)= .agg #[.int .u64 (h:Int),.int .u64 (l:Int)]:=fun h l hl=>by
  unfold wd
  rw[show(h*18446744073709551616+l)/18446744073709551616=h from by omega,show(h*18446744073709551616+l)%18446744073709551616=l from by omega]
 rw[e1 h l (by omega),e1 h2 l2 (by omega)]at key
 rw[show((h:Int)*18446744073709551616+l).toNat=h*18446744073709551616+l from by omega,show((h2:Int)*18446744073709551616+l2).toNat=h2*18446744073709551616+l2 from by omega]
 exact key
def fd (x y:List Int):Nat->Int
 |0=>0
 |l+1=>fd x y l+x.getD l 0*y.getD l 0
def Hj (h l:Int):Nat->Value:=fun j=>if j=0 then .int .u64 h else .int .u64 l
def oI (s:Int):Value:=if -4611686018427387904<=s/\s<=4611686018427387904 then .tuple #[.int .i64 s,.bool true]else .tuple #[.int .i64 0,.bool false]
theorem jQ {a b:Int} (ha:a<=1099511627776) (ha0:0<=a) (hb:b<=2305843009213693952) (hb0:0<=b):0<=a*b/\a*b<=2535301200456458802993406410752:=
 ⟨Int.mul_nonneg ha0 hb0,by
  have h1:a*b<=1099511627776*b:=Int.mul_le_mul_of_nonneg_right ha hb0
  omega⟩
theorem vH (A B:Option Addr) (c d:Nat) (x y:List Int) (w:World) (hx:RdI .i64 w A x) (hy:RdI .i64 w B y) (hl:x.length<=y.length) (hn:x.length<=65536) (hly:y.length<=9223372036854775807)
  (hbx: ∀(i:Nat) z,x[i]?=some z-> -1099511627776<=z/\z<=1099511627776) (hby: ∀(i:Nat) z,y[i]?=some z-> -2305843009213693952<=z/\z<=2305843009213693952):
  Calls Tryz.prog 37 #[.slice A x.length c,.slice B y.length d] w fun e w'=>e= .returned (oI (fd x y x.length))/\Ext w w':=by
 have HX:=Lib.hid hx
 have HY:=Lib.hid hy
 have HBX:=Lib.hid hbx
 have HBY:=Lib.hid hby
 clear hx hy hbx hby
 go_enter Tryz.func37,Tryz.ntmps37
 go_wp2_with fail
 go_loopw [17,8,9,10] (fun i _ _ _ wr=> ∃(k:Nat) (ph pl nh nl:Int),k<=x.length/\i= .int .i64 k/\0<=ph/\ph<18446744073709551616/\0<=pl/\pl<18446744073709551616/\0<=nh/\nh<18446744073709551616/\0<=nl/\nl<18446744073709551616/\
   Hid (wr.rowIs w.heap.size 104 2 (Hj ph pl))/\Hid (wr.rowIs (w.heap.size+1) 104 2 (Hj nh nl))/\Hid (Ext w wr)/\
   Hid (ph*18446744073709551616+pl-(nh*18446744073709551616+nl)=fd x y k/\ph*18446744073709551616+pl+(nh*18446744073709551616+nl)<=k*2535301200456458802993406410752)) (fun i _ _ _ _=>x.length-(intOf i).toNat)
 case atStart=>
  refine⟨0,0,0,0,0,Nat.zero_le _,rfl,by omega,by omega,by omega,by omega,by omega,by omega,by omega,by omega,Lib.hid ?_,Lib.hid ?_,Lib.hid (((Ext.refl _).alloc _).alloc _),Lib.hid ⟨rfl,by omega⟩⟩
  ·refine(World.rowIs.alloc (World.rowIs_alloc w _ _ (Hj 0 0) ?_) _)
   intro i hi
   match i,hi with
   |0,_=>rfl
   |1,_=>rfl
  ·have:=World.rowIs_alloc (w.alloc (.cells #[.int .u64 0,.int .u64 0] 104)) #[.int .u64 0,.int .u64 0] 104 (Hj 0 0) (by
    intro i hi
    match i,hi with
    |0,_=>rfl
    |1,_=>rfl)
   simpa using this
 case round=>
  obtain⟨k,ph,pl,nh,nl,hk,rfl,p0,p1,p2,p3,n0,n1,n2,n3,HP,HN,HE,HQ⟩:=hrel
  have t1:wr.cell? ⟨w.heap.size,0,none⟩=some (.int .u64 ph):=HP.out.cell (by omega)
  have t2:wr.cell? ⟨w.heap.size,1,none⟩=some (.int .u64 pl):=HP.out.cell (by omega)
  have t3:wr.cell? ⟨w.heap.size+1,0,none⟩=some (.int .u64 nh):=HN.out.cell (by omega)
  have t4:wr.cell? ⟨w.heap.size+1,1,none⟩=some (.int .u64 nl):=HN.out.cell (by omega)
  by_cases hlt:k<x.length
  ·obtain⟨a,ha⟩:=getElem?_of_lt hlt
   obtain⟨b,off,rfl,hc⟩:=(HX.out.ext HE.out).at_ ha
   obtain⟨a2,ha2⟩:=getElem?_of_lt (l:=y) (k:=k) (by omega)
   obtain⟨b2,off2,rfl,hc2⟩:=(HY.out.ext HE.out).at_ ha2
   obtain⟨ax0,ax1⟩:=HBX.out k a ha
   obtain⟨ay0,ay1⟩:=HBY.out k a2 ha2
   have HS:Hid (fd x y (k+1)=fd x y k+a*a2):=Lib.hid (by simp[fd,List.getD_eq_getElem?_getD,ha,ha2])
   clear ha ha2
   have hky:(k:Int)<(y.length:Int):=by omega
   by_cases ga:0<=a
   ·by_cases gb:0<=a2
    ·have hp:=jQ (a:=a) (b:=a2) (by omega) (by omega) (by omega) (by omega)
     have hq:=HQ.out
     have hs:ph*18446744073709551616+pl+a*a2<340282366920938463463374607431768211456:=by omega
     have HM:=Lib.hid (jV ph pl (a) (a2) (by omega) (by omega) (by omega) (by omega) (by omega) (by omega) (by omega) (by omega) hs)
     clear hp hq hs
     go_wp2_with fail
     refine(HM.out _).mono ?_
     rintro e w1 ⟨h',l',rfl,q0,q1,q2,q3,q4,he⟩
     have HE1:=Lib.hid (HE.out.trans he)
     have HO1:=Lib.hid (dP HP.out he)
     have HO2:=Lib.hid (dP HN.out he)
     have HQ4:=Lib.hid q4
     have s1:w1.cell? ⟨w.heap.size,0,none⟩=some (.int .u64 ph):=HO1.out.cell (by omega)
     have s2:w1.cell? ⟨w.heap.size,1,none⟩=some (.int .u64 pl):=HO1.out.cell (by omega)
     have s3:w1.frozen? ⟨w.heap.size,0,none⟩=false:=HO1.out.frozen 0
     have s4:w1.frozen? ⟨w.heap.size,1,none⟩=false:=HO1.out.frozen 1
     clear q4 he HP HN HE HM t1 t2 t3 t4 hc hc2
     go_wp2_with fail
     go_roundw
     case rel=>
      refine⟨k+1,h',l',nh,nl,by omega,by go_num,by omega,by omega,by omega,by omega,by omega,by omega,by omega,by omega,Lib.hid ?_,Lib.hid ?_,Lib.hid ((HE1.out.setCell (by show w.heap.size<=w.heap.size;omega) _).setCell (by show w.heap.size<=w.heap.size;omega) _),Lib.hid ⟨by rw[HS.out];have:=HQ.out.1;have:=HQ4.out;omega,by have:=HQ.out.2;have:=HQ4.out;have:=jQ (a:=a) (b:=a2) (by omega) (by omega) (by omega) (by omega);omega⟩⟩
      ·exact((HO1.out.set 0 _).set 1 _).congr (fun j hj=>by match j,hj with|0,_=>rfl|1,_=>rfl)
      ·exact(HO2.out.setOther (by show w.heap.size+1≠w.heap.size;omega) _).setOther (by show w.heap.size+1≠w.heap.size;omega) _
     case measure=>simp[intOf];omega
    ·have hp:=jQ (a:=a) (b:= -a2) (by omega) (by omega) (by omega) (by omega)
     have hq:=HQ.out
     have hs:nh*18446744073709551616+nl+a* -a2<340282366920938463463374607431768211456:=by omega
     have HM:=Lib.hid (jV nh nl (a) (-a2) (by omega) (by omega) (by omega) (by omega) (by omega) (by omega) (by omega) (by omega) hs)
     clear hp hq hs
     go_wp2_with fail
     refine(HM.out _).mono ?_
     rintro e w1 ⟨h',l',rfl,q0,q1,q2,q3,q4,he⟩
     have HE1:=Lib.hid (HE.out.trans he)
     have HO1:=Lib.hid (dP HN.out he)
     have HO2:=Lib.hid (dP HP.out he)
     have HQ4:=Lib.hid q4
     have s1:w1.cell? ⟨w.heap.size+1,0,none⟩=some (.int .u64 nh):=HO1.out.cell (by omega)
     have s2:w1.cell? ⟨w.heap.size+1,1,none⟩=some (.int .u64 nl):=HO1.out.cell (by omega)
     have s3:w1.frozen? ⟨w.heap.size+1,0,none⟩=false:=HO1.out.frozen 0
     have s4:w1.frozen? ⟨w.heap.size+1,1,none⟩=false:=HO1.out.frozen 1
     clear q4 he HP HN HE HM t1 t2 t3 t4 hc hc2
     go_wp2_with fail
     go_roundw
     case rel=>
      refine⟨k+1,ph,pl,h',l',by omega,by go_num,by omega,by omega,by omega,by omega,by omega,by omega,by omega,by omega,Lib.hid ?_,Lib.hid ?_,Lib.hid ((HE1.out.setCell (by show w.heap.size<=w.heap.size+1;omega) _).setCell (by show w.heap.size<=w.heap.size+1;omega) _),Lib.hid ⟨by rw[HS.out];have:=HQ.out.1;have:=HQ4.out;have e:a*a2= -(a* -a2):=(by rw[Int.mul_neg,Int.neg_neg]);omega,by have:=HQ.out.2;have:=HQ4.out;have:=jQ (a:=a) (b:= -a2) (by omega) (by omega) (by omega) (by omega);omega⟩⟩
      ·exact(HO2.out.setOther (by show w.heap.size≠w.heap.size+1;omega) _).setOther (by show w.heap.size≠w.heap.size+1;omega) _
      ·exact((HO1.out.set 0 _).set 1 _).congr (fun j hj=>by match j,hj with|0,_=>rfl|1,_=>rfl)
     case measure=>simp[intOf];omega
   ·by_cases gb:0<=a2
    ·have hp:=jQ (a:= -a) (b:=a2) (by omega) (by omega) (by omega) (by omega)
     have hq:=HQ.out
     have hs:nh*18446744073709551616+nl+ -a*a2<340282366920938463463374607431768211456:=by omega
     have HM:=Lib.hid (jV nh nl (-a) (a2) (by omega) (by omega) (by omega) (by omega) (by omega) (by omega) (by omega) (by omega) hs)
     clear hp hq hs
     go_wp2_with fail
     refine(HM.out _).mono ?_
     rintro e w1 ⟨h',l',rfl,q0,q1,q2,q3,q4,he⟩
     have HE1:=Lib.hid (HE.out.trans he)
     have HO1:=Lib.hid (dP HN.out he)
     have HO2:=Lib.hid (dP HP.out he)
     have HQ4:=Lib.hid q4
     have s1:w1.cell? ⟨w.heap.size+1,0,none⟩=some (.int .u64 nh):=HO1.out.cell (by omega)
     have s2:w1.cell? ⟨w.heap.size+1,1,none⟩=some (.int .u64 nl):=HO1.out.cell (by omega)
     have s3:w1.frozen? ⟨w.heap.size+1,0,none⟩=false:=HO1.out.frozen 0
     have s4:w1.frozen? ⟨w.heap.size+1,1,none⟩=false:=HO1.out.frozen 1
     clear q4 he HP HN HE HM t1 t2 t3 t4 hc hc2
     go_wp2_with fail
     go_roundw
     case rel=>
      refine⟨k+1,ph,pl,h',l',by omega,by go_num,by omega,by omega,by omega,by omega,by omega,by omega,by omega,by omega,Lib.hid ?_,Lib.hid ?_,Lib.hid ((HE1.out.setCell (by show w.heap.size<=w.heap.size+1;omega) _).setCell (by show w.heap.size<=w.heap.size+1;omega) _),Lib.hid ⟨by rw[HS.out];have:=HQ.out.1;have:=HQ4.out;have e:a*a2= -(-a*a2):=(by rw[Int.neg_mul,Int.neg_neg]);omega,by have:=HQ.out.2;have:=HQ4.out;have:=jQ (a:= -a) (b:=a2) (by omega) (by omega) (by omega) (by omega);omega⟩⟩
      ·exact(HO2.out.setOther (by show w.heap.size≠w.heap.size+1;omega) _).setOther (by show w.heap.size≠w.heap.size+1;omega) _
      ·exact((HO1.out.set 0 _).set 1 _).congr (fun j hj=>by match j,hj with|0,_=>rfl|1,_=>rfl)
     case measure=>simp[intOf];omega
    ·have hp:=jQ (a:= -a) (b:= -a2) (by omega) (by omega) (by omega) (by omega)
     have hq:=HQ.out
     have hs:ph*18446744073709551616+pl+ -a* -a2<340282366920938463463374607431768211456:=by omega
     have HM:=Lib.hid (jV ph pl (-a) (-a2) (by omega) (by omega) (by omega) (by omega) (by omega) (by omega) (by omega) (by omega) hs)
     clear hp hq hs
     go_wp2_with fail
     refine(HM.out _).mono ?_
     rintro e w1 ⟨h',l',rfl,q0,q1,q2,q3,q4,he⟩
     have HE1:=Lib.hid (HE.out.trans he)
     have HO1:=Lib.hid (dP HP.out he)
     have HO2:=Lib.hid (dP HN.out he)
     have HQ4:=Lib.hid q4
     have s1:w1.cell? ⟨w.heap.size,0,none⟩=some (.int .u64 ph):=HO1.out.cell (by omega)
     have s2:w1.cell? ⟨w.heap.size,1,none⟩=some (.int .u64 pl):=HO1.out.cell (by omega)
     have s3:w1.frozen? ⟨w.heap.size,0,none⟩=false:=HO1.out.frozen 0
     have s4:w1.frozen? ⟨w.heap.size,1,none⟩=false:=HO1.out.frozen 1
     clear q4 he HP HN HE HM t1 t2 t3 t4 hc hc2
     go_wp2_with fail
     go_roundw
     case rel=>
      refine⟨k+1,h',l',nh,nl,by omega,by go_num,by omega,by omega,by omega,by omega,by omega,by omega,by omega,by omega,Lib.hid ?_,Lib.hid ?_,Lib.hid ((HE1.out.setCell (by show w.heap.size<=w.heap.size;omega) _).setCell (by show w.heap.size<=w.heap.size;omega) _),Lib.hid ⟨by rw[HS.out];have:=HQ.out.1;have:=HQ4.out;have e:a*a2= -a* -a2:=(by rw[Int.neg_mul_neg]);omega,by have:=HQ.out.2;have:=HQ4.out;have:=jQ (a:= -a) (b:= -a2) (by omega) (by omega) (by omega) (by omega);omega⟩⟩
      ·exact((HO1.out.set 0 _).set 1 _).congr (fun j hj=>by match j,hj with|0,_=>rfl|1,_=>rfl)
      ·exact(HO2.out.setOther (by show w.heap.size+1≠w.heap.size;omega) _).setOther (by show w.heap.size+1≠w.heap.size;omega) _
     case measure=>simp[intOf];omega
  ·have hkl:k=x.length:=by omega
   have HK:Hid (ph*18446744073709551616+pl-(nh*18446744073709551616+nl)=fd x y x.length):=Lib.hid (by have:=HQ.out.1;rw[hkl]at this;exact this)
   obtain⟨D,hD⟩: ∃D,D=fd x y x.length:=⟨_,rfl⟩
   have HM:=Lib.hid (ni ph pl nh nl p0 p1 p2 p3 n0 n1 n2 n3)
   have HM2:=Lib.hid (ni nh nl ph pl n0 n1 n2 n3 p0 p1 p2 p3)
   have hK:=HK.out
   rw[<- hD]at hK
   have HDD:=Lib.hid hD
   by_cases g1:0<=D/\D<=4611686018427387904
   ·have e1:ii (ph*18446744073709551616+pl).toNat (nh*18446744073709551616+nl).toNat= .tuple #[.int .i64 D,.bool true]:=lF (by omega) (by omega)
    have HV:Hid (oI D= .tuple #[.int .i64 D,.bool true]):=Lib.hid (if_pos (by omega))
    rw[e1]at HM
    clear hK hD e1 hkl HM2
    go_wp2_with fail
    refine(HM.out _).mono ?_
    rintro e w1 ⟨rfl,he⟩
    have HE1:=Lib.hid (HE.out.trans he)
    clear he
    go_wp2_with fail
    go_ret2
    exact⟨by rw[<- HDD.out,HV.out];rfl,HE1.out⟩
   ·have e1:ii (ph*18446744073709551616+pl).toNat (nh*18446744073709551616+nl).toNat= .tuple #[.int .i64 0,.bool false]:=ij (by omega)
    rw[e1]at HM
    by_cases g2: -4611686018427387904<=D/\D<=0
    ·have e2:ii (nh*18446744073709551616+nl).toNat (ph*18446744073709551616+pl).toNat= .tuple #[.int .i64 (-D),.bool true]:=lF (by omega) (by omega)
     have HV:Hid (oI D= .tuple #[.int .i64 D,.bool true]):=Lib.hid (if_pos (by omega))
     have g3:=g2.1
     have g4:=g2.2
     rw[e2]at HM2
     clear hK hD e1 e2 hkl
     go_wp2_with fail
     refine(HM.out _).mono ?_
     rintro e w1 ⟨rfl,he⟩
     have HE1:=Lib.hid (HE.out.trans he)
     have s1:w1.cell? ⟨w.heap.size,0,none⟩=some (.int .u64 ph):=he.cell t1
     have s2:w1.cell? ⟨w.heap.size,1,none⟩=some (.int .u64 pl):=he.cell t2
     have s3:w1.cell? ⟨w.heap.size+1,0,none⟩=some (.int .u64 nh):=he.cell t3
     have s4:w1.cell? ⟨w.heap.size+1,1,none⟩=some (.int .u64 nl):=he.cell t4
     clear he t1 t2 t3 t4
     go_wp2_with fail
     refine(HM2.out _).mono ?_
     rintro e w2 ⟨rfl,he⟩
     have HE2:=Lib.hid (HE1.out.trans he)
     clear he s1 s2 s3 s4
     go_wp2_with fail
     go_ret2
     refine⟨?_,HE2.out⟩
     rw[<- HDD.out,HV.out]
     simp
    ·have e2:ii (nh*18446744073709551616+nl).toNat (ph*18446744073709551616+pl).toNat= .tuple #[.int .i64 0,.bool false]:=ij (by omega)
     have HV:Hid (oI D= .tuple #[.int .i64 0,.bool false]):=Lib.hid (if_neg (by omega))
     rw[e2]at HM2
     clear hK hD e1 e2 hkl g1 g2
     go_wp2_with fail
     refine(HM.out _).mono ?_
     rintro e w1 ⟨rfl,he⟩
     have HE1:=Lib.hid (HE.out.trans he)
     have s1:w1.cell? ⟨w.heap.size,0,none⟩=some (.int .u64 ph):=he.cell t1
     have s2:w1.cell? ⟨w.heap.size,1,none⟩=some (.int .u64 pl):=he.cell t2
     have s3:w1.cell? ⟨w.heap.size+1,0,none⟩=some (.int .u64 nh):=he.cell t3
     have s4:w1.cell? ⟨w.heap.size+1,1,none⟩=some (.int .u64 nl):=he.cell t4
     clear he t1 t2 t3 t4
     go_wp2_with fail
     refine(HM2.out _).mono ?_
     rintro e w2 ⟨rfl,he⟩
     have HE2:=Lib.hid (HE1.out.trans he)
     clear he s1 s2 s3 s4
     go_wp2_with fail
     go_ret2
     refine⟨?_,HE2.out⟩
     rw[<- HDD.out,HV.out]
     rfl
theorem Tryz.inI64:(Tryz.prog.info? 2).map (fun i=>(i.zero,i.size,i.bytes))=some (some (.int .i64 0),1,8):=by kernel_rfl
theorem y4 (A:Option Addr) (c:Nat) (x:List Int) (w:World) (hx:RdI .i64 w A x) (hl:x.length*8<=140737488355328):
  Calls Tryz.prog 44 #[.slice A x.length c] w fun e w'=> ∃v,e= .returned v/\w'.ownsRow w.heap.size 2 1 v x.length (x.map (Value.int .i64))/\Ext w w':=by
 have hnil:=fun(w:World) (n c:Nat)=>Lib.run_eql_slice_nil (P:=Tryz.prog) w 35 2 A n c 0 0 Tryz.underlying35
 cases A with
 |none=>
  have hx0:x=[]:=by
   cases x with
   |nil=>rfl
   |cons a l=>obtain⟨_,_,h,_⟩:=hx (by simp);cases h
  subst hx0
  go_enter Tryz.func44,Tryz.ntmps44
  go_wp2_with fail
  go_ret
  exact⟨_,rfl,World.ownsRow_nil _ _ _ _,Ext.refl _⟩
 |some a=>
  go_enter Tryz.func44,Tryz.ntmps44
  go_wp2_with (at_builtin;refine iA _ rfl (.tmp 5) (.tmp 6) _ rfl w.heap.size 2 (.int .i64 0) 1 8 Tryz.underlying35 Tryz.inI64 rfl (by omega) _ 0 [] rfl (World.ownsRow_made w #[] 0 (Nat.le_refl _) (Nat.zero_le _) rfl) (some a) x.length c _ rfl (Rd.ext hx ((Ext.refl _).alloc _)) (by simp) oV (by simp only[maxLen];omega) (by omega) (by simp) ?_;intro v1 w1 hown1 hg1 _)
  go_ret
  exact⟨_,rfl,by simpa using hown1,uy hg1 (World.ownsRow_made w #[] 0 (Nat.le_refl _) (Nat.zero_le _) rfl:World.ownsRow _ w.heap.size 2 1 _ 0 []) ((Ext.refl w).alloc _) (Nat.le_refl _)⟩
def qw (x:List Int):Int:=match x.findIdx? (fun c=>c !=0)with|some i=>i|none=> -1
theorem Ev {x:List Int} {k:Nat} {a:Int} (h: ∀j c,j<k->x[j]?=some c->c=0) (hk:x[k]?=some a) (ha:(a !=0)=true):qw x=k:=by
 unfold qw
 have:x.findIdx? (fun c=>c !=0)=some k:=by
  rw[List.findIdx?_eq_some_iff_getElem]
  obtain⟨hlt,rfl⟩:=List.getElem?_eq_some_iff.1 hk
  exact⟨hlt,ha,fun j hj=>by simp[h j x[j] hj (List.getElem?_eq_getElem (by omega))]⟩
 rw[this]
theorem zz {x:List Int} {k:Nat} (h: ∀j c,j<k->x[j]?=some c->c=0) (hk:x.length<=k):qw x= -1:=by
 unfold qw
 have:x.findIdx? (fun c=>c !=0)=none:=by
  rw[List.findIdx?_eq_none_iff]
  intro c hc
  obtain⟨j,hj,rfl⟩:=List.getElem_of_mem hc
  simp[h j _ (by omega) (List.getElem?_eq_getElem hj)]
 rw[this]
theorem iq {x:List Int} (h:ve x=true) {k:Nat} {c:Int} (hk:x[k]?=some c): -1099511627776<=c/\c<=1099511627776:=by
 unfold ve at h
 rw[List.all_eq_true]at h
 have:=h c (List.mem_of_getElem? hk)
 simp at this
 exact this
theorem rM (a:Int) (w:World):
  Calls Tryz.prog 43 #[.int .i64 a] w fun e w'=>e= .returned (.bool (a !=0))/\w=w':=by
 go_enter Tryz.func43,Tryz.ntmps43
 go_wp2_with fail
 go_ret
 exact⟨rfl,rfl⟩
theorem nd (A:Option Addr) (c:Nat) (x:List Int) (w:World) (hx:RdI .i64 w A x) (lx:x.length<=9223372036854775807):
  Calls Tryz.prog 42 #[.slice A x.length c,.func (Fn.func 43) #[] #[]] w fun e w'=>e= .returned (.int .i64 (qw x))/\w=w':=by
 have HX:=Lib.hid hx
 clear hx
 go_enter Tryz.func42,Tryz.ntmps42
 go_wp2_with fail
 go_loop [8,5] (fun i _=> ∃k:Nat,k<=x.length/\i= .int .i64 k/\Hid (∀j c,j<k->x[j]?=some c->c=0)) (fun i _=>x.length-(intOf i).toNat)
 case atStart=>exact⟨0,Nat.zero_le _,rfl,Lib.hid (fun j c h=>by omega)⟩
 case round=>
  obtain⟨k,hk,rfl,HR⟩:=hrel
  by_cases hlt:k<x.length
  ·obtain⟨a,ha⟩:=getElem?_of_lt hlt
   obtain⟨b,off,rfl,hc⟩:=HX.out.at_ ha
   have HA:=Lib.hid ha
   clear ha
   by_cases h0:(a !=0)=true
   ·go_wp2_with (go_at_call 43;refine(rM _ _).mono ?_;rintro e w' ⟨rfl,rfl⟩)
    go_ret
    exact⟨gN (Ev HR.out HA.out h0).symm,rfl⟩
   ·have h0':(a !=0)=false:=by simpa using h0
    have H0:=Lib.hid h0'
    clear h0
    go_wp2_with (go_at_call 43;refine(rM _ _).mono ?_;rintro e w' ⟨rfl,rfl⟩)
    go_round
    case rel=>exact⟨k+1,by omega,by go_num,Lib.hid (qb (P:=fun c=>c=0) HR.out HA.out (by simpa using H0.out))⟩
    case measure=>simp[intOf];omega
  ·go_wp2_with fail
   go_ret
   exact⟨gN (zz HR.out (by omega)).symm,rfl⟩
def jr (x:List Int):Option (List Int):=
 if ve x then(match x.find? (fun c=>c !=0)with
  |none=>none
  |some c=>some (if c<0 then x.map (fun a=> -a)else x))else none
theorem xC (x:List Int):(qw x= -1/\x.find? (fun c=>c !=0)=none)\/ ∃(k:Nat) (a:Int),qw x=k/\k<x.length/\x[k]?=some a/\x.find? (fun c=>c !=0)=some a:=by
 unfold qw
 cases h:x.findIdx? (fun c=>c !=0)with
 |none=>
  left
  refine⟨rfl,?_⟩
  rw[List.find?_eq_none]
  rw[List.findIdx?_eq_none_iff]at h
  intro c hc;simpa using h c hc
 |some k=>
  right
  rw[List.findIdx?_eq_some_iff_getElem]at h
  obtain⟨hlt,h1,h2⟩:=h
  refine⟨k,x[k],rfl,hlt,List.getElem?_eq_getElem hlt,?_⟩
  rw[List.find?_eq_some_iff_getElem]
  exact⟨h1,k,hlt,rfl,fun j hj=>by simpa using h2 j hj⟩
def EQ (x:List Int) (k:Nat) (f:Nat->Value):Nat->Value:=fun j=>if j<k then .int .i64 (-(x.getD j 0))else f j
def DW (w0 w':World) (r:Option (List Int)) (e:Ending):Prop:=match r with
 |none=>e= .returned (.tuple #[.slice none 0 0,.bool false])
 |some z=> ∃A c,e= .returned (.tuple #[.slice A z.length c,.bool true])/\z.length<=c/\RdI .i64 w' A z/\ ∀p,A=some p->w0.heap.size<=p.block/\p.block<w'.heap.size
theorem ia (A:Option Addr) (c:Nat) (x:List Int) (w:World) (hx:RdI .i64 w A x) (hl:x.length*8<=140737488355328):
  Calls Tryz.prog 16 #[.slice A x.length c] w fun e w'=>DW w w' (jr x) e/\Ext w w':=by
 have HX:=Lib.hid hx
 cases hI:ve x with
 |false=>
  have HF:Hid (jr x=none):=Lib.hid (by simp[jr,hI])
  go_enter Tryz.func16,Tryz.ntmps16
  go_wp2_with (go_at_call 41;refine(jK A c x _ hx (by omega)).mono ?_;rintro e w' ⟨rfl,rfl⟩)
  go_ret2
  exact⟨by rw[HF.out];rfl,Ext.refl _⟩
 |true=>
  have HIB:=Lib.hid hI
  rcases xC x with⟨h1,h2⟩|⟨k,a,h1,hk,ha,h2⟩
  ·have HF:Hid (jr x=none):=Lib.hid (by simp[jr,hI,h2])
   have HC:=Lib.hid (nd A c x w hx (by omega))
   rw[h1]at HC
   clear h1 h2
   go_enter Tryz.func16,Tryz.ntmps16
   go_wp2_with (go_at_call 41;refine(jK A c x _ hx (by omega)).mono ?_;rintro e w' ⟨rfl,rfl⟩)
   refine HC.out.mono ?_
   rintro e w' ⟨rfl,rfl⟩
   go_wp2_with fail
   go_ret2
   exact⟨by rw[HF.out];rfl,Ext.refl _⟩
  ·have HC:=Lib.hid (nd A c x w hx (by omega))
   rw[h1]at HC
   have HF:Hid (jr x=some (if a<0 then x.map (fun a=> -a)else x)):=Lib.hid (by simp[jr,hI,h2])
   obtain⟨b,off,rfl,hc⟩:=hx.at_ ha
   clear h1 h2 ha
   go_enter Tryz.func16,Tryz.ntmps16
   go_wp2_with (go_at_call 41;refine(jK _ c x _ hx (by omega)).mono ?_;rintro e w' ⟨rfl,rfl⟩)
   refine HC.out.mono ?_
   rintro e w' ⟨rfl,rfl⟩
   go_wp2_with fail
   refine(y4 _ c x _ hx hl).mono ?_
   rintro e w1 ⟨v,rfl,hown,he⟩
   have hc1:=he.cell hc
   obtain⟨g,cap,f,rfl,hcap,hg,hrow,hf⟩:=C0 hown (by omega)
   have HE:=Lib.hid he
   have HROW:=Lib.hid hrow
   have HFF:=Lib.hid hf
   clear hown he hrow hf hx
   by_cases h0:a<0
   ·go_wp2_with fail
    go_loopw [24,6,7] (fun i _ _ wr=> ∃l:Nat,l<=x.length/\i= .int .i64 l/\Hid (wr.rowIs g 2 cap (EQ x l f))/\Hid (Ext w wr)) (fun i _ _ _=>x.length-(intOf i).toNat)
    case atStart=>exact⟨0,Nat.zero_le _,rfl,Lib.hid (HROW.out.congr (fun j _=>by simp[EQ])),HE⟩
    case round=>
     clear hc1 HROW HE
     obtain⟨l,hl',rfl,HROW,HE⟩:=hrel
     by_cases hlt:l<x.length
     ·obtain⟨a2,ha2⟩:=getElem?_of_lt hlt
      obtain⟨b2,off2,hbb,hc2⟩:=(HX.out.ext HE.out).at_ ha2
      cases hbb
      have hB:=iq HIB.out ha2
      have t1:wr.cell? ⟨g,l,none⟩=some (f l):=by rw[HROW.out.cell (by omega)];simp[EQ]
      have t2:wr.frozen? ⟨g,l,none⟩=false:=HROW.out.frozen l
      have hlc:(l:Int)<(cap:Int):=by omega
      have HA2:Hid (x.getD l 0=a2):=Lib.hid (by rw[List.getD_eq_getElem?_getD,ha2];rfl)
      clear ha2
      have hB1:=hB.1
      have hB2:=hB.2
      go_wp2_with fail
      go_roundw
      case rel=>
       refine⟨l+1,by omega,by go_num,Lib.hid ((HROW.out.set l _).congr (fun j _=>?_)),Lib.hid (HE.out.setCell hg _)⟩
       unfold EQ
       by_cases e:j=l
       ·subst e
        rw[if_pos rfl,if_pos (by omega),HA2.out]
       ·rw[if_neg e]
        by_cases e2:j<l
        ·rw[if_pos e2,if_pos (by omega)]
        ·rw[if_neg e2,if_neg (by omega)]
      case measure=>simp[intOf];omega
     ·go_wp2_with fail
      go_ret2
      refine⟨?_,HE.out⟩
      rw[HF.out,if_pos h0]
      refine⟨some ⟨g,0,none⟩,cap,by simp,by simpa using hcap,RdI.of_row HROW.out (by simpa using hcap) (fun i z hz=>?_),(by rintro p ⟨⟩;exact⟨hg,HROW.out.lt⟩)⟩
      rw[List.getElem?_map]at hz
      cases hxi:x[i]? with
      |none=>rw[hxi]at hz;cases hz
      |some a3=>
       rw[hxi]at hz
       have hi:i<x.length:=(List.getElem?_eq_some_iff.1 hxi).1
       unfold EQ
       rw[if_pos (by omega),List.getD_eq_getElem?_getD,hxi]
       simp at hz
       simp[hz]
   ·go_wp2_with fail
    go_ret2
    refine⟨?_,HE.out⟩
    rw[HF.out,if_neg (by omega)]
    exact⟨some ⟨g,0,none⟩,cap,rfl,hcap,RdI.of_row HROW.out hcap (fun i z hz=>HFF.out i _ (by simp[hz])),(by rintro p ⟨⟩;exact⟨hg,HROW.out.lt⟩)⟩
theorem ld {a b A B:Int} (ha: -A<=a/\a<=A) (hb: -B<=b/\b<=B) (hB:0<=B) (hA:0<=A): -(A*B)<=a*b/\a*b<=A*B:=by
 have h1:a.natAbs<=A.toNat:=by omega
 have h2:b.natAbs<=B.toNat:=by omega
 have h3:(a*b).natAbs<=A.toNat*B.toNat:=by rw[Int.natAbs_mul];exact Nat.mul_le_mul h1 h2
 have h4:((A.toNat*B.toNat:Nat):Int)=A*B:=by rw[Int.natCast_mul,Int.toNat_of_nonneg hA,Int.toNat_of_nonneg hB]
 omega
theorem A0 {x:List Int} {B:Int} (hB:0<=B) (h: ∀(i:Nat) z,x[i]?=some z-> -B<=z/\z<=B) (j:Nat): -B<=x.getD j 0/\x.getD j 0<=B:=by
 rw[List.getD_eq_getElem?_getD]
 cases hx:x[j]? with
 |none=>simp;omega
 |some z=>exact h j z hx
theorem nt {row x:List Int} (hr: ∀(i:Nat) z,row[i]?=some z-> -262144<=z/\z<=262144) (hx: ∀(i:Nat) z,x[i]?=some z-> -1099511627776<=z/\z<=1099511627776):
  ∀l:Nat,l<=8->oB row x l=fd row x l/\ -(l*288230376151711744)<=fd row x l/\fd row x l<=l*288230376151711744
 |0,_=>⟨rfl,by simp[fd],by simp[fd]⟩
 |l+1,hl=>by
  obtain⟨h1,h2,h3⟩:=nt hr hx l (by omega)
  have hp:=ld (A0 (by omega) hr l) (A0 (by omega) hx l) (by omega) (by omega)
  have e:(262144:Int)*1099511627776=288230376151711744:=by decide
  rw[e]at hp
  have hw1:wrap64 (row.getD l 0*x.getD l 0)=row.getD l 0*x.getD l 0:=IntWalk.wrap64_in _ ⟨by omega,by omega⟩
  have hw2:wrap64 (fd row x l+row.getD l 0*x.getD l 0)=fd row x l+row.getD l 0*x.getD l 0:=IntWalk.wrap64_in _ ⟨by omega,by omega⟩
  refine⟨?_,?_,?_⟩
  ·show wrap64 (oB row x l+wrap64 (row.getD l 0*x.getD l 0))=fd row x l+row.getD l 0*x.getD l 0
   rw[hw1,h1,hw2]
  ·show _<=fd row x l+row.getD l 0*x.getD l 0
   omega
  ·show fd row x l+row.getD l 0*x.getD l 0<=_
   omega
theorem iN.row_len {rows:List (List Int)} (h:iN rows) {i:Nat} {r:List Int} (hi:rows[i]?=some r):r.length=rows.length:=(show Sq rows from h.2.2.1).at_ hi
theorem iN.row_bd {rows:List (List Int)} (h:iN rows) {i:Nat} {r:List Int} (hi:rows[i]?=some r): ∀(j:Nat) z,r[j]?=some z-> -262144<=z/\z<=262144:=by
 intro j z hz
 have h1:=(List.getElem?_eq_some_iff.1 hi).1
 have h2:=(List.getElem?_eq_some_iff.1 hz).1
 rw[h.row_len hi]at h2
 have:=h.2.2.2 i h1 j h2
 unfold kK at this
 rw[nL hi hz]at this
 omega
theorem pA {rows:List (List Int)} {x:List Int} (h:iN rows) (hx:ve x=true): ∀(i:Nat) z,(dO rows x)[i]?=some z-> -2305843009213693952<=z/\z<=2305843009213693952:=by
 intro i z hz
 obtain⟨row,h1,rfl⟩:=uf hz
 have hl:=h.row_len h1
 have h8:=h.2.1
 obtain⟨e,h2,h3⟩:=nt (h.row_bd h1) (fun i z hz=>iq hx hz) row.length (by omega)
 rw[e]
 have:((row.length:Nat):Int)<=8:=by omega
 omega
theorem fY {n:Nat} {x:List Int}:FitB n x=true↔x.length=n/\ve x=true:=by
 unfold FitB
 rw[Bool.and_eq_true,decide_eq_true_iff]
 exact⟨fun h=>⟨by omega,h.2⟩,fun h=>⟨by omega,h.2⟩⟩
theorem ee {rows:List (List Int)} (h:ch rows=true):iN rows:=by
 unfold ch at h
 simp at h
 exact h.1
theorem iB (rows:List (List Int)) (x:List Int):(dO rows x).length=rows.length:=by simp[dO]
def Au (R:Nat->Nat->Int) (n t:Nat):Prop:= ∀i,i<n->t<i-> -(dk R (t+1))<=2*bk R t i t/\2*bk R t i t<=dk R (t+1)
def Gi (R:Nat->Nat->Int) (t:Nat):Prop:=3*dk R (t+1)*dk R (t+1)<=4*(dk R t*dk R (t+1+1)+bk R t (t+1) t*bk R t (t+1) t)
def Gl (R:Nat->Nat->Int) (n t:Nat):Prop:=0<dk R (t+1)/\dk R (t+1)<65536/\Au R n t
def qH (R:Nat->Nat->Int) (n:Nat):Prop:=
 (∀i,i<n-> ∀j,j<n->R i j=R j i)/\(∀k,k<n->0<dk R (k+1))/\dk R n<=10000/\(∀t,t+1<n->Au R n t/\Gi R t)
theorem nz {R:Nat->Nat->Int} {n:Nat} (hs: ∀i,i<n-> ∀j,j<n->R i j=R j i): ∀k,k<=n->(∀t,t<k->dk R (t+1)≠0)-> ∀i j,i<n->j<n->bk R k i j=bk R k j i
 |0,_,_,i,j,hi,hj=>by rw[fA,fA];exact hs i hi j hj
 |k+1,hk,hd,i,j,hi,hj=>by
  have ih:=nz hs k (by omega) (fun t ht=>hd t (by omega))
  have h1:=sylv R k (fun t ht=>hd t (by omega)) i j
  have h2:=sylv R k (fun t ht=>hd t (by omega)) j i
  have e1:=ih i j hi hj
  have e2:=ih i k hi (by omega)
  have e3:=ih k j (by omega) hj
  have hne:dk R k≠0:=by
   cases k with
   |zero=>rw[fB];omega
   |succ k=>exact hd k (by omega)
  apply Int.eq_of_mul_eq_mul_left hne
  rw[h1,h2,e1,e2,e3,Int.mul_comm (bk R k k i)]
theorem nK {R:Nat->Nat->Int} {k:Nat} (h: ∀t,t<k->0<dk R (t+1)):0<dk R k:=by
 cases k with
 |zero=>rw[fB];omega
 |succ k=>exact h k (by omega)
theorem Ii {C D E x a b y:Int} (hC:0<=C) (hD:0<D) (hE:0<E) (hE2:E<65536) (h:D*y=E*x-a*b) (hx: -(C*D)<=x/\x<=C*D) (ha: -E<=2*a/\2*a<=E) (hb: -E<=2*b/\2*b<=E):
  -((C+16384)*E)<=y/\y<=(C+16384)*E:=by
 have hab:=ld ha hb (by omega) (by omega)
 have e4:2*a*(2*b)=4*(a*b):=by grind
 rw[e4]at hab
 have hEE:E*E<=65536*E:=Int.mul_le_mul_of_nonneg_right (by omega) (by omega)
 have hED:E*1<=E*D:=Int.mul_le_mul_of_nonneg_left (by omega) (by omega)
 have h1:E*x<=E*(C*D):=Int.mul_le_mul_of_nonneg_left hx.2 (by omega)
 have h2:E*(-(C*D))<=E*x:=Int.mul_le_mul_of_nonneg_left hx.1 (by omega)
 have e5:E*(-(C*D))= -(C*(E*D)):=by grind
 have e6:E*(C*D)=C*(E*D):=by grind
 rw[e6]at h1
 rw[e5]at h2
 constructor
 ·rcases Int.lt_or_le y (-((C+16384)*E))with hlt|hle
  ·exfalso
   have:=Int.mul_le_mul_of_nonneg_left (show y<= -((C+16384)*E)-1 by omega) (show 0<=D by omega)
   have e7:D*(-((C+16384)*E)-1)= -(C*(E*D))-16384*(E*D)-D:=by grind
   rw[e7,h]at this
   omega
  ·exact hle
 ·rcases Int.lt_or_le ((C+16384)*E) y with hlt|hle
  ·exfalso
   have:=Int.mul_le_mul_of_nonneg_left (show(C+16384)*E+1<=y by omega) (show 0<=D by omega)
   have e7:D*((C+16384)*E+1)=C*(E*D)+16384*(E*D)+D:=by grind
   rw[e7,h]at this
   omega
  ·exact hle
theorem xh {R:Nat->Nat->Int} {n:Nat} (hs: ∀i,i<n-> ∀j,j<n->R i j=R j i) (hb: ∀i,i<n-> ∀j,j<n-> -262144<=R i j/\R i j<=262144):
  ∀k,(∀t,t<k->Gl R n t)-> ∀i j,k<=i->i<n->k<=j->j<n-> -((262144+k*16384)*dk R k)<=bk R k i j/\bk R k i j<=(262144+k*16384)*dk R k
 |0,_,i,j,_,hi,_,hj=>by
  rw[fA,fB]
  have:=hb i hi j hj
  simp;omega
 |k+1,hk,i,j,hki,hi,hkj,hj=>by
  have ih:=xh hs hb k (fun t ht=>hk t (by omega)) i j (by omega) hi (by omega) hj
  obtain⟨hE,hE2,hsz⟩:=hk k (by omega)
  have hne: ∀t,t<k->dk R (t+1)≠0:=fun t ht=>by have:=(hk t (by omega)).1;omega
  have hD:0<dk R k:=nK (fun t ht=>(hk t (by omega)).1)
  have h1:=hsz i hi (by omega)
  have h2:=hsz j hj (by omega)
  rw[nz hs k (by omega) hne j k hj (by omega)]at h2
  have:=Ii (C:=262144+k*16384) (by omega) hD hE hE2 (sylv R k hne i j) ih h1 h2
  have e:((262144:Int)+(k+1:Nat)*16384)=262144+k*16384+16384:=by omega
  rw[e];exact this
def Ku (R:Nat->Nat->Int) (n k:Nat) (stg:List (List Int)):Prop:=stg.length=n-k/\ ∀i j,i<n-k->j<n-k->ent stg i j=bk R k (k+i) (k+j)
theorem kN {R:Nat->Nat->Int} {n:Nat} (hn:n<=8) (hs: ∀i,i<n-> ∀j,j<n->R i j=R j i) (hb: ∀i,i<n-> ∀j,j<n-> -262144<=R i j/\R i j<=262144)
  {k:Nat} (hkn:k<n) (hk: ∀t,t<k->Gl R n t) {i j:Nat} (hki:k<=i) (hi:i<n) (hkj:k<=j) (hj:j<n): -34359738368<=bk R k i j/\bk R k i j<=34359738368:=by
 have h:=xh hs hb k hk i j hki hi hkj hj
 have hD:0<dk R k:=nK (fun t ht=>(hk t (by omega)).1)
 have hD2:dk R k<65536:=by
  cases k with
  |zero=>rw[fB];omega
  |succ k=>exact(hk k (by omega)).2.1
 have h3:((262144:Int)+k*16384)*dk R k<=524288*65536:=Int.mul_le_mul (by omega) (by omega) (by omega) (by omega)
 omega
theorem CW {R:Nat->Nat->Int} {n:Nat} (hn:n<=8) (hs: ∀i,i<n-> ∀j,j<n->R i j=R j i) (hb: ∀i,i<n-> ∀j,j<n-> -262144<=R i j/\R i j<=262144)
  {k:Nat} (hkn:k+1<n) (hk: ∀t,t<k+1->Gl R n t) {stg:List (List Int)} (hst:Ku R n k stg) {i j:Nat} (hi:i<n-(k+1)) (hj:j<n-(k+1)):
  Hd stg (dk R k) i j=bk R (k+1) (k+1+i) (k+1+j):=by
 have hk': ∀t,t<k->Gl R n t:=fun t ht=>hk t (by omega)
 have hne: ∀t,t<k->dk R (t+1)≠0:=fun t ht=>by have:=(hk t (by omega)).1;omega
 have hD:0<dk R k:=nK (fun t ht=>(hk' t ht).1)
 obtain⟨hE,hE2,hsz⟩:=hk k (by omega)
 have e00:=hst.2 0 0 (by omega) (by omega)
 have eij:=hst.2 (i+1) (j+1) (by omega) (by omega)
 have ei0:=hst.2 (i+1) 0 (by omega) (by omega)
 have e0j:=hst.2 0 (j+1) (by omega) (by omega)
 simp only[Nat.add_zero]at e00 ei0 e0j
 rw[<- dw]at e00
 rw[show k+(i+1)=k+1+i by omega]at eij ei0
 rw[show k+(j+1)=k+1+j by omega]at eij e0j
 have b1:=kN hn hs hb (by omega) hk' (i:=k+1+i) (j:=k+1+j) (by omega) (by omega) (by omega) (by omega)
 have b2:=kN hn hs hb (by omega) hk' (i:=k+1+i) (j:=k) (by omega) (by omega) (by omega) (by omega)
 have b3:=kN hn hs hb (by omega) hk' (i:=k) (j:=k+1+j) (by omega) (by omega) (by omega) (by omega)
 have b4:=kN hn hs hb (by omega) hk (i:=k+1+i) (j:=k+1+j) (by omega) (by omega) (by omega) (by omega)
 have hs1:=hsz (k+1+i) (by omega) (by omega)
 have m1:=ld (a:=dk R (k+1)) (A:=65536) ⟨by omega,by omega⟩ b1 (by omega) (by omega)
 have m2:=ld (a:=bk R k (k+1+i) k) (A:=65536) ⟨by omega,by omega⟩ b3 (by omega) (by omega)
 have hsy:=sylv R k hne (k+1+i) (k+1+j)
 unfold Hd
 rw[e00,eij,ei0,e0j]
 rw[IntWalk.wrap64_in (dk R (k+1)*bk R k (k+1+i) (k+1+j)) ⟨by omega,by omega⟩,IntWalk.wrap64_in (bk R k (k+1+i) k*bk R k k (k+1+j)) ⟨by omega,by omega⟩]
 rw[IntWalk.wrap64_in (dk R (k+1)*bk R k (k+1+i) (k+1+j)-bk R k (k+1+i) k*bk R k k (k+1+j)) ⟨by omega,by omega⟩]
 rw[<- hsy,Int.mul_tdiv_cancel_left _ (by omega),IntWalk.wrap64_in _ ⟨by omega,by omega⟩]
theorem sR {R:Nat->Nat->Int} {n:Nat} (hn:n<=8) (hs: ∀i,i<n-> ∀j,j<n->R i j=R j i) (hb: ∀i,i<n-> ∀j,j<n-> -262144<=R i j/\R i j<=262144):
  ∀f k stg,k<n->n<=f+k->(∀t,t<k->Gl R n t)->Ku R n k stg->
   (o8 f stg (dk R k)=true↔(∀t,k<=t->t+1<n->Gl R n t/\Gi R t)/\0<dk R n/\dk R n<=10000)
 |0,k,stg,hk,hf,_,_=>by omega
 |f+1,k,stg,hk,hf,hok,hst=>by
  have e00:=hst.2 0 0 (by omega) (by omega)
  simp only[Nat.add_zero]at e00
  rw[<- dw]at e00
  by_cases hl:n=k+1
  ·subst hl
   rw[o8,if_pos (by rw[hst.1];omega),e00]
   simp only[Bool.and_eq_true,decide_eq_true_iff]
   exact⟨fun h=>⟨fun t h1 h2=>by omega,h⟩,fun h=>h.2⟩
  ·rw[o8,if_neg (by rw[hst.1];omega)]
   have hshort:kJ stg↔Gl R n k:=by
    unfold kJ Gl Au np
    rw[e00,hst.1]
    refine and_congr Iff.rfl (and_congr Iff.rfl ⟨fun h i hi hik=>?_,fun h i hi hi1=>?_⟩)
    ·have h1:=h (i-k) (by omega) (by omega)
     have e:=hst.2 (i-k) 0 (by omega) (by omega)
     rw[show k+(i-k)=i by omega,Nat.add_zero]at e
     have b1:=kN hn hs hb (by omega) hok (i:=i) (j:=k) (by omega) (by omega) (by omega) (by omega)
     rw[e,IntWalk.wrap64_in (2*bk R k i k) ⟨by omega,by omega⟩,IntWalk.wrap64_in (-2*bk R k i k) ⟨by omega,by omega⟩]at h1
     omega
    ·have h1:=h (k+i) (by omega) (by omega)
     have e:=hst.2 i 0 (by omega) (by omega)
     rw[Nat.add_zero]at e
     have b1:=kN hn hs hb (by omega) hok (i:=k+i) (j:=k) (by omega) (by omega) (by omega) (by omega)
     rw[e,IntWalk.wrap64_in (2*bk R k (k+i) k) ⟨by omega,by omega⟩,IntWalk.wrap64_in (-2*bk R k (k+i) k) ⟨by omega,by omega⟩]
     omega
   by_cases hP:kJ stg
   ·rw[if_pos hP]
    have hok1: ∀t,t<k+1->Gl R n t:=fun t ht=>by
     by_cases e:t=k
     ·subst e;exact hshort.1 hP
     ·exact hok t (by omega)
    obtain⟨hE,hE2,hsz⟩:=hok1 k (by omega)
    have hD:0<dk R k:=nK (fun t ht=>(hok t ht).1)
    have hD2:dk R k<65536:=by
     cases k with
     |zero=>rw[fB];omega
     |succ k=>exact(hok k (by omega)).2.1
    have hnx: ∀i j,i<n-(k+1)->j<n-(k+1)->Hd stg (dk R k) i j=bk R (k+1) (k+1+i) (k+1+j):=fun i j hi hj=>CW hn hs hb (by omega) hok1 hst hi hj
    have hst':Ku R n (k+1) (He stg (dk R k)):=by
     unfold He
     rw[hst.1]
     refine⟨by rw[j1];omega,fun i j hi hj=>?_⟩
     rw[ent,zp (by omega) (by omega)]
     exact hnx i j hi hj
    have hlov:yI stg (dk R k)↔ ¬Gi R k:=by
     unfold yI Gi
     have e10:ent stg 1 0=bk R k (k+1) k:=hst.2 1 0 (by omega) (by omega)
     have en:=hnx 0 0 (by omega) (by omega)
     simp only[Nat.add_zero]at en
     rw[<- dw]at en
     rw[en,e10,e00]
     have b4:=kN hn hs hb (by omega) hok1 (i:=k+1) (j:=k+1) (by omega) (by omega) (by omega) (by omega)
     rw[<- dw]at b4
     have hs1:=hsz (k+1) (by omega) (by omega)
     have m1:=ld (a:=dk R k) (A:=65536) ⟨by omega,by omega⟩ b4 (by omega) (by omega)
     have m2:=ld (a:=bk R k (k+1) k) (b:=bk R k (k+1) k) (A:=65536) (B:=65536) ⟨by omega,by omega⟩ ⟨by omega,by omega⟩ (by omega) (by omega)
     have m3:=ld (a:=3*dk R (k+1)) (b:=dk R (k+1)) (A:=196608) (B:=65536) ⟨by omega,by omega⟩ ⟨by omega,by omega⟩ (by omega) (by omega)
     rw[IntWalk.wrap64_in (dk R k*dk R (k+1+1)) ⟨by omega,by omega⟩,IntWalk.wrap64_in (bk R k (k+1) k*bk R k (k+1) k) ⟨by omega,by omega⟩,IntWalk.wrap64_in (3*dk R (k+1)*dk R (k+1)) ⟨by omega,by omega⟩]
     rw[IntWalk.wrap64_in (dk R k*dk R (k+1+1)+bk R k (k+1) k*bk R k (k+1) k) ⟨by omega,by omega⟩]
     rw[IntWalk.wrap64_in (4*_) ⟨by omega,by omega⟩]
     omega
    by_cases hL:Gi R k
    ·rw[if_neg (by rw[hlov];exact fun h=>h hL),e00,sR hn hs hb f (k+1) _ (by omega) (by omega) hok1 hst']
     refine and_congr ⟨fun h t h1 h2=>?_,fun h t h1 h2=>h t (by omega) h2⟩ Iff.rfl
     by_cases e:t=k
     ·subst e;exact⟨hok1 t (by omega),hL⟩
     ·exact h t (by omega) h2
    ·rw[if_pos (hlov.2 hL)]
     exact⟨fun h=>(nomatch h),fun h=>absurd (h.1 k (Nat.le_refl _) (by omega)).2 hL⟩
   ·rw[if_neg hP]
    exact⟨fun h=>(nomatch h),fun h=>absurd (hshort.2 (h.1 k (Nat.le_refl _) (by omega)).1) hP⟩
def wS:Nat->Nat
 |0=>0
 |k+1=>wS k+(k+1)
theorem fo {x a b C:Nat} (h:x^a<=C) (hC:C<(b+1)^a):x<=b:=by
 rcases Nat.lt_or_ge b x with hlt|hge
 ·have:=Nat.pow_le_pow_left (show b+1<=x by omega) a
  omega
 ·exact hge
theorem I3 {e:Nat->Nat} (h: ∀k,1<=k->k<1->e k^(k+1)<=2^wS k*e (k+1)^k) (h1:e 1<=10000): ∀k,1<=k->k<=1->e k<65536:=by
 intro k hk1 hk2
 match k,hk1,hk2 with
 |1,_,_=>exact Nat.lt_of_le_of_lt h1 (by decide)
 |k+2,_,hk2=>omega
theorem I4 {e:Nat->Nat} (h: ∀k,1<=k->k<2->e k^(k+1)<=2^wS k*e (k+1)^k) (h2:e 2<=10000): ∀k,1<=k->k<=2->e k<65536:=by
 have h1:e 1<=141:=fo (a:=2) (Nat.le_trans (h 1 (by omega) (by omega)) (Nat.mul_le_mul_left _ (Nat.pow_le_pow_left h2 1))) (by decide+kernel)
 intro k hk1 hk2
 match k,hk1,hk2 with
 |1,_,_=>exact Nat.lt_of_le_of_lt h1 (by decide)
 |2,_,_=>exact Nat.lt_of_le_of_lt h2 (by decide)
 |k+3,_,hk2=>omega
theorem I5 {e:Nat->Nat} (h: ∀k,1<=k->k<3->e k^(k+1)<=2^wS k*e (k+1)^k) (h3:e 3<=10000): ∀k,1<=k->k<=3->e k<65536:=by
 have h2:e 2<=928:=fo (a:=3) (Nat.le_trans (h 2 (by omega) (by omega)) (Nat.mul_le_mul_left _ (Nat.pow_le_pow_left h3 2))) (by decide+kernel)
 have h1:e 1<=43:=fo (a:=2) (Nat.le_trans (h 1 (by omega) (by omega)) (Nat.mul_le_mul_left _ (Nat.pow_le_pow_left h2 1))) (by decide+kernel)
 intro k hk1 hk2
 match k,hk1,hk2 with
 |1,_,_=>exact Nat.lt_of_le_of_lt h1 (by decide)
 |2,_,_=>exact Nat.lt_of_le_of_lt h2 (by decide)
 |3,_,_=>exact Nat.lt_of_le_of_lt h3 (by decide)
 |k+4,_,hk2=>omega
theorem I6 {e:Nat->Nat} (h: ∀k,1<=k->k<4->e k^(k+1)<=2^wS k*e (k+1)^k) (h4:e 4<=10000): ∀k,1<=k->k<=4->e k<65536:=by
 have h3:e 3<=2828:=fo (a:=4) (Nat.le_trans (h 3 (by omega) (by omega)) (Nat.mul_le_mul_left _ (Nat.pow_le_pow_left h4 3))) (by decide+kernel)
 have h2:e 2<=399:=fo (a:=3) (Nat.le_trans (h 2 (by omega) (by omega)) (Nat.mul_le_mul_left _ (Nat.pow_le_pow_left h3 2))) (by decide+kernel)
 have h1:e 1<=28:=fo (a:=2) (Nat.le_trans (h 1 (by omega) (by omega)) (Nat.mul_le_mul_left _ (Nat.pow_le_pow_left h2 1))) (by decide+kernel)
 intro k hk1 hk2
 match k,hk1,hk2 with
 |1,_,_=>exact Nat.lt_of_le_of_lt h1 (by decide)
 |2,_,_=>exact Nat.lt_of_le_of_lt h2 (by decide)
 |3,_,_=>exact Nat.lt_of_le_of_lt h3 (by decide)
 |4,_,_=>exact Nat.lt_of_le_of_lt h4 (by decide)
 |k+5,_,hk2=>omega
theorem I7 {e:Nat->Nat} (h: ∀k,1<=k->k<5->e k^(k+1)<=2^wS k*e (k+1)^k) (h5:e 5<=10000): ∀k,1<=k->k<=5->e k<65536:=by
 have h4:e 4<=6339:=fo (a:=5) (Nat.le_trans (h 4 (by omega) (by omega)) (Nat.mul_le_mul_left _ (Nat.pow_le_pow_left h5 4))) (by decide+kernel)
 have h3:e 3<=2009:=fo (a:=4) (Nat.le_trans (h 3 (by omega) (by omega)) (Nat.mul_le_mul_left _ (Nat.pow_le_pow_left h4 3))) (by decide+kernel)
 have h2:e 2<=318:=fo (a:=3) (Nat.le_trans (h 2 (by omega) (by omega)) (Nat.mul_le_mul_left _ (Nat.pow_le_pow_left h3 2))) (by decide+kernel)
 have h1:e 1<=25:=fo (a:=2) (Nat.le_trans (h 1 (by omega) (by omega)) (Nat.mul_le_mul_left _ (Nat.pow_le_pow_left h2 1))) (by decide+kernel)
 intro k hk1 hk2
 match k,hk1,hk2 with
 |1,_,_=>exact Nat.lt_of_le_of_lt h1 (by decide)
 |2,_,_=>exact Nat.lt_of_le_of_lt h2 (by decide)
 |3,_,_=>exact Nat.lt_of_le_of_lt h3 (by decide)
 |4,_,_=>exact Nat.lt_of_le_of_lt h4 (by decide)
 |5,_,_=>exact Nat.lt_of_le_of_lt h5 (by decide)
 |k+6,_,hk2=>omega
theorem I9 {e:Nat->Nat} (h: ∀k,1<=k->k<6->e k^(k+1)<=2^wS k*e (k+1)^k) (h6:e 6<=10000): ∀k,1<=k->k<=6->e k<65536:=by
 have h5:e 5<=12187:=fo (a:=6) (Nat.le_trans (h 5 (by omega) (by omega)) (Nat.mul_le_mul_left _ (Nat.pow_le_pow_left h6 5))) (by decide+kernel)
 have h4:e 4<=7426:=fo (a:=5) (Nat.le_trans (h 4 (by omega) (by omega)) (Nat.mul_le_mul_left _ (Nat.pow_le_pow_left h5 4))) (by decide+kernel)
 have h3:e 3<=2262:=fo (a:=4) (Nat.le_trans (h 3 (by omega) (by omega)) (Nat.mul_le_mul_left _ (Nat.pow_le_pow_left h4 3))) (by decide+kernel)
 have h2:e 2<=344:=fo (a:=3) (Nat.le_trans (h 2 (by omega) (by omega)) (Nat.mul_le_mul_left _ (Nat.pow_le_pow_left h3 2))) (by decide+kernel)
 have h1:e 1<=26:=fo (a:=2) (Nat.le_trans (h 1 (by omega) (by omega)) (Nat.mul_le_mul_left _ (Nat.pow_le_pow_left h2 1))) (by decide+kernel)
 intro k hk1 hk2
 match k,hk1,hk2 with
 |1,_,_=>exact Nat.lt_of_le_of_lt h1 (by decide)
 |2,_,_=>exact Nat.lt_of_le_of_lt h2 (by decide)
 |3,_,_=>exact Nat.lt_of_le_of_lt h3 (by decide)
 |4,_,_=>exact Nat.lt_of_le_of_lt h4 (by decide)
 |5,_,_=>exact Nat.lt_of_le_of_lt h5 (by decide)
 |6,_,_=>exact Nat.lt_of_le_of_lt h6 (by decide)
 |k+7,_,hk2=>omega
theorem Ja {e:Nat->Nat} (h: ∀k,1<=k->k<7->e k^(k+1)<=2^wS k*e (k+1)^k) (h7:e 7<=10000): ∀k,1<=k->k<=7->e k<65536:=by
 have h6:e 6<=21461:=fo (a:=7) (Nat.le_trans (h 6 (by omega) (by omega)) (Nat.mul_le_mul_left _ (Nat.pow_le_pow_left h7 6))) (by decide+kernel)
 have h5:e 5<=23029:=fo (a:=6) (Nat.le_trans (h 5 (by omega) (by omega)) (Nat.mul_le_mul_left _ (Nat.pow_le_pow_left h6 5))) (by decide+kernel)
 have h4:e 4<=12356:=fo (a:=5) (Nat.le_trans (h 4 (by omega) (by omega)) (Nat.mul_le_mul_left _ (Nat.pow_le_pow_left h5 4))) (by decide+kernel)
 have h3:e 3<=3314:=fo (a:=4) (Nat.le_trans (h 3 (by omega) (by omega)) (Nat.mul_le_mul_left _ (Nat.pow_le_pow_left h4 3))) (by decide+kernel)
 have h2:e 2<=444:=fo (a:=3) (Nat.le_trans (h 2 (by omega) (by omega)) (Nat.mul_le_mul_left _ (Nat.pow_le_pow_left h3 2))) (by decide+kernel)
 have h1:e 1<=29:=fo (a:=2) (Nat.le_trans (h 1 (by omega) (by omega)) (Nat.mul_le_mul_left _ (Nat.pow_le_pow_left h2 1))) (by decide+kernel)
 intro k hk1 hk2
 match k,hk1,hk2 with
 |1,_,_=>exact Nat.lt_of_le_of_lt h1 (by decide)
 |2,_,_=>exact Nat.lt_of_le_of_lt h2 (by decide)
 |3,_,_=>exact Nat.lt_of_le_of_lt h3 (by decide)
 |4,_,_=>exact Nat.lt_of_le_of_lt h4 (by decide)
 |5,_,_=>exact Nat.lt_of_le_of_lt h5 (by decide)
 |6,_,_=>exact Nat.lt_of_le_of_lt h6 (by decide)
 |7,_,_=>exact Nat.lt_of_le_of_lt h7 (by decide)
 |k+8,_,hk2=>omega
theorem Jb {e:Nat->Nat} (h: ∀k,1<=k->k<8->e k^(k+1)<=2^wS k*e (k+1)^k) (h8:e 8<=10000): ∀k,1<=k->k<=8->e k<65536:=by
 have h7:e 7<=35777:=fo (a:=8) (Nat.le_trans (h 7 (by omega) (by omega)) (Nat.mul_le_mul_left _ (Nat.pow_le_pow_left h8 7))) (by decide+kernel)
 have h6:e 6<=63999:=fo (a:=7) (Nat.le_trans (h 6 (by omega) (by omega)) (Nat.mul_le_mul_left _ (Nat.pow_le_pow_left h7 6))) (by decide+kernel)
 have h5:e 5<=57242:=fo (a:=6) (Nat.le_trans (h 5 (by omega) (by omega)) (Nat.mul_le_mul_left _ (Nat.pow_le_pow_left h6 5))) (by decide+kernel)
 have h4:e 4<=25599:=fo (a:=5) (Nat.le_trans (h 4 (by omega) (by omega)) (Nat.mul_le_mul_left _ (Nat.pow_le_pow_left h5 4))) (by decide+kernel)
 have h3:e 3<=5724:=fo (a:=4) (Nat.le_trans (h 3 (by omega) (by omega)) (Nat.mul_le_mul_left _ (Nat.pow_le_pow_left h4 3))) (by decide+kernel)
 have h2:e 2<=639:=fo (a:=3) (Nat.le_trans (h 2 (by omega) (by omega)) (Nat.mul_le_mul_left _ (Nat.pow_le_pow_left h3 2))) (by decide+kernel)
 have h1:e 1<=35:=fo (a:=2) (Nat.le_trans (h 1 (by omega) (by omega)) (Nat.mul_le_mul_left _ (Nat.pow_le_pow_left h2 1))) (by decide+kernel)
 intro k hk1 hk2
 match k,hk1,hk2 with
 |1,_,_=>exact Nat.lt_of_le_of_lt h1 (by decide)
 |2,_,_=>exact Nat.lt_of_le_of_lt h2 (by decide)
 |3,_,_=>exact Nat.lt_of_le_of_lt h3 (by decide)
 |4,_,_=>exact Nat.lt_of_le_of_lt h4 (by decide)
 |5,_,_=>exact Nat.lt_of_le_of_lt h5 (by decide)
 |6,_,_=>exact Nat.lt_of_le_of_lt h6 (by decide)
 |7,_,_=>exact Nat.lt_of_le_of_lt h7 (by decide)
 |8,_,_=>exact Nat.lt_of_le_of_lt h8 (by decide)
 |k+9,_,hk2=>omega
theorem Iz {e:Nat->Nat} {n:Nat} (h0:e 0=1) (hp: ∀k,k<=n->0<e k) (h: ∀k,k+1<n->e (k+1)*e (k+1)<=2*(e k*e (k+2))):
  ∀k,k<n->e k^(k+1)<=2^wS k*e (k+1)^k
 |0,_=>by simp[h0,wS]
 |k+1,hk=>by
  have ih:=Iz h0 hp h k (by omega)
  have h1:=Nat.pow_le_pow_left (h k (by omega)) (k+1)
  have e1:(e (k+1)*e (k+1))^(k+1)=e (k+1)^k*e (k+1)^(k+1+1):=by
   rw[Nat.mul_pow,<- Nat.pow_add,<- Nat.pow_add];congr 1;omega
  have e2:(2*(e k*e (k+2)))^(k+1)=2^(k+1)*(e k^(k+1)*e (k+2)^(k+1)):=by rw[Nat.mul_pow,Nat.mul_pow]
  rw[e1,e2]at h1
  have h2:2^(k+1)*(e k^(k+1)*e (k+2)^(k+1))<=2^(k+1)*((2^wS k*e (k+1)^k)*e (k+2)^(k+1)):=Nat.mul_le_mul_left _ (Nat.mul_le_mul_right _ ih)
  have e3:2^(k+1)*((2^wS k*e (k+1)^k)*e (k+2)^(k+1))=e (k+1)^k*(2^wS (k+1)*e (k+1+1)^(k+1)):=by
   rw[wS,Nat.pow_add 2 (wS k)]
   generalize 2^(k+1)=A
   generalize e (k+2)^(k+1)=B
   generalize 2^wS k=C
   generalize e (k+1)^k=D
   grind
  rw[e3]at h2
  exact Nat.le_of_mul_le_mul_left (Nat.le_trans h1 h2) (Nat.pow_pos (hp (k+1) (by omega)))
theorem Cc {e:Nat->Nat} {n:Nat} (h1:1<=n) (h8:n<=8) (h: ∀k,1<=k->k<n->e k^(k+1)<=2^wS k*e (k+1)^k) (hn:e n<=10000): ∀k,1<=k->k<=n->e k<65536:=by
 match n,h1,h8 with
 |1,_,_=>exact I3 h hn
 |2,_,_=>exact I4 h hn
 |3,_,_=>exact I5 h hn
 |4,_,_=>exact I6 h hn
 |5,_,_=>exact I7 h hn
 |6,_,_=>exact I9 h hn
 |7,_,_=>exact Ja h hn
 |8,_,_=>exact Jb h hn
 |n+9,_,h8=>omega
theorem xt {R:Nat->Nat->Int} {n:Nat} (h1:1<=n) (h8:n<=8) (h:qH R n): ∀k,k<n->dk R (k+1)<65536:=by
 obtain⟨_,hp,hd,hl⟩:=h
 have hpos: ∀k,k<=n->0<dk R k:=fun k hk=>nK (fun t ht=>hp t (by omega))
 intro k hk
 have hh:=Iz (e:=fun k=>(dk R k).toNat) (n:=n) (by rw[fB];rfl) (fun k hk=>by have:=hpos k hk;omega) (fun k hk=>?_)
 ·have:=Cc h1 h8 (fun k _ hk=>hh k hk) (by omega) (k+1) (by omega) (by omega)
  omega
 ·obtain⟨hs,hlv⟩:=hl k hk
  have h1:=hs (k+1) (by omega) (by omega)
  have m:=ld h1 h1 (by have:=hpos (k+1) (by omega);omega) (by have:=hpos (k+1) (by omega);omega)
  unfold Gi at hlv
  have e1:2*bk R k (k+1) k*(2*bk R k (k+1) k)=4*(bk R k (k+1) k*bk R k (k+1) k):=by grind
  have e2:3*dk R (k+1)*dk R (k+1)=3*(dk R (k+1)*dk R (k+1)):=by grind
  rw[e1]at m
  rw[e2]at hlv
  have p0:=hpos k (by omega)
  have p1:=hpos (k+1) (by omega)
  have p2:=hpos (k+2) (by omega)
  have c0:((dk R k).toNat:Int)=dk R k:=Int.toNat_of_nonneg (by omega)
  have c1:((dk R (k+1)).toNat:Int)=dk R (k+1):=Int.toNat_of_nonneg (by omega)
  have c2:((dk R (k+2)).toNat:Int)=dk R (k+2):=Int.toNat_of_nonneg (by omega)
  have:(((dk R (k+1)).toNat*(dk R (k+1)).toNat:Nat):Int)<=((2*((dk R k).toNat*(dk R (k+2)).toNat):Nat):Int):=by
   push_cast
   rw[c0,c1,c2]
   have:dk R (k+2)=dk R (k+1+1):=rfl
   rw[this]
   omega
  exact Int.ofNat_le.1 this
theorem Ih {C D E x a b y:Int} (hC:0<=C) (hD:0<D) (hE:0<E) (hE2:E<65536) (h:D*y=E*x-a*b) (hy: -(C*E)<=y/\y<=C*E) (ha: -E<=2*a/\2*a<=E) (hb: -E<=2*b/\2*b<=E):
  -((C+16384)*D)<=x/\x<=(C+16384)*D:=by
 have hab:=ld ha hb (by omega) (by omega)
 have e4:2*a*(2*b)=4*(a*b):=by grind
 rw[e4]at hab
 have hEE:E*E<=65536*E:=Int.mul_le_mul_of_nonneg_right (by omega) (by omega)
 have hED:E*1<=E*D:=Int.mul_le_mul_of_nonneg_left (by omega) (by omega)
 have h1:D*y<=D*(C*E):=Int.mul_le_mul_of_nonneg_left hy.2 (by omega)
 have h2:D*(-(C*E))<=D*y:=Int.mul_le_mul_of_nonneg_left hy.1 (by omega)
 have e5:D*(-(C*E))= -(C*(E*D)):=by grind
 have e6:D*(C*E)=C*(E*D):=by grind
 rw[e6]at h1
 rw[e5]at h2
 constructor
 ·rcases Int.lt_or_le x (-((C+16384)*D))with hlt|hle
  ·exfalso
   have:=Int.mul_le_mul_of_nonneg_left (show x<= -((C+16384)*D)-1 by omega) (show 0<=E by omega)
   have e7:E*(-((C+16384)*D)-1)= -(C*(E*D))-16384*(E*D)-E:=by grind
   rw[e7]at this
   omega
  ·exact hle
 ·rcases Int.lt_or_le ((C+16384)*D) x with hlt|hle
  ·exfalso
   have:=Int.mul_le_mul_of_nonneg_left (show(C+16384)*D+1<=x by omega) (show 0<=E by omega)
   have e7:E*((C+16384)*D+1)=C*(E*D)+16384*(E*D)+E:=by grind
   rw[e7]at this
   omega
  ·exact hle
theorem xg {R:Nat->Nat->Int} {n:Nat} (hs: ∀i,i<n-> ∀j,j<n->R i j=R j i) (hp: ∀k,k<n->0<dk R (k+1)) (hp2: ∀k,k<n->dk R (k+1)<65536) (hz: ∀t,t+1<n->Au R n t)
  {i:Nat} (hi:i<n): ∀m j k:Nat,j=k+m->j<=i-> -((65535+(m:Int)*16384)*dk R k)<=bk R k i j/\bk R k i j<=(65535+(m:Int)*16384)*dk R k
 |0,j,k,hjk,hj=>by
  have hjk:j=k:=by omega
  subst hjk
  have hD:0<dk R j:=nK (fun t ht=>hp t (by omega))
  have hE:=hp j (by omega)
  have hE2:=hp2 j (by omega)
  have hle: -(dk R (j+1))<=bk R j i j/\bk R j i j<=dk R (j+1):=by
   by_cases e:i=j
   ·subst e;rw[<- dw];omega
   ·have:=hz j (by omega) i hi (by omega);omega
  have:(65535:Int)*1<=65535*dk R j:=Int.mul_le_mul_of_nonneg_left (by omega) (by omega)
  have e:((65535:Int)+(0:Nat)*16384)=65535:=by omega
  show -((65535+((0:Nat):Int)*16384)*dk R j)<=_/\_<=(65535+((0:Nat):Int)*16384)*dk R j
  rw[e]
  omega
 |m+1,j,k,hjk,hj=>by
  have ih:=xg hs hp hp2 hz hi m j (k+1) (by omega) hj
  have hne: ∀t,t<k->dk R (t+1)≠0:=fun t ht=>by have:=hp t (by omega);omega
  have hD:0<dk R k:=nK (fun t ht=>hp t (by omega))
  have h1:=hz k (by omega) i hi (by omega)
  have h2:=hz k (by omega) j (by omega) (by omega)
  rw[nz hs k (by omega) hne j k (by omega) (by omega)]at h2
  have:=Ih (C:=65535+m*16384) (by omega) hD (hp k (by omega)) (hp2 k (by omega)) (sylv R k hne i j) ih h1 h2
  have e:((65535:Int)+(m+1:Nat)*16384)=65535+m*16384+16384:=by omega
  rw[e];exact this
theorem pF {R:Nat->Nat->Int} {n:Nat} (h1:1<=n) (h8:n<=8) (h:qH R n): ∀i,i<n-> ∀j,j<n-> -262144<R i j/\R i j<262144:=by
 have hsm:=xt h1 h8 h
 obtain⟨hs,hp,hd,hl⟩:=h
 have key: ∀i,i<n-> ∀j,j<=i-> -262144<R i j/\R i j<262144:=by
  intro i hi j hj
  have:=xg hs hp hsm (fun t ht=>(hl t ht).1) hi j j 0 (by omega) hj
  rw[fA,fB,Int.mul_one]at this
  have hj8:(j:Int)<=7:=by omega
  omega
 intro i hi j hj
 rcases Nat.le_total j i with h|h
 ·exact key i hi j h
 ·rw[hs i hi j hj];exact key j hj i h
def IY (rows:List (List Int)):Prop:=1<=rows.length/\rows.length<=8/\Sq rows/\qH (ent rows) rows.length
theorem ib (rows:List (List Int)):ch rows=true↔IY rows:=by
 have hst:Ku (ent rows) rows.length 0 rows:=⟨by omega,fun i j _ _=>by rw[fA];simp⟩
 unfold ch
 rw[Bool.and_eq_true,decide_eq_true_iff]
 constructor
 ·rintro⟨⟨h1,h8,hsq,hsm⟩,hr⟩
  have hs: ∀i,i<rows.length-> ∀j,j<rows.length->ent rows i j=ent rows j i:=fun i hi j hj=>(hsm i hi j hj).1
  have:=(sR h8 hs (fun i hi j hj=>by have:=(hsm i hi j hj).2;omega) rows.length 0 rows (by omega) (by omega) (fun t ht=>by omega) hst).1 hr
  refine⟨h1,h8,hsq,hs,fun k hk=>?_,this.2.2,fun t ht=>?_⟩
  ·by_cases e:k+1=rows.length
   ·rw[e];exact this.2.1
   ·exact(this.1 k (by omega) (by omega)).1.1
  ·have h:=this.1 t (by omega) ht
   exact⟨h.1.2.2,h.2⟩
 ·rintro⟨h1,h8,hsq,hr⟩
  have hes:=pF h1 h8 hr
  have hds:=xt h1 h8 hr
  obtain⟨hs,hp,hd,hl⟩:=hr
  refine⟨⟨h1,h8,hsq,fun i hi j hj=>⟨hs i hi j hj,hes i hi j hj⟩⟩,?_⟩
  refine(sR h8 hs (fun i hi j hj=>by have:=hes i hi j hj;omega) rows.length 0 rows (by omega) (by omega) (fun t ht=>by omega) hst).2 ⟨fun t _ ht=>?_,?_,hd⟩
  ·exact⟨⟨hp t (by omega),hds t (by omega),(hl t ht).1⟩,(hl t ht).2⟩
  ·have:=hp (rows.length-1) (by omega)
   rw[show rows.length-1+1=rows.length by omega]at this
   exact this
def de (m:Nat) (g:Nat->Int):List Int:=(List.range m).map g
def cd (n m:Nat) (f:Nat->Nat->Int):List (List Int):=(List.range n).map fun i=>de m (f i)
theorem cq (m:Nat) (g:Nat->Int):(de m g).length=m:=by simp[de]
theorem bQ (n m:Nat) (f:Nat->Nat->Int):(cd n m f).length=n:=by simp[cd]
theorem bK {m j:Nat} (g:Nat->Int) (h:j<m):(de m g)[j]?=some (g j):=by simp[de,h]
theorem cS {n i:Nat} (m:Nat) (f:Nat->Nat->Int) (h:i<n):(cd n m f)[i]?=some (de m (f i)):=by simp[cd,h]
theorem lw {m:Nat} {g g':Nat->Int} (h: ∀j,j<m->g j=g' j):de m g=de m g':=List.map_congr_left fun j hj=>h j (List.mem_range.1 hj)
theorem ko {n m:Nat} {f f':Nat->Nat->Int} (h: ∀i j,i<n->j<m->f i j=f' i j):cd n m f=cd n m f':=
 List.map_congr_left fun i hi=>lw fun j hj=>h i j (List.mem_range.1 hi) hj
theorem x8 {m j:Nat} (g:Nat->Int) (v:Int):(de m g).set j v=de m (fun c=>if c=j then v else g c):=by
 apply List.ext_getElem?
 intro c
 rw[List.getElem?_set]
 by_cases hc:c<m
 ·rw[bK _ hc,bK _ hc,cq]
  by_cases e:j=c
  ·subst e;simp[hc]
  ·simp[e,Ne.symm e]
 ·rw[List.getElem?_eq_none (l:=de m g) (by rw[cq];omega),List.getElem?_eq_none (l:=de m _) (by rw[cq];omega),cq]
  by_cases e:j=c
  ·subst e;simp[hc]
  ·simp[e]
theorem vU {n m i:Nat} (f:Nat->Nat->Int) (g:Nat->Int):(cd n m f).set i (de m g)=cd n m (fun r=>if r=i then g else f r):=by
 apply List.ext_getElem?
 intro c
 rw[List.getElem?_set]
 by_cases hc:c<n
 ·rw[cS _ _ hc,cS _ _ hc,bQ]
  by_cases e:i=c
  ·subst e;simp[hc]
  ·simp[e,Ne.symm e]
 ·rw[List.getElem?_eq_none (l:=cd n m f) (by rw[bQ];omega),List.getElem?_eq_none (l:=cd n m _) (by rw[bQ];omega),bQ]
  by_cases e:i=c
  ·subst e;simp[hc]
  ·simp[e]
theorem Ft (l:List Int):l=de l.length fun j=>l.getD j 0:=by
 apply List.ext_getElem?
 intro c
 by_cases hc:c<l.length
 ·rw[bK _ hc,List.getD_eq_getElem?_getD,List.getElem?_eq_getElem hc];rfl
 ·rw[List.getElem?_eq_none (by omega),List.getElem?_eq_none (by rw[cq];omega)]
theorem Bf {M:List (List Int)} {m:Nat} (h: ∀r∈M,r.length=m):M=cd M.length m (ent M):=by
 apply List.ext_getElem?
 intro c
 by_cases hc:c<M.length
 ·rw[cS _ _ hc,List.getElem?_eq_getElem hc]
  have e:=Ft M[c]
  rw[h _ (List.getElem_mem hc)]at e
  rw[e]
  congr 1
  refine lw fun j hj=>?_
  simp only[ent,List.getD_eq_getElem?_getD,List.getElem?_eq_getElem hc,Option.getD_some]
 ·rw[List.getElem?_eq_none (by omega),List.getElem?_eq_none (by rw[bQ];omega)]
theorem oK {n m i j:Nat} (f:Nat->Nat->Int) (hi:i<n) (hj:j<m):ent (cd n m f) i j=f i j:=by
 simp only[ent,List.getD_eq_getElem?_getD,cS _ _ hi,Option.getD_some,bK _ hj]
def piv (f:Nat->Nat->Int) (n k p:Nat):Nat:=if p<n then(if f p k=0 then piv f n k (p+1)else p)else n
termination_by n-p
def swp (p k:Nat) (f:Nat->Nat->Int):Nat->Nat->Int:=fun i=>if i=p then f k else if i=k then f p else f i
def EY (k:Nat) (last:Int) (f:Nat->Nat->Int):Nat->Nat->Int:=fun i j=>if k<i/\k<j then(f k k*f i j-f i k*f k j)/last else f i j
def Gd (n k:Nat) (f:Nat->Nat->Int):Nat->Nat->Int:=swp (piv f n k k) k f
def detG (n k:Nat) (f:Nat->Nat->Int) (last:Int) (neg:Bool):Int:=
 if k<n then(if piv f n k k=n then 0 else detG n (k+1) (EY k last (Gd n k f)) (Gd n k f k k) (neg !=decide (k<piv f n k k)))
 else if neg then -last else last
termination_by n-k
def detF (n:Nat) (f:Nat->Nat->Int):Int:=detG n 0 f 1 false
theorem pS {f:Nat->Nat->Int} {n k p:Nat} (h:p<n) (h0:f p k=0):piv f n k p=piv f n k (p+1):=by rw[piv,if_pos h,if_pos h0]
theorem pR {f:Nat->Nat->Int} {n k p:Nat} (h:p<n) (h0:f p k≠0):piv f n k p=p:=by rw[piv,if_pos h,if_neg h0]
theorem mS {f:Nat->Nat->Int} {n k p:Nat} (h: ¬p<n):piv f n k p=n:=by rw[piv,if_neg h]
theorem po (k:Nat) (f:Nat->Nat->Int):swp k k f=f:=by
 funext i
 unfold swp
 by_cases h:i=k
 ·subst h;simp
 ·simp[h]
theorem AM {f:Nat->Nat->Int} {n:Nat} (hd: ∀t,t+1<n->dk f (t+1)≠0): ∀m k g,n-k=m->k<=n->(∀i j,k<=i->i<n->k<=j->j<n->g i j=bk f k i j)->detG n k g (dk f k) false=dk f n
 |0,k,g,hm,hk,_=>by
  have:k=n:=by omega
  subst this
  rw[detG,if_neg (by omega)];rfl
 |m+1,k,g,hm,hk,hg=>by
  have hkk:g k k=dk f (k+1):=by rw[hg k k (by omega) (by omega) (by omega) (by omega),dw]
  rw[detG,if_pos (show k<n by omega)]
  by_cases h0:g k k=0
  ·have hn:k+1=n:=by
    by_cases e:k+1<n
    ·exact absurd (hkk▸h0) (hd k e)
    ·omega
   rw[pS (by omega) h0,mS (by omega),if_pos rfl,<- hn,<- hkk,h0]
  ·have hp:piv g n k k=k:=pR (by omega) h0
   rw[hp,if_neg (by omega),Gd,hp,po,hkk]
   have hne:dk f k≠0:=by
    cases k with
    |zero=>rw[fB];omega
    |succ k=>exact hd k (by omega)
   rw[show(false !=decide (k<k))=false by simp]
   refine AM hd m (k+1) _ (by omega) (by omega) fun i j hi hin hj hjn=>?_
   have hs:=sylv f k (fun t ht=>hd t (by omega)) i j
   show(if k<i/\k<j then _ else _)=_
   rw[if_pos ⟨by omega,by omega⟩,hkk,hg i j (by omega) hin (by omega) hjn,hg i k (by omega) hin (by omega) (by omega),hg k j (by omega) (by omega) (by omega) hjn,<- hs,Int.mul_ediv_cancel_left _ hne]
theorem qW {f:Nat->Nat->Int} {n:Nat} (hd: ∀t,t+1<n->dk f (t+1)≠0):detF n f=dk f n:=
 AM hd n 0 f rfl (by omega) fun i j _ _ _ _=>(fA f i j).symm
theorem xR {f g:Nat->Nat->Int}: ∀{k:Nat},(∀i,i<k->f i=g i)->om f k=om g k
 |0,_=>rfl
 |k+1,h=>by rw[om,om,h k (by omega),xR fun i hi=>h i (by omega)]
theorem pJ {r s:Nat->Int}: ∀(cs:List Nat) {f g:List Nat->Int},(∀c∈cs,r c=s c)->(∀l,(∀c∈l,c∈cs)->f l=g l)->dX r f cs=dX s g cs
 |[],_,_,_,_=>rfl
 |c::cs,f,g,h,hf=>by
  rw[dX,dX,h c List.mem_cons_self,hf cs (fun c hc=>List.mem_cons_of_mem _ hc),pJ cs (fun c hc=>h c (List.mem_cons_of_mem _ hc)) (fun l hl=>hf (c::l) (fun d hd=>by
   rcases List.mem_cons.1 hd with rfl|hd
   ·exact List.mem_cons_self
   ·exact List.mem_cons_of_mem _ (hl d hd)))]
theorem oU {f g:Nat->Nat->Int}: ∀{k:Nat} {cs:List Nat},(∀i,i<k-> ∀c∈cs,f i c=g i c)->om f k cs=om g k cs
 |0,_,_=>rfl
 |k+1,cs,h=>by
  show dX (f k) (om f k) cs=dX (g k) (om g k) cs
  exact pJ cs (fun c hc=>h k (by omega) c hc) (fun l hl=>oU fun i hi c hc=>h i (by omega) c (hl c hc))
theorem ki {f g:Nat->Nat->Int} {k:Nat} (h: ∀i j,i<k->j<k->f i j=g i j):dk f k=dk g k:=oU fun i hi c hc=>h i c hi (jY hc)
theorem y8 {f g:Nat->Nat->Int} {i j:Nat} (h: ∀r c,r<j->c<=j->g r c=f r c) (hi: ∀c,c<=j->g j c=f i c):dk g (j+1)=bk f j i j:=by
 rw[dw,bk,bk]
 refine pJ _ (fun c hc=>?_) (fun l hl=>oU fun r hr c hc=>?_)
 ·rcases List.mem_cons.1 hc with rfl|hc
  ·exact hi c (by omega)
  ·exact hi c (by have:=jY hc;omega)
 ·have:=hl c hc
  rcases List.mem_cons.1 this with rfl|this
  ·exact h r c hr (by omega)
  ·exact h r c hr (by have:=jY this;omega)
def lK (f:Nat->Nat->Int) (i j:Nat):Nat->Nat->Int:=fun r c=>if r<j then f r c else f i c
def lam (f:Nat->Nat->Int) (i j:Nat):Int:=detF (j+1) (lK f i j)
def dd (f:Nat->Nat->Int) (k:Nat):Int:=if k=0 then 1 else detF k f
def SymF (f:Nat->Nat->Int) (n:Nat):Prop:= ∀i,i<n-> ∀j,j<n->f i j=f j i
def yK (f:Nat->Nat->Int) (n:Nat):Prop:= ∀k,k<n->0<detF (k+1) f
def SizF (f:Nat->Nat->Int) (i j:Nat):Prop:=2*((lam f i j).natAbs:Int)<=dd f (j+1)
def LovF (f:Nat->Nat->Int) (i:Nat):Prop:=3*(dd f i*dd f i)<=4*(dd f (i-1)*dd f (i+1)+lam f i (i-1)*lam f i (i-1))
def IZ (f:Nat->Nat->Int) (n:Nat):Prop:= ∀i,i<n->(∀j,j<i->SizF f i j)/\(0<i->LovF f i)
theorem we {f:Nat->Nat->Int} {n:Nat} (h:yK f n): ∀k,k<n->0<dk f (k+1)/\detF (k+1) f=dk f (k+1):=by
 intro k
 induction k using Nat.strongRecOn with
 |ind k ih=>
  intro hk
  have e:detF (k+1) f=dk f (k+1):=qW fun t ht=>by have:=(ih t (by omega) (by omega)).1;omega
  exact⟨e▸h k hk,e⟩
theorem oH {f:Nat->Nat->Int} {n:Nat} (h: ∀k,k<n->0<dk f (k+1)): ∀k,k<n->detF (k+1) f=dk f (k+1):=fun k hk=>
 qW fun t ht=>by have:=h t (by omega);omega
theorem jI {f:Nat->Nat->Int} {n:Nat} (h: ∀k,k<n->0<dk f (k+1)) {k:Nat} (hk:k<=n):dd f k=dk f k:=by
 cases k with
 |zero=>rfl
 |succ k=>exact oH h k (by omega)
theorem nQ {f:Nat->Nat->Int} {n:Nat} (h: ∀k,k<n->0<dk f (k+1)) {i j:Nat} (hj:j<n):lam f i j=bk f j i j:=by
 have e: ∀t,t+1<j+1->dk (lK f i j) (t+1)=dk f (t+1):=fun t ht=>ki fun r c hr hc=>by
  unfold lK;rw[if_pos (by omega)]
 rw[lam,qW (fun t ht=>by rw[e t ht];have:=h t (by omega);omega)]
 refine y8 (fun r c hr hc=>?_) (fun c hc=>?_)
 ·unfold lK;rw[if_pos hr]
 ·unfold lK;rw[if_neg (by omega)]
theorem rb {f:Nat->Nat->Int} {n:Nat} (hn:1<=n):(SymF f n/\yK f n/\detF n f<=10000/\IZ f n)↔qH f n:=by
 constructor
 ·rintro⟨h1,h2,h3,h4⟩
  have hp: ∀k,k<n->0<dk f (k+1):=fun k hk=>(we h2 k hk).1
  have hdn:detF n f=dk f n:=by
   have:=(we h2 (n-1) (by omega)).2
   rwa[show n-1+1=n by omega]at this
  refine⟨h1,hp,hdn▸h3,fun t ht=>⟨fun i hi hti=>?_,?_⟩⟩
  ·have:=(h4 i hi).1 t hti
   rw[SizF,nQ hp (by omega),jI hp (by omega)]at this
   omega
  ·have:=(h4 (t+1) ht).2 (by omega)
   rw[LovF,nQ hp (by omega),jI hp (by omega),jI hp (by omega),jI hp (by omega)]at this
   rw[Nat.add_sub_cancel]at this
   rw[Gi,Int.mul_assoc]
   exact this
 ·rintro⟨h1,hp,h3,h4⟩
  have hdn:detF n f=dk f n:=by
   have:=oH hp (n-1) (by omega)
   rwa[show n-1+1=n by omega]at this
  refine⟨h1,fun k hk=>?_,hdn.symm▸h3,fun i hi=>⟨fun j hj=>?_,fun h0=>?_⟩⟩
  ·rw[oH hp k hk];exact hp k hk
  ·have:=(h4 j (by omega)).1 i hi hj
   rw[SizF,nQ hp (by omega),jI hp (by omega)]
   omega
  ·have:=(h4 (i-1) (by omega)).2
   rw[Gi,Int.mul_assoc,show i-1+1=i by omega]at this
   rw[LovF,nQ hp (by omega),jI hp (by omega),jI hp (by omega),jI hp (by omega)]
   exact this
end Go.Proofs.YtpgghglbpcabkaaGreat
