/-
  Part 2 of a proof (walks and plain facts).
-/
import Derived.Test.YtpgghglbpcabkaaGreatP00
import Derived.Laws.AppendOwn
import Derived.Maps.AppendAt
import Derived.Deep.OwnRows
import Derived.Orders
set_option linter.all false
set_option maxRecDepth 100000
set_option maxHeartbeats 64000000
namespace Go.Proofs.YtpgghglbpcabkaaGreat
open Go.RowKit
theorem ip (h l x y:Int) (h0:0<=h) (h1:h<18446744073709551616) (l0:0<=l) (l1:l<18446744073709551616) (x0:0<=x) (x1:x<18446744073709551616) (y0:0<=y) (y1:y<18446744073709551616)
  (hs:h*18446744073709551616+l+x*y<340282366920938463463374607431768211456) (w:World):
  Calls Tryz.prog 77 #[.agg #[.int .u64 h,.int .u64 l],.int .u64 x,.int .u64 y] w fun e w'=>
   ∃h' l':Int,e= .returned (.agg #[.int .u64 h',.int .u64 l'])/\0<=h'/\h'<18446744073709551616/\0<=l'/\l'<18446744073709551616/\h'*18446744073709551616+l'=h*18446744073709551616+l+x*y/\Ext w w':=by
 obtain⟨h,rfl⟩:=Int.eq_ofNat_of_zero_le h0
 obtain⟨l,rfl⟩:=Int.eq_ofNat_of_zero_le l0
 obtain⟨x,rfl⟩:=Int.eq_ofNat_of_zero_le x0
 obtain⟨y,rfl⟩:=Int.eq_ofNat_of_zero_le y0
 have key:=sZ (h*18446744073709551616+l) x y (by omega) (by omega) (by omega) w
 have e1:wd (h*18446744073709551616+l)= .agg #[.int .u64 (h:Int),.int .u64 (l:Int)]:=by
  unfold wd
  rw[show(h*18446744073709551616+l)/18446744073709551616=h from by omega,show(h*18446744073709551616+l)%18446744073709551616=l from by omega]
 rw[e1]at key
 refine key.mono fun e w' ⟨he,hw⟩=>?_
 have hnn:((h*18446744073709551616+l+x*y:Nat):Int)=(h:Int)*18446744073709551616+l+(x:Int)*y:=by simp
 refine⟨_,_,he,by omega,?_,by omega,by omega,?_,hw⟩
 ·rw[<- hnn]at hs;omega
 ·rw[<- hnn];omega
theorem kn (h l h2 l2:Int) (h0:0<=h) (h1:h<18446744073709551616) (l0:0<=l) (l1:l<18446744073709551616) (x0:0<=h2) (x1:h2<18446744073709551616) (y0:0<=l2) (y1:l2<18446744073709551616) (w:World):
  Calls Tryz.prog 78 #[.agg #[.int .u64 h,.int .u64 l],.agg #[.int .u64 h2,.int .u64 l2]] w fun e w'=>
   e= .returned (fk (h*18446744073709551616+l).toNat (h2*18446744073709551616+l2).toNat)/\Ext w w':=by
 obtain⟨h,rfl⟩:=Int.eq_ofNat_of_zero_le h0
 obtain⟨l,rfl⟩:=Int.eq_ofNat_of_zero_le l0
 obtain⟨h2,rfl⟩:=Int.eq_ofNat_of_zero_le x0
 obtain⟨l2,rfl⟩:=Int.eq_ofNat_of_zero_le y0
 have key:=pH (h*18446744073709551616+l) (h2*18446744073709551616+l2) (by omega) (by omega) w
 have e1: ∀h l:Nat,l<18446744073709551616->wd (h*18446744073709551616+l)= .agg #[.int .u64 (h:Int),.int .u64 (l:Int)]:=fun h l hl=>by
  unfold wd
  rw[show(h*18446744073709551616+l)/18446744073709551616=h from by omega,show(h*18446744073709551616+l)%18446744073709551616=l from by omega]
 rw[e1 h l (by omega),e1 h2 l2 (by omega)]at key
 rw[show((h:Int)*18446744073709551616+l).toNat=h*18446744073709551616+l from by omega,show((h2:Int)*18446744073709551616+l2).toNat=h2*18446744073709551616+l2 from by omega]
 exact key
def fj (x y:List Int):Nat->Int
 |0=>0
 |l+1=>fj x y l+x.getD l 0*y.getD l 0
def BY (h l:Int):Nat->Value:=fun j=>if j=0 then .int .u64 h else .int .u64 l
def mH (s:Int):Value:=if -4611686018427387904<=s/\s<=4611686018427387904 then .tuple #[.int .i64 s,.bool true]else .tuple #[.int .i64 0,.bool false]
theorem ig {a b:Int} (ha:a<=1099511627776) (ha0:0<=a) (hb:b<=2305843009213693952) (hb0:0<=b):0<=a*b/\a*b<=2535301200456458802993406410752:=
 ⟨Int.mul_nonneg ha0 hb0,by
  have h1:a*b<=1099511627776*b:=Int.mul_le_mul_of_nonneg_right ha hb0
  omega⟩
theorem xe (A B:Option Addr) (c d:Nat) (x y:List Int) (w:World) (hx:RdI .i64 w A x) (hy:RdI .i64 w B y) (hl:x.length<=y.length) (hn:x.length<=65536) (hly:y.length<=9223372036854775807)
  (hbx: ∀(i:Nat) z,x[i]?=some z-> -1099511627776<=z/\z<=1099511627776) (hby: ∀(i:Nat) z,y[i]?=some z-> -2305843009213693952<=z/\z<=2305843009213693952):
  Calls Tryz.prog 37 #[.slice A x.length c,.slice B y.length d] w fun e w'=>e= .returned (mH (fj x y x.length))/\Ext w w':=by
 have HX:=Lib.hid hx
 have HY:=Lib.hid hy
 have HBX:=Lib.hid hbx
 have HBY:=Lib.hid hby
 clear hx hy hbx hby
 go_enter Tryz.func37,Tryz.ntmps37
 go_wp2_with fail
 go_loopw [17,8,9,10] (fun i _ _ _ wr=> ∃(k:Nat) (ph pl nh nl:Int),k<=x.length/\i= .int .i64 k/\0<=ph/\ph<18446744073709551616/\0<=pl/\pl<18446744073709551616/\0<=nh/\nh<18446744073709551616/\0<=nl/\nl<18446744073709551616/\
   Hid (wr.rowIs w.heap.size 104 2 (BY ph pl))/\Hid (wr.rowIs (w.heap.size+1) 104 2 (BY nh nl))/\Hid (Ext w wr)/\
   Hid (ph*18446744073709551616+pl-(nh*18446744073709551616+nl)=fj x y k/\ph*18446744073709551616+pl+(nh*18446744073709551616+nl)<=k*2535301200456458802993406410752)) (fun i _ _ _ _=>x.length-(intOf i).toNat)
 case atStart=>
  refine⟨0,0,0,0,0,Nat.zero_le _,rfl,by omega,by omega,by omega,by omega,by omega,by omega,by omega,by omega,Lib.hid ?_,Lib.hid ?_,Lib.hid (((Ext.refl _).alloc _).alloc _),Lib.hid ⟨rfl,by omega⟩⟩
  ·refine(World.rowIs.alloc (World.rowIs_alloc w _ _ (BY 0 0) ?_) _)
   intro i hi
   match i,hi with
   |0,_=>rfl
   |1,_=>rfl
  ·have:=World.rowIs_alloc (w.alloc (.cells #[.int .u64 0,.int .u64 0] 104)) #[.int .u64 0,.int .u64 0] 104 (BY 0 0) (by
    intro i hi
    match i,hi with
    |0,_=>rfl
    |1,_=>rfl)
   simpa using this
 case round=>
  obtain⟨k,ph,pl,nh,nl,hk,rfl,p0,p1,p2,p3,n0,n1,n2,n3,HP,HN,HE,HQ⟩:=hrel
  have t1:wr.cell? ⟨w.heap.size,0,none⟩=some (.int .u64 ph):=HP.out.cell (by omega)
  have t2:wr.cell? ⟨w.heap.size,1,none⟩=some (.int .u64 pl):=HP.out.cell (by omega)
  have t3:wr.cell? ⟨w.heap.size+1,0,none⟩=some (.int .u64 nh):=HN.out.cell (by omega)
  have t4:wr.cell? ⟨w.heap.size+1,1,none⟩=some (.int .u64 nl):=HN.out.cell (by omega)
  by_cases hlt:k<x.length
  ·obtain⟨a,ha⟩:=getElem?_of_lt hlt
   obtain⟨b,off,rfl,hc⟩:=(HX.out.ext HE.out).at_ ha
   obtain⟨a2,ha2⟩:=getElem?_of_lt (l:=y) (k:=k) (by omega)
   obtain⟨b2,off2,rfl,hc2⟩:=(HY.out.ext HE.out).at_ ha2
   obtain⟨ax0,ax1⟩:=HBX.out k a ha
   obtain⟨ay0,ay1⟩:=HBY.out k a2 ha2
   have HS:Hid (fj x y (k+1)=fj x y k+a*a2):=Lib.hid (by simp[fj,List.getD_eq_getElem?_getD,ha,ha2])
   clear ha ha2
   have hky:(k:Int)<(y.length:Int):=by omega
   by_cases ga:0<=a
   ·by_cases gb:0<=a2
    ·have hp:=ig (a:=a) (b:=a2) (by omega) (by omega) (by omega) (by omega)
     have hq:=HQ.out
     have hs:ph*18446744073709551616+pl+a*a2<340282366920938463463374607431768211456:=by omega
     have HM:=Lib.hid (ip ph pl (a) (a2) (by omega) (by omega) (by omega) (by omega) (by omega) (by omega) (by omega) (by omega) hs)
     clear hp hq hs
     go_wp2_with fail
     refine(HM.out _).mono ?_
     rintro e w1 ⟨h',l',rfl,q0,q1,q2,q3,q4,he⟩
     have HE1:=Lib.hid (HE.out.trans he)
     have HO1:=Lib.hid (cT HP.out he)
     have HO2:=Lib.hid (cT HN.out he)
     have HQ4:=Lib.hid q4
     have s1:w1.cell? ⟨w.heap.size,0,none⟩=some (.int .u64 ph):=HO1.out.cell (by omega)
     have s2:w1.cell? ⟨w.heap.size,1,none⟩=some (.int .u64 pl):=HO1.out.cell (by omega)
     have s3:w1.frozen? ⟨w.heap.size,0,none⟩=false:=HO1.out.frozen 0
     have s4:w1.frozen? ⟨w.heap.size,1,none⟩=false:=HO1.out.frozen 1
     clear q4 he HP HN HE HM t1 t2 t3 t4 hc hc2
     go_wp2_with fail
     go_roundw
     case rel=>
      refine⟨k+1,h',l',nh,nl,by omega,by go_num,by omega,by omega,by omega,by omega,by omega,by omega,by omega,by omega,Lib.hid ?_,Lib.hid ?_,Lib.hid ((HE1.out.setCell (by show w.heap.size<=w.heap.size;omega) _).setCell (by show w.heap.size<=w.heap.size;omega) _),Lib.hid ⟨by rw[HS.out];have:=HQ.out.1;have:=HQ4.out;omega,by have:=HQ.out.2;have:=HQ4.out;have:=ig (a:=a) (b:=a2) (by omega) (by omega) (by omega) (by omega);omega⟩⟩
      ·exact((HO1.out.set 0 _).set 1 _).congr (fun j hj=>by match j,hj with|0,_=>rfl|1,_=>rfl)
      ·exact(HO2.out.setOther (by show w.heap.size+1≠w.heap.size;omega) _).setOther (by show w.heap.size+1≠w.heap.size;omega) _
     case measure=>simp[intOf];omega
    ·have hp:=ig (a:=a) (b:= -a2) (by omega) (by omega) (by omega) (by omega)
     have hq:=HQ.out
     have hs:nh*18446744073709551616+nl+a* -a2<340282366920938463463374607431768211456:=by omega
     have HM:=Lib.hid (ip nh nl (a) (-a2) (by omega) (by omega) (by omega) (by omega) (by omega) (by omega) (by omega) (by omega) hs)
     clear hp hq hs
     go_wp2_with fail
     refine(HM.out _).mono ?_
     rintro e w1 ⟨h',l',rfl,q0,q1,q2,q3,q4,he⟩
     have HE1:=Lib.hid (HE.out.trans he)
     have HO1:=Lib.hid (cT HN.out he)
     have HO2:=Lib.hid (cT HP.out he)
     have HQ4:=Lib.hid q4
     have s1:w1.cell? ⟨w.heap.size+1,0,none⟩=some (.int .u64 nh):=HO1.out.cell (by omega)
     have s2:w1.cell? ⟨w.heap.size+1,1,none⟩=some (.int .u64 nl):=HO1.out.cell (by omega)
     have s3:w1.frozen? ⟨w.heap.size+1,0,none⟩=false:=HO1.out.frozen 0
     have s4:w1.frozen? ⟨w.heap.size+1,1,none⟩=false:=HO1.out.frozen 1
     clear q4 he HP HN HE HM t1 t2 t3 t4 hc hc2
     go_wp2_with fail
     go_roundw
     case rel=>
      refine⟨k+1,ph,pl,h',l',by omega,by go_num,by omega,by omega,by omega,by omega,by omega,by omega,by omega,by omega,Lib.hid ?_,Lib.hid ?_,Lib.hid ((HE1.out.setCell (by show w.heap.size<=w.heap.size+1;omega) _).setCell (by show w.heap.size<=w.heap.size+1;omega) _),Lib.hid ⟨by rw[HS.out];have:=HQ.out.1;have:=HQ4.out;have e:a*a2= -(a* -a2):=(by rw[Int.mul_neg,Int.neg_neg]);omega,by have:=HQ.out.2;have:=HQ4.out;have:=ig (a:=a) (b:= -a2) (by omega) (by omega) (by omega) (by omega);omega⟩⟩
      ·exact(HO2.out.setOther (by show w.heap.size≠w.heap.size+1;omega) _).setOther (by show w.heap.size≠w.heap.size+1;omega) _
      ·exact((HO1.out.set 0 _).set 1 _).congr (fun j hj=>by match j,hj with|0,_=>rfl|1,_=>rfl)
     case measure=>simp[intOf];omega
   ·by_cases gb:0<=a2
    ·have hp:=ig (a:= -a) (b:=a2) (by omega) (by omega) (by omega) (by omega)
     have hq:=HQ.out
     have hs:nh*18446744073709551616+nl+ -a*a2<340282366920938463463374607431768211456:=by omega
     have HM:=Lib.hid (ip nh nl (-a) (a2) (by omega) (by omega) (by omega) (by omega) (by omega) (by omega) (by omega) (by omega) hs)
     clear hp hq hs
     go_wp2_with fail
     refine(HM.out _).mono ?_
     rintro e w1 ⟨h',l',rfl,q0,q1,q2,q3,q4,he⟩
     have HE1:=Lib.hid (HE.out.trans he)
     have HO1:=Lib.hid (cT HN.out he)
     have HO2:=Lib.hid (cT HP.out he)
     have HQ4:=Lib.hid q4
     have s1:w1.cell? ⟨w.heap.size+1,0,none⟩=some (.int .u64 nh):=HO1.out.cell (by omega)
     have s2:w1.cell? ⟨w.heap.size+1,1,none⟩=some (.int .u64 nl):=HO1.out.cell (by omega)
     have s3:w1.frozen? ⟨w.heap.size+1,0,none⟩=false:=HO1.out.frozen 0
     have s4:w1.frozen? ⟨w.heap.size+1,1,none⟩=false:=HO1.out.frozen 1
     clear q4 he HP HN HE HM t1 t2 t3 t4 hc hc2
     go_wp2_with fail
     go_roundw
     case rel=>
      refine⟨k+1,ph,pl,h',l',by omega,by go_num,by omega,by omega,by omega,by omega,by omega,by omega,by omega,by omega,Lib.hid ?_,Lib.hid ?_,Lib.hid ((HE1.out.setCell (by show w.heap.size<=w.heap.size+1;omega) _).setCell (by show w.heap.size<=w.heap.size+1;omega) _),Lib.hid ⟨by rw[HS.out];have:=HQ.out.1;have:=HQ4.out;have e:a*a2= -(-a*a2):=(by rw[Int.neg_mul,Int.neg_neg]);omega,by have:=HQ.out.2;have:=HQ4.out;have:=ig (a:= -a) (b:=a2) (by omega) (by omega) (by omega) (by omega);omega⟩⟩
      ·exact(HO2.out.setOther (by show w.heap.size≠w.heap.size+1;omega) _).setOther (by show w.heap.size≠w.heap.size+1;omega) _
      ·exact((HO1.out.set 0 _).set 1 _).congr (fun j hj=>by match j,hj with|0,_=>rfl|1,_=>rfl)
     case measure=>simp[intOf];omega
    ·have hp:=ig (a:= -a) (b:= -a2) (by omega) (by omega) (by omega) (by omega)
     have hq:=HQ.out
     have hs:ph*18446744073709551616+pl+ -a* -a2<340282366920938463463374607431768211456:=by omega
     have HM:=Lib.hid (ip ph pl (-a) (-a2) (by omega) (by omega) (by omega) (by omega) (by omega) (by omega) (by omega) (by omega) hs)
     clear hp hq hs
     go_wp2_with fail
     refine(HM.out _).mono ?_
     rintro e w1 ⟨h',l',rfl,q0,q1,q2,q3,q4,he⟩
     have HE1:=Lib.hid (HE.out.trans he)
     have HO1:=Lib.hid (cT HP.out he)
     have HO2:=Lib.hid (cT HN.out he)
     have HQ4:=Lib.hid q4
     have s1:w1.cell? ⟨w.heap.size,0,none⟩=some (.int .u64 ph):=HO1.out.cell (by omega)
     have s2:w1.cell? ⟨w.heap.size,1,none⟩=some (.int .u64 pl):=HO1.out.cell (by omega)
     have s3:w1.frozen? ⟨w.heap.size,0,none⟩=false:=HO1.out.frozen 0
     have s4:w1.frozen? ⟨w.heap.size,1,none⟩=false:=HO1.out.frozen 1
     clear q4 he HP HN HE HM t1 t2 t3 t4 hc hc2
     go_wp2_with fail
     go_roundw
     case rel=>
      refine⟨k+1,h',l',nh,nl,by omega,by go_num,by omega,by omega,by omega,by omega,by omega,by omega,by omega,by omega,Lib.hid ?_,Lib.hid ?_,Lib.hid ((HE1.out.setCell (by show w.heap.size<=w.heap.size;omega) _).setCell (by show w.heap.size<=w.heap.size;omega) _),Lib.hid ⟨by rw[HS.out];have:=HQ.out.1;have:=HQ4.out;have e:a*a2= -a* -a2:=(by rw[Int.neg_mul_neg]);omega,by have:=HQ.out.2;have:=HQ4.out;have:=ig (a:= -a) (b:= -a2) (by omega) (by omega) (by omega) (by omega);omega⟩⟩
      ·exact((HO1.out.set 0 _).set 1 _).congr (fun j hj=>by match j,hj with|0,_=>rfl|1,_=>rfl)
      ·exact(HO2.out.setOther (by show w.heap.size+1≠w.heap.size;omega) _).setOther (by show w.heap.size+1≠w.heap.size;omega) _
     case measure=>simp[intOf];omega
  ·have hkl:k=x.length:=by omega
   have HK:Hid (ph*18446744073709551616+pl-(nh*18446744073709551616+nl)=fj x y x.length):=Lib.hid (by have:=HQ.out.1;rw[hkl]at this;exact this)
   obtain⟨D,hD⟩: ∃D,D=fj x y x.length:=⟨_,rfl⟩
   have HM:=Lib.hid (kn ph pl nh nl p0 p1 p2 p3 n0 n1 n2 n3)
   have HM2:=Lib.hid (kn nh nl ph pl n0 n1 n2 n3 p0 p1 p2 p3)
   have hK:=HK.out
   rw[<- hD]at hK
   have HDD:=Lib.hid hD
   by_cases g1:0<=D/\D<=4611686018427387904
   ·have e1:fk (ph*18446744073709551616+pl).toNat (nh*18446744073709551616+nl).toNat= .tuple #[.int .i64 D,.bool true]:=iY (by omega) (by omega)
    have HV:Hid (mH D= .tuple #[.int .i64 D,.bool true]):=Lib.hid (if_pos (by omega))
    rw[e1]at HM
    clear hK hD e1 hkl HM2
    go_wp2_with fail
    refine(HM.out _).mono ?_
    rintro e w1 ⟨rfl,he⟩
    have HE1:=Lib.hid (HE.out.trans he)
    clear he
    go_wp2_with fail
    go_ret2
    exact⟨by rw[<- HDD.out,HV.out];rfl,HE1.out⟩
   ·have e1:fk (ph*18446744073709551616+pl).toNat (nh*18446744073709551616+nl).toNat= .tuple #[.int .i64 0,.bool false]:=fz (by omega)
    rw[e1]at HM
    by_cases g2: -4611686018427387904<=D/\D<=0
    ·have e2:fk (nh*18446744073709551616+nl).toNat (ph*18446744073709551616+pl).toNat= .tuple #[.int .i64 (-D),.bool true]:=iY (by omega) (by omega)
     have HV:Hid (mH D= .tuple #[.int .i64 D,.bool true]):=Lib.hid (if_pos (by omega))
     have g3:=g2.1
     have g4:=g2.2
     rw[e2]at HM2
     clear hK hD e1 e2 hkl
     go_wp2_with fail
     refine(HM.out _).mono ?_
     rintro e w1 ⟨rfl,he⟩
     have HE1:=Lib.hid (HE.out.trans he)
     have s1:w1.cell? ⟨w.heap.size,0,none⟩=some (.int .u64 ph):=he.cell t1
     have s2:w1.cell? ⟨w.heap.size,1,none⟩=some (.int .u64 pl):=he.cell t2
     have s3:w1.cell? ⟨w.heap.size+1,0,none⟩=some (.int .u64 nh):=he.cell t3
     have s4:w1.cell? ⟨w.heap.size+1,1,none⟩=some (.int .u64 nl):=he.cell t4
     clear he t1 t2 t3 t4
     go_wp2_with fail
     refine(HM2.out _).mono ?_
     rintro e w2 ⟨rfl,he⟩
     have HE2:=Lib.hid (HE1.out.trans he)
     clear he s1 s2 s3 s4
     go_wp2_with fail
     go_ret2
     refine⟨?_,HE2.out⟩
     rw[<- HDD.out,HV.out]
     simp
    ·have e2:fk (nh*18446744073709551616+nl).toNat (ph*18446744073709551616+pl).toNat= .tuple #[.int .i64 0,.bool false]:=fz (by omega)
     have HV:Hid (mH D= .tuple #[.int .i64 0,.bool false]):=Lib.hid (if_neg (by omega))
     rw[e2]at HM2
     clear hK hD e1 e2 hkl g1 g2
     go_wp2_with fail
     refine(HM.out _).mono ?_
     rintro e w1 ⟨rfl,he⟩
     have HE1:=Lib.hid (HE.out.trans he)
     have s1:w1.cell? ⟨w.heap.size,0,none⟩=some (.int .u64 ph):=he.cell t1
     have s2:w1.cell? ⟨w.heap.size,1,none⟩=some (.int .u64 pl):=he.cell t2
     have s3:w1.cell? ⟨w.heap.size+1,0,none⟩=some (.int .u64 nh):=he.cell t3
     have s4:w1.cell? ⟨w.heap.size+1,1,none⟩=some (.int .u64 nl):=he.cell t4
     clear he t1 t2 t3 t4
     go_wp2_with fail
     refine(HM2.out _).mono ?_
     rintro e w2 ⟨rfl,he⟩
     have HE2:=Lib.hid (HE1.out.trans he)
     clear he s1 s2 s3 s4
     go_wp2_with fail
     go_ret2
     refine⟨?_,HE2.out⟩
     rw[<- HDD.out,HV.out]
     rfl
theorem Tryz.inI64:(Tryz.prog.info? 2).map (fun i=>(i.zero,i.size,i.bytes))=some (some (.int .i64 0),1,8):=by kernel_rfl
theorem vI (A:Option Addr) (c:Nat) (x:List Int) (w:World) (hx:RdI .i64 w A x) (hl:x.length*8<=140737488355328):
  Calls Tryz.prog 44 #[.slice A x.length c] w fun e w'=> ∃v,e= .returned v/\w'.ownsRow w.heap.size 2 1 v x.length (x.map (Value.int .i64))/\Ext w w':=by
 have hnil:=fun(w:World) (n c:Nat)=>Lib.run_eql_slice_nil (P:=Tryz.prog) w 35 2 A n c 0 0 Tryz.underlying35
 cases A with
 |none=>
  have hx0:x=[]:=by
   cases x with
   |nil=>rfl
   |cons a l=>obtain⟨_,_,h,_⟩:=hx (by simp);cases h
  subst hx0
  go_enter Tryz.func44,Tryz.ntmps44
  go_wp2_with fail
  go_ret
  exact⟨_,rfl,World.ownsRow_nil _ _ _ _,Ext.refl _⟩
 |some a=>
  go_enter Tryz.func44,Tryz.ntmps44
  go_wp2_with (at_builtin;refine fC _ rfl (.tmp 5) (.tmp 6) _ rfl w.heap.size 2 (.int .i64 0) 1 8 Tryz.underlying35 Tryz.inI64 rfl (by omega) _ 0 [] rfl (World.ownsRow_made w #[] 0 (Nat.le_refl _) (Nat.zero_le _) rfl) (some a) x.length c _ rfl (Rd.ext hx ((Ext.refl _).alloc _)) (by simp) l5 (by simp only[maxLen];omega) (by omega) (by simp) ?_;intro v1 w1 hown1 hg1 _)
  go_ret
  exact⟨_,rfl,by simpa using hown1,qQ hg1 (World.ownsRow_made w #[] 0 (Nat.le_refl _) (Nat.zero_le _) rfl:World.ownsRow _ w.heap.size 2 1 _ 0 []) ((Ext.refl w).alloc _) (Nat.le_refl _)⟩
def m7 (x:List Int):Int:=match x.findIdx? (fun c=>c !=0)with|some i=>i|none=> -1
theorem zb {x:List Int} {k:Nat} {a:Int} (h: ∀j c,j<k->x[j]?=some c->c=0) (hk:x[k]?=some a) (ha:(a !=0)=true):m7 x=k:=by
 unfold m7
 have:x.findIdx? (fun c=>c !=0)=some k:=by
  rw[List.findIdx?_eq_some_iff_getElem]
  obtain⟨hlt,rfl⟩:=List.getElem?_eq_some_iff.1 hk
  exact⟨hlt,ha,fun j hj=>by simp[h j x[j] hj (List.getElem?_eq_getElem (by omega))]⟩
 rw[this]
theorem uY {x:List Int} {k:Nat} (h: ∀j c,j<k->x[j]?=some c->c=0) (hk:x.length<=k):m7 x= -1:=by
 unfold m7
 have:x.findIdx? (fun c=>c !=0)=none:=by
  rw[List.findIdx?_eq_none_iff]
  intro c hc
  obtain⟨j,hj,rfl⟩:=List.getElem_of_mem hc
  simp[h j _ (by omega) (List.getElem?_eq_getElem hj)]
 rw[this]
theorem je {x:List Int} (h:y6 x=true) {k:Nat} {c:Int} (hk:x[k]?=some c): -1099511627776<=c/\c<=1099511627776:=by
 unfold y6 at h
 rw[List.all_eq_true]at h
 have:=h c (List.mem_of_getElem? hk)
 simp at this
 exact this
theorem oP (a:Int) (w:World):
  Calls Tryz.prog 43 #[.int .i64 a] w fun e w'=>e= .returned (.bool (a !=0))/\w=w':=by
 go_enter Tryz.func43,Tryz.ntmps43
 go_wp2_with fail
 go_ret
 exact⟨rfl,rfl⟩
theorem ko (A:Option Addr) (c:Nat) (x:List Int) (w:World) (hx:RdI .i64 w A x) (lx:x.length<=9223372036854775807):
  Calls Tryz.prog 42 #[.slice A x.length c,.func (Fn.func 43) #[] #[]] w fun e w'=>e= .returned (.int .i64 (m7 x))/\w=w':=by
 have HX:=Lib.hid hx
 clear hx
 go_enter Tryz.func42,Tryz.ntmps42
 go_wp2_with fail
 go_loop [8,5] (fun i _=> ∃k:Nat,k<=x.length/\i= .int .i64 k/\Hid (∀j c,j<k->x[j]?=some c->c=0)) (fun i _=>x.length-(intOf i).toNat)
 case atStart=>exact⟨0,Nat.zero_le _,rfl,Lib.hid (fun j c h=>by omega)⟩
 case round=>
  obtain⟨k,hk,rfl,HR⟩:=hrel
  by_cases hlt:k<x.length
  ·obtain⟨a,ha⟩:=getElem?_of_lt hlt
   obtain⟨b,off,rfl,hc⟩:=HX.out.at_ ha
   have HA:=Lib.hid ha
   clear ha
   by_cases h0:(a !=0)=true
   ·go_wp2_with (go_at_call 43;refine(oP _ _).mono ?_;rintro e w' ⟨rfl,rfl⟩)
    go_ret
    exact⟨fd (zb HR.out HA.out h0).symm,rfl⟩
   ·have h0':(a !=0)=false:=by simpa using h0
    have H0:=Lib.hid h0'
    clear h0
    go_wp2_with (go_at_call 43;refine(oP _ _).mono ?_;rintro e w' ⟨rfl,rfl⟩)
    go_round
    case rel=>exact⟨k+1,by omega,by go_num,Lib.hid (pV (P:=fun c=>c=0) HR.out HA.out (by simpa using H0.out))⟩
    case measure=>simp[intOf];omega
  ·go_wp2_with fail
   go_ret
   exact⟨fd (uY HR.out (by omega)).symm,rfl⟩
def gM (x:List Int):Option (List Int):=
 if y6 x then(match x.find? (fun c=>c !=0)with
  |none=>none
  |some c=>some (if c<0 then x.map (fun a=> -a)else x))else none
theorem tL (x:List Int):(m7 x= -1/\x.find? (fun c=>c !=0)=none)\/ ∃(k:Nat) (a:Int),m7 x=k/\k<x.length/\x[k]?=some a/\x.find? (fun c=>c !=0)=some a:=by
 unfold m7
 cases h:x.findIdx? (fun c=>c !=0)with
 |none=>
  left
  refine⟨rfl,?_⟩
  rw[List.find?_eq_none]
  rw[List.findIdx?_eq_none_iff]at h
  intro c hc;simpa using h c hc
 |some k=>
  right
  rw[List.findIdx?_eq_some_iff_getElem]at h
  obtain⟨hlt,h1,h2⟩:=h
  refine⟨k,x[k],rfl,hlt,List.getElem?_eq_getElem hlt,?_⟩
  rw[List.find?_eq_some_iff_getElem]
  exact⟨h1,k,hlt,rfl,fun j hj=>by simpa using h2 j hj⟩
def Aw (x:List Int) (k:Nat) (f:Nat->Value):Nat->Value:=fun j=>if j<k then .int .i64 (-(x.getD j 0))else f j
def zS (w0 w':World) (r:Option (List Int)) (e:Ending):Prop:=match r with
 |none=>e= .returned (.tuple #[.slice none 0 0,.bool false])
 |some z=> ∃A c,e= .returned (.tuple #[.slice A z.length c,.bool true])/\z.length<=c/\RdI .i64 w' A z/\ ∀p,A=some p->w0.heap.size<=p.block/\p.block<w'.heap.size
theorem fq (A:Option Addr) (c:Nat) (x:List Int) (w:World) (hx:RdI .i64 w A x) (hl:x.length*8<=140737488355328):
  Calls Tryz.prog 16 #[.slice A x.length c] w fun e w'=>zS w w' (gM x) e/\Ext w w':=by
 have HX:=Lib.hid hx
 cases hI:y6 x with
 |false=>
  have HF:Hid (gM x=none):=Lib.hid (by simp[gM,hI])
  go_enter Tryz.func16,Tryz.ntmps16
  go_wp2_with (go_at_call 41;refine(ic A c x _ hx (by omega)).mono ?_;rintro e w' ⟨rfl,rfl⟩)
  go_ret2
  exact⟨by rw[HF.out];rfl,Ext.refl _⟩
 |true=>
  have HIB:=Lib.hid hI
  rcases tL x with⟨h1,h2⟩|⟨k,a,h1,hk,ha,h2⟩
  ·have HF:Hid (gM x=none):=Lib.hid (by simp[gM,hI,h2])
   have HC:=Lib.hid (ko A c x w hx (by omega))
   rw[h1]at HC
   clear h1 h2
   go_enter Tryz.func16,Tryz.ntmps16
   go_wp2_with (go_at_call 41;refine(ic A c x _ hx (by omega)).mono ?_;rintro e w' ⟨rfl,rfl⟩)
   refine HC.out.mono ?_
   rintro e w' ⟨rfl,rfl⟩
   go_wp2_with fail
   go_ret2
   exact⟨by rw[HF.out];rfl,Ext.refl _⟩
  ·have HC:=Lib.hid (ko A c x w hx (by omega))
   rw[h1]at HC
   have HF:Hid (gM x=some (if a<0 then x.map (fun a=> -a)else x)):=Lib.hid (by simp[gM,hI,h2])
   obtain⟨b,off,rfl,hc⟩:=hx.at_ ha
   clear h1 h2 ha
   go_enter Tryz.func16,Tryz.ntmps16
   go_wp2_with (go_at_call 41;refine(ic _ c x _ hx (by omega)).mono ?_;rintro e w' ⟨rfl,rfl⟩)
   refine HC.out.mono ?_
   rintro e w' ⟨rfl,rfl⟩
   go_wp2_with fail
   refine(vI _ c x _ hx hl).mono ?_
   rintro e w1 ⟨v,rfl,hown,he⟩
   have hc1:=he.cell hc
   obtain⟨g,cap,f,rfl,hcap,hg,hrow,hf⟩:=xU hown (by omega)
   have HE:=Lib.hid he
   have HROW:=Lib.hid hrow
   have HFF:=Lib.hid hf
   clear hown he hrow hf hx
   by_cases h0:a<0
   ·go_wp2_with fail
    go_loopw [24,6,7] (fun i _ _ wr=> ∃l:Nat,l<=x.length/\i= .int .i64 l/\Hid (wr.rowIs g 2 cap (Aw x l f))/\Hid (Ext w wr)) (fun i _ _ _=>x.length-(intOf i).toNat)
    case atStart=>exact⟨0,Nat.zero_le _,rfl,Lib.hid (HROW.out.congr (fun j _=>by simp[Aw])),HE⟩
    case round=>
     clear hc1 HROW HE
     obtain⟨l,hl',rfl,HROW,HE⟩:=hrel
     by_cases hlt:l<x.length
     ·obtain⟨a2,ha2⟩:=getElem?_of_lt hlt
      obtain⟨b2,off2,hbb,hc2⟩:=(HX.out.ext HE.out).at_ ha2
      cases hbb
      have hB:=je HIB.out ha2
      have t1:wr.cell? ⟨g,l,none⟩=some (f l):=by rw[HROW.out.cell (by omega)];simp[Aw]
      have t2:wr.frozen? ⟨g,l,none⟩=false:=HROW.out.frozen l
      have hlc:(l:Int)<(cap:Int):=by omega
      have HA2:Hid (x.getD l 0=a2):=Lib.hid (by rw[List.getD_eq_getElem?_getD,ha2];rfl)
      clear ha2
      have hB1:=hB.1
      have hB2:=hB.2
      go_wp2_with fail
      go_roundw
      case rel=>
       refine⟨l+1,by omega,by go_num,Lib.hid ((HROW.out.set l _).congr (fun j _=>?_)),Lib.hid (HE.out.setCell hg _)⟩
       unfold Aw
       by_cases e:j=l
       ·subst e
        rw[if_pos rfl,if_pos (by omega),HA2.out]
       ·rw[if_neg e]
        by_cases e2:j<l
        ·rw[if_pos e2,if_pos (by omega)]
        ·rw[if_neg e2,if_neg (by omega)]
      case measure=>simp[intOf];omega
     ·go_wp2_with fail
      go_ret2
      refine⟨?_,HE.out⟩
      rw[HF.out,if_pos h0]
      refine⟨some ⟨g,0,none⟩,cap,by simp,by simpa using hcap,RdI.of_row HROW.out (by simpa using hcap) (fun i z hz=>?_),(by rintro p ⟨⟩;exact⟨hg,HROW.out.lt⟩)⟩
      rw[List.getElem?_map]at hz
      cases hxi:x[i]? with
      |none=>rw[hxi]at hz;cases hz
      |some a3=>
       rw[hxi]at hz
       have hi:i<x.length:=(List.getElem?_eq_some_iff.1 hxi).1
       unfold Aw
       rw[if_pos (by omega),List.getD_eq_getElem?_getD,hxi]
       simp at hz
       simp[hz]
   ·go_wp2_with fail
    go_ret2
    refine⟨?_,HE.out⟩
    rw[HF.out,if_neg (by omega)]
    exact⟨some ⟨g,0,none⟩,cap,rfl,hcap,RdI.of_row HROW.out hcap (fun i z hz=>HFF.out i _ (by simp[hz])),(by rintro p ⟨⟩;exact⟨hg,HROW.out.lt⟩)⟩
theorem Eg {a b A B:Int} (ha: -A<=a/\a<=A) (hb: -B<=b/\b<=B) (hB:0<=B) (hA:0<=A): -(A*B)<=a*b/\a*b<=A*B:=by
 have h1:a.natAbs<=A.toNat:=by omega
 have h2:b.natAbs<=B.toNat:=by omega
 have h3:(a*b).natAbs<=A.toNat*B.toNat:=by rw[Int.natAbs_mul];exact Nat.mul_le_mul h1 h2
 have h4:((A.toNat*B.toNat:Nat):Int)=A*B:=by rw[Int.natCast_mul,Int.toNat_of_nonneg hA,Int.toNat_of_nonneg hB]
 omega
theorem xu {x:List Int} {B:Int} (hB:0<=B) (h: ∀(i:Nat) z,x[i]?=some z-> -B<=z/\z<=B) (j:Nat): -B<=x.getD j 0/\x.getD j 0<=B:=by
 rw[List.getD_eq_getElem?_getD]
 cases hx:x[j]? with
 |none=>simp;omega
 |some z=>exact h j z hx
theorem pE {row x:List Int} (hr: ∀(i:Nat) z,row[i]?=some z-> -262144<=z/\z<=262144) (hx: ∀(i:Nat) z,x[i]?=some z-> -1099511627776<=z/\z<=1099511627776):
  ∀l:Nat,l<=8->lU row x l=fj row x l/\ -(l*288230376151711744)<=fj row x l/\fj row x l<=l*288230376151711744
 |0,_=>⟨rfl,by simp[fj],by simp[fj]⟩
 |l+1,hl=>by
  obtain⟨h1,h2,h3⟩:=pE hr hx l (by omega)
  have hp:=Eg (xu (by omega) hr l) (xu (by omega) hx l) (by omega) (by omega)
  have e:(262144:Int)*1099511627776=288230376151711744:=by decide
  rw[e]at hp
  have hw1:wrap64 (row.getD l 0*x.getD l 0)=row.getD l 0*x.getD l 0:=IntWalk.wrap64_in _ ⟨by omega,by omega⟩
  have hw2:wrap64 (fj row x l+row.getD l 0*x.getD l 0)=fj row x l+row.getD l 0*x.getD l 0:=IntWalk.wrap64_in _ ⟨by omega,by omega⟩
  refine⟨?_,?_,?_⟩
  ·show wrap64 (lU row x l+wrap64 (row.getD l 0*x.getD l 0))=fj row x l+row.getD l 0*x.getD l 0
   rw[hw1,h1,hw2]
  ·show _<=fj row x l+row.getD l 0*x.getD l 0
   omega
  ·show fj row x l+row.getD l 0*x.getD l 0<=_
   omega
theorem f9.row_len {rows:List (List Int)} (h:f9 rows) {i:Nat} {r:List Int} (hi:rows[i]?=some r):r.length=rows.length:=(show Sq rows from h.2.2.1).at_ hi
theorem f9.row_bd {rows:List (List Int)} (h:f9 rows) {i:Nat} {r:List Int} (hi:rows[i]?=some r): ∀(j:Nat) z,r[j]?=some z-> -262144<=z/\z<=262144:=by
 intro j z hz
 have h1:=(List.getElem?_eq_some_iff.1 hi).1
 have h2:=(List.getElem?_eq_some_iff.1 hz).1
 rw[h.row_len hi]at h2
 have:=h.2.2.2 i h1 j h2
 unfold jj at this
 rw[kM hi hz]at this
 omega
theorem qa {rows:List (List Int)} {x:List Int} (h:f9 rows) (hx:y6 x=true): ∀(i:Nat) z,(eo rows x)[i]?=some z-> -2305843009213693952<=z/\z<=2305843009213693952:=by
 intro i z hz
 obtain⟨row,h1,rfl⟩:=qu hz
 have hl:=h.row_len h1
 have h8:=h.2.1
 obtain⟨e,h2,h3⟩:=pE (h.row_bd h1) (fun i z hz=>je hx hz) row.length (by omega)
 rw[e]
 have:((row.length:Nat):Int)<=8:=by omega
 omega
theorem nT {n:Nat} {x:List Int}:nP n x=true↔x.length=n/\y6 x=true:=by
 unfold nP
 rw[Bool.and_eq_true,decide_eq_true_iff]
 exact⟨fun h=>⟨by omega,h.2⟩,fun h=>⟨by omega,h.2⟩⟩
theorem iK {rows:List (List Int)} (h:dv rows=true):f9 rows:=by
 unfold dv at h
 simp at h
 exact h.1
theorem ki (rows:List (List Int)) (x:List Int):(eo rows x).length=rows.length:=by simp[eo]
theorem pp {R:Nat->Nat->Int} {n:Nat} (hs: ∀i,i<n-> ∀j,j<n->R i j=R j i): ∀k,k<=n->(∀t,t<k->dk R (t+1)≠0)-> ∀i j,i<n->j<n->bk R k i j=bk R k j i
 |0,_,_,i,j,hi,hj=>by rw[fw,fw];exact hs i hi j hj
 |k+1,hk,hd,i,j,hi,hj=>by
  have ih:=pp hs k (by omega) (fun t ht=>hd t (by omega))
  have h1:=sylv R k (fun t ht=>hd t (by omega)) i j
  have h2:=sylv R k (fun t ht=>hd t (by omega)) j i
  have e1:=ih i j hi hj
  have e2:=ih i k hi (by omega)
  have e3:=ih k j (by omega) hj
  have hne:dk R k≠0:=by
   cases k with
   |zero=>rw[j8];omega
   |succ k=>exact hd k (by omega)
  apply Int.eq_of_mul_eq_mul_left hne
  rw[h1,h2,e1,e2,e3,Int.mul_comm (bk R k k i)]
def da (m:Nat) (g:Nat->Int):List Int:=(List.range m).map g
def dp (n m:Nat) (f:Nat->Nat->Int):List (List Int):=(List.range n).map fun i=>da m (f i)
theorem cL (m:Nat) (g:Nat->Int):(da m g).length=m:=by simp[da]
theorem ci (n m:Nat) (f:Nat->Nat->Int):(dp n m f).length=n:=by simp[dp]
theorem ce {m j:Nat} (g:Nat->Int) (h:j<m):(da m g)[j]?=some (g j):=by simp[da,h]
theorem df {n i:Nat} (m:Nat) (f:Nat->Nat->Int) (h:i<n):(dp n m f)[i]?=some (da m (f i)):=by simp[dp,h]
theorem pD {m:Nat} {g g':Nat->Int} (h: ∀j,j<m->g j=g' j):da m g=da m g':=List.map_congr_left fun j hj=>h j (List.mem_range.1 hj)
theorem qv {n m:Nat} {f f':Nat->Nat->Int} (h: ∀i j,i<n->j<m->f i j=f' i j):dp n m f=dp n m f':=
 List.map_congr_left fun i hi=>pD fun j hj=>h i j (List.mem_range.1 hi) hj
theorem sM {m j:Nat} (g:Nat->Int) (v:Int):(da m g).set j v=da m (fun c=>if c=j then v else g c):=by
 apply List.ext_getElem?
 intro c
 rw[List.getElem?_set]
 by_cases hc:c<m
 ·rw[ce _ hc,ce _ hc,cL]
  by_cases e:j=c
  ·subst e;simp[hc]
  ·simp[e,Ne.symm e]
 ·rw[List.getElem?_eq_none (l:=da m g) (by rw[cL];omega),List.getElem?_eq_none (l:=da m _) (by rw[cL];omega),cL]
  by_cases e:j=c
  ·subst e;simp[hc]
  ·simp[e]
theorem rq {n m i:Nat} (f:Nat->Nat->Int) (g:Nat->Int):(dp n m f).set i (da m g)=dp n m (fun r=>if r=i then g else f r):=by
 apply List.ext_getElem?
 intro c
 rw[List.getElem?_set]
 by_cases hc:c<n
 ·rw[df _ _ hc,df _ _ hc,ci]
  by_cases e:i=c
  ·subst e;simp[hc]
  ·simp[e,Ne.symm e]
 ·rw[List.getElem?_eq_none (l:=dp n m f) (by rw[ci];omega),List.getElem?_eq_none (l:=dp n m _) (by rw[ci];omega),ci]
  by_cases e:i=c
  ·subst e;simp[hc]
  ·simp[e]
theorem zf (l:List Int):l=da l.length fun j=>l.getD j 0:=by
 apply List.ext_getElem?
 intro c
 by_cases hc:c<l.length
 ·rw[ce _ hc,List.getD_eq_getElem?_getD,List.getElem?_eq_getElem hc];rfl
 ·rw[List.getElem?_eq_none (by omega),List.getElem?_eq_none (by rw[cL];omega)]
theorem CH {M:List (List Int)} {m:Nat} (h: ∀r∈M,r.length=m):M=dp M.length m (ent M):=by
 apply List.ext_getElem?
 intro c
 by_cases hc:c<M.length
 ·rw[df _ _ hc,List.getElem?_eq_getElem hc]
  have e:=zf M[c]
  rw[h _ (List.getElem_mem hc)]at e
  rw[e]
  congr 1
  refine pD fun j hj=>?_
  simp only[ent,List.getD_eq_getElem?_getD,List.getElem?_eq_getElem hc,Option.getD_some]
 ·rw[List.getElem?_eq_none (by omega),List.getElem?_eq_none (by rw[ci];omega)]
theorem Cf {n m i j:Nat} (f:Nat->Nat->Int) (hi:i<n) (hj:j<m):ent (dp n m f) i j=f i j:=by
 simp only[ent,List.getD_eq_getElem?_getD,df _ _ hi,Option.getD_some,ce _ hj]
def piv (f:Nat->Nat->Int) (n k p:Nat):Nat:=if p<n then(if f p k=0 then piv f n k (p+1)else p)else n
termination_by n-p
def swp (p k:Nat) (f:Nat->Nat->Int):Nat->Nat->Int:=fun i=>if i=p then f k else if i=k then f p else f i
def zQ (k:Nat) (last:Int) (f:Nat->Nat->Int):Nat->Nat->Int:=fun i j=>if k<i/\k<j then(f k k*f i j-f i k*f k j)/last else f i j
def BK (n k:Nat) (f:Nat->Nat->Int):Nat->Nat->Int:=swp (piv f n k k) k f
def detG (n k:Nat) (f:Nat->Nat->Int) (last:Int) (neg:Bool):Int:=
 if k<n then(if piv f n k k=n then 0 else detG n (k+1) (zQ k last (BK n k f)) (BK n k f k k) (neg !=decide (k<piv f n k k)))
 else if neg then -last else last
termination_by n-k
def detF (n:Nat) (f:Nat->Nat->Int):Int:=detG n 0 f 1 false
theorem mo {f:Nat->Nat->Int} {n k p:Nat} (h:p<n) (h0:f p k=0):piv f n k p=piv f n k (p+1):=by rw[piv,if_pos h,if_pos h0]
theorem mB {f:Nat->Nat->Int} {n k p:Nat} (h:p<n) (h0:f p k≠0):piv f n k p=p:=by rw[piv,if_pos h,if_neg h0]
theorem j9 {f:Nat->Nat->Int} {n k p:Nat} (h: ¬p<n):piv f n k p=n:=by rw[piv,if_neg h]
theorem lg (k:Nat) (f:Nat->Nat->Int):swp k k f=f:=by
 funext i
 unfold swp
 by_cases h:i=k
 ·subst h;simp
 ·simp[h]
theorem vW {f:Nat->Nat->Int} {n:Nat} (hd: ∀t,t+1<n->dk f (t+1)≠0): ∀m k g,n-k=m->k<=n->(∀i j,k<=i->i<n->k<=j->j<n->g i j=bk f k i j)->detG n k g (dk f k) false=dk f n
 |0,k,g,hm,hk,_=>by
  have:k=n:=by omega
  subst this
  rw[detG,if_neg (by omega)];rfl
 |m+1,k,g,hm,hk,hg=>by
  have hkk:g k k=dk f (k+1):=by rw[hg k k (by omega) (by omega) (by omega) (by omega),cQ]
  rw[detG,if_pos (show k<n by omega)]
  by_cases h0:g k k=0
  ·have hn:k+1=n:=by
    by_cases e:k+1<n
    ·exact absurd (hkk▸h0) (hd k e)
    ·omega
   rw[mo (by omega) h0,j9 (by omega),if_pos rfl,<- hn,<- hkk,h0]
  ·have hp:piv g n k k=k:=mB (by omega) h0
   rw[hp,if_neg (by omega),BK,hp,lg,hkk]
   have hne:dk f k≠0:=by
    cases k with
    |zero=>rw[j8];omega
    |succ k=>exact hd k (by omega)
   rw[show(false !=decide (k<k))=false by simp]
   refine vW hd m (k+1) _ (by omega) (by omega) fun i j hi hin hj hjn=>?_
   have hs:=sylv f k (fun t ht=>hd t (by omega)) i j
   show(if k<i/\k<j then _ else _)=_
   rw[if_pos ⟨by omega,by omega⟩,hkk,hg i j (by omega) hin (by omega) hjn,hg i k (by omega) hin (by omega) (by omega),hg k j (by omega) (by omega) (by omega) hjn,<- hs,Int.mul_ediv_cancel_left _ hne]
theorem rf {f:Nat->Nat->Int} {n:Nat} (hd: ∀t,t+1<n->dk f (t+1)≠0):detF n f=dk f n:=
 vW hd n 0 f rfl (by omega) fun i j _ _ _ _=>(fw f i j).symm
theorem tw {f g:Nat->Nat->Int}: ∀{k:Nat},(∀i,i<k->f i=g i)->om f k=om g k
 |0,_=>rfl
 |k+1,h=>by rw[om,om,h k (by omega),tw fun i hi=>h i (by omega)]
theorem mC {r s:Nat->Int}: ∀(cs:List Nat) {f g:List Nat->Int},(∀c∈cs,r c=s c)->(∀l,(∀c∈l,c∈cs)->f l=g l)->dn r f cs=dn s g cs
 |[],_,_,_,_=>rfl
 |c::cs,f,g,h,hf=>by
  rw[dn,dn,h c List.mem_cons_self,hf cs (fun c hc=>List.mem_cons_of_mem _ hc),mC cs (fun c hc=>h c (List.mem_cons_of_mem _ hc)) (fun l hl=>hf (c::l) (fun d hd=>by
   rcases List.mem_cons.1 hd with rfl|hd
   ·exact List.mem_cons_self
   ·exact List.mem_cons_of_mem _ (hl d hd)))]
theorem kZ {f g:Nat->Nat->Int}: ∀{k:Nat} {cs:List Nat},(∀i,i<k-> ∀c∈cs,f i c=g i c)->om f k cs=om g k cs
 |0,_,_=>rfl
 |k+1,cs,h=>by
  show dn (f k) (om f k) cs=dn (g k) (om g k) cs
  exact mC cs (fun c hc=>h k (by omega) c hc) (fun l hl=>kZ fun i hi c hc=>h i (by omega) c (hl c hc))
theorem kY {f g:Nat->Nat->Int} {k:Nat} (h: ∀i j,i<k->j<k->f i j=g i j):dk f k=dk g k:=kZ fun i hi c hc=>h i c hi (gY hc)
theorem DG {f g:Nat->Nat->Int} {i j:Nat} (h: ∀r c,r<j->c<=j->g r c=f r c) (hi: ∀c,c<=j->g j c=f i c):dk g (j+1)=bk f j i j:=by
 rw[cQ,bk,bk]
 refine mC _ (fun c hc=>?_) (fun l hl=>kZ fun r hr c hc=>?_)
 ·rcases List.mem_cons.1 hc with rfl|hc
  ·exact hi c (by omega)
  ·exact hi c (by have:=gY hc;omega)
 ·have:=hl c hc
  rcases List.mem_cons.1 this with rfl|this
  ·exact h r c hr (by omega)
  ·exact h r c hr (by have:=gY this;omega)
def zY (f:Nat->Nat->Int) (i j:Nat):Nat->Nat->Int:=fun r c=>if r<j then f r c else f i c
def lam (f:Nat->Nat->Int) (i j:Nat):Int:=detF (j+1) (zY f i j)
def dd (f:Nat->Nat->Int) (k:Nat):Int:=if k=0 then 1 else detF k f
def SymF (f:Nat->Nat->Int) (n:Nat):Prop:= ∀i,i<n-> ∀j,j<n->f i j=f j i
def EQ (f:Nat->Nat->Int) (n:Nat):Prop:= ∀k,k<n->0<detF (k+1) f
def jo (f:Nat->Nat->Int) (i j:Nat):Prop:=2*((lam f i j).natAbs:Int)<=dd f (j+1)
def pz (f:Nat->Nat->Int) (i:Nat):Prop:=3*(dd f i*dd f i)<=4*(dd f (i-1)*dd f (i+1)+lam f i (i-1)*lam f i (i-1))
theorem DR {f:Nat->Nat->Int} {n:Nat} (h:EQ f n): ∀k,k<n->0<dk f (k+1)/\detF (k+1) f=dk f (k+1):=by
 intro k
 induction k using Nat.strongRecOn with
 |ind k ih=>
  intro hk
  have e:detF (k+1) f=dk f (k+1):=rf fun t ht=>by have:=(ih t (by omega) (by omega)).1;omega
  exact⟨e▸h k hk,e⟩
theorem B6 {f:Nat->Nat->Int} {n:Nat} (h: ∀k,k<n->0<dk f (k+1)): ∀k,k<n->detF (k+1) f=dk f (k+1):=fun k hk=>
 rf fun t ht=>by have:=h t (by omega);omega
theorem tl {f:Nat->Nat->Int} {n:Nat} (h: ∀k,k<n->0<dk f (k+1)) {k:Nat} (hk:k<=n):dd f k=dk f k:=by
 cases k with
 |zero=>rfl
 |succ k=>exact B6 h k (by omega)
theorem vL {f:Nat->Nat->Int} {n:Nat} (h: ∀k,k<n->0<dk f (k+1)) {i j:Nat} (hj:j<n):lam f i j=bk f j i j:=by
 have e: ∀t,t+1<j+1->dk (zY f i j) (t+1)=dk f (t+1):=fun t ht=>kY fun r c hr hc=>by
  unfold zY;rw[if_pos (by omega)]
 rw[lam,rf (fun t ht=>by rw[e t ht];have:=h t (by omega);omega)]
 refine DG (fun r c hr hc=>?_) (fun c hc=>?_)
 ·unfold zY;rw[if_pos hr]
 ·unfold zY;rw[if_neg (by omega)]
section
def eP (f:Nat->Nat->Int) (i j:Nat) (c:Int):Nat->Nat->Int:=fun a b=>f a b+(if a=i then c*f j b else 0)+(if b=i then c*f a j else 0)+(if a=i then(if b=i then c*c*f j j else 0)else 0)
def kf (m a:Nat):Nat:=if a=m then m+1 else if a=m+1 then m else a
def ia (f:Nat->Nat->Int) (m:Nat):Nat->Nat->Int:=fun a b=>f (kf m a) (kf m b)
theorem Av {m a:Nat} (h:a<m):kf m a=a:=by unfold kf;rw[if_neg (by omega),if_neg (by omega)]
theorem rt {m a:Nat} (h:m+1<a):kf m a=a:=by unfold kf;rw[if_neg (by omega),if_neg (by omega)]
theorem sQ (m:Nat):kf m m=m+1:=by simp[kf]
theorem rT (m:Nat):kf m (m+1)=m:=by simp[kf]
theorem kz {m a n:Nat} (hm:m+1<n) (h:a<n):kf m a<n:=by unfold kf;split<;>(try split)<;>omega
theorem xr {f:Nat->Nat->Int} {k:Nat} (h: ∀t,t<k->dk f (t+1)≠0):dk f k≠0:=by
 cases k with
 |zero=>rw[j8];omega
 |succ k=>exact h k (by omega)
theorem pa {g:Nat->Nat->Int} {i j a b:Nat} {c:Int} (ha:a≠i) (hb:b≠i):eP g i j c a b=g a b:=by
 unfold eP;rw[if_neg ha,if_neg hb,if_neg ha];omega
theorem AH {f:Nat->Nat->Int} {i j:Nat} {c:Int} (hji:j<i): ∀k,k<=j+1->(∀t,t<k->dk f (t+1)≠0)->(∀k',k'<=k->dk (eP f i j c) k'=dk f k')/\ ∀a b,bk (eP f i j c) k a b=eP (bk f k) i j c a b
 |0,_,_=>⟨fun k' h=>by have:k'=0:=(by omega);subst this;rfl,fun a b=>by rw[fw];unfold eP;simp only[fw]⟩
 |k+1,hk,hd=>by
  obtain⟨h1,h2⟩:=AH (c:=c) hji k (by omega) (fun t ht=>hd t (by omega))
  have e1:dk (eP f i j c) (k+1)=dk f (k+1):=by rw[cQ,h2,pa (by omega) (by omega),cQ]
  have hd': ∀t,t<k->dk (eP f i j c) (t+1)≠0:=fun t ht=>by rw[h1 (t+1) (by omega)];exact hd t (by omega)
  refine⟨fun k' h=>?_,fun a b=>?_⟩
  ·by_cases e:k'=k+1
   ·subst e;exact e1
   ·exact h1 k' (by omega)
  ·have hne:=xr (f:=f) (k:=k) (fun t ht=>hd t (by omega))
   have s:=sylv (eP f i j c) k hd' a b
   rw[h1 k (by omega),e1,h2 a b,h2 a k,h2 k b]at s
   have s1:=sylv f k (fun t ht=>hd t (by omega)) a b
   have s2:=sylv f k (fun t ht=>hd t (by omega)) j b
   have s3:=sylv f k (fun t ht=>hd t (by omega)) a j
   have s4:=sylv f k (fun t ht=>hd t (by omega)) j j
   refine Int.eq_of_mul_eq_mul_left hne ?_
   rw[s]
   have hki: ¬k=i:=by omega
   unfold eP
   by_cases ha:a=i
   ·by_cases hb:b=i
    ·simp only[ha,hb,hki,if_true,if_false];subst ha;subst hb;grind
    ·simp only[ha,hb,hki,if_true,if_false];subst ha;grind
   ·by_cases hb:b=i
    ·simp only[ha,hb,hki,if_true,if_false];subst hb;grind
    ·simp only[ha,hb,hki,if_false];grind
theorem wm {f g:Nat->Nat->Int} {n k0:Nat} (hf: ∀t,t<n->dk f (t+1)≠0) (hg: ∀t,t<k0->dk g (t+1)≠0) (hd:dk g k0=dk f k0) (h0: ∀a b,a<n->b<n->bk g k0 a b=bk f k0 a b):
  ∀k,k0<=k->k<=n->(∀k',k0<=k'->k'<=k->dk g k'=dk f k')/\ ∀a b,a<n->b<n->bk g k a b=bk f k a b:=by
 intro k
 induction k with
 |zero=>exact fun h1 h2=>⟨fun k' g1 g2=>by have:k'=k0:=(by omega);subst this;exact hd,fun a b ha hb=>by have:k0=0:=(by omega);subst this;exact h0 a b ha hb⟩
 |succ k ih=>
  intro h1 h2
  by_cases e:k0=k+1
  ·subst e
   exact⟨fun k' g1 g2=>by have:k'=k+1:=(by omega);subst this;exact hd,h0⟩
  ·obtain⟨p1,p2⟩:=ih (by omega) (by omega)
   have e1:dk g (k+1)=dk f (k+1):=by rw[cQ,p2 k k (by omega) (by omega),cQ]
   have hg': ∀t,t<k->dk g (t+1)≠0:=fun t ht=>by
    by_cases h:t<k0
    ·exact hg t h
    ·rw[p1 (t+1) (by omega) (by omega)];exact hf t (by omega)
   refine⟨fun k' g1 g2=>?_,fun a b ha hb=>?_⟩
   ·by_cases e:k'=k+1
    ·subst e;exact e1
    ·exact p1 k' g1 (by omega)
   ·have hne:=xr (f:=f) (k:=k) (fun t ht=>hf t (by omega))
    have s:=sylv g k hg' a b
    have s1:=sylv f k (fun t ht=>hf t (by omega)) a b
    rw[p1 k (by omega) (by omega),e1,p2 a b ha hb,p2 a k ha (by omega),p2 k b (by omega) hb,<- s1]at s
    exact Int.eq_of_mul_eq_mul_left hne s
section
variable {f:Nat->Nat->Int} {n:Nat}
theorem BA (hs:SymF f n) (hp: ∀t,t<n->dk f (t+1)≠0) {k a t:Nat} (hk:k<=n) (ht:t<k) (ha:a<n):bk f k a t=0:=by
 rw[pp hs k hk (fun t ht=>hp t (by omega)) a t ha (by omega),iU f ht]
theorem gG (hs:SymF f n) (hp: ∀t,t<n->dk f (t+1)≠0) {i j:Nat} (c:Int) (hji:j<i) (hi:i<n):
  (∀k,k<=n->dk (eP f i j c) k=dk f k)/\(∀k a b,k<=j->bk (eP f i j c) k a b=eP (bk f k) i j c a b)/\ ∀k a b,j<k->k<=n->a<n->b<n->bk (eP f i j c) k a b=bk f k a b:=by
 have hlo:=AH (f:=f) (c:=c) hji
 obtain⟨h1,h2⟩:=hlo (j+1) (Nat.le_refl _) (fun t ht=>hp t (by omega))
 have h0: ∀a b,a<n->b<n->bk (eP f i j c) (j+1) a b=bk f (j+1) a b:=fun a b ha hb=>by
  rw[h2]
  unfold eP
  rw[iU f (show j<j+1 by omega) b,iU f (show j<j+1 by omega) j,BA hs hp (by omega) (show j<j+1 by omega) ha]
  simp
 have hsame:=wm (f:=f) (g:=eP f i j c) (n:=n) (k0:=j+1) hp (fun t ht=>by rw[h1 (t+1) (by omega)];exact hp t (by omega)) (h1 (j+1) (by omega)) h0
 refine⟨fun k hk=>?_,fun k a b hk=>(hlo k (by omega) (fun t ht=>hp t (by omega))).2 a b,fun k a b hjk hk ha hb=>(hsame k (by omega) hk).2 a b ha hb⟩
 by_cases h:k<=j+1
 ·exact h1 k h
 ·exact(hsame k (by omega) hk).1 k (by omega) (by omega)
theorem rc {m:Nat}: ∀k,k<=m->(∀t,t<k->dk f (t+1)≠0)->(∀k',k'<=k->dk (ia f m) k'=dk f k')/\ ∀a b,bk (ia f m) k a b=bk f k (kf m a) (kf m b)
 |0,_,_=>⟨fun k' h=>by have:k'=0:=(by omega);subst this;rfl,fun a b=>by rw[fw,fw];rfl⟩
 |k+1,hk,hd=>by
  obtain⟨h1,h2⟩:=rc (m:=m) k (by omega) (fun t ht=>hd t (by omega))
  have e1:dk (ia f m) (k+1)=dk f (k+1):=by rw[cQ,h2,Av (by omega),cQ]
  have hd': ∀t,t<k->dk (ia f m) (t+1)≠0:=fun t ht=>by rw[h1 (t+1) (by omega)];exact hd t (by omega)
  refine⟨fun k' h=>?_,fun a b=>?_⟩
  ·by_cases e:k'=k+1
   ·subst e;exact e1
   ·exact h1 k' (by omega)
  ·have hne:=xr (f:=f) (k:=k) (fun t ht=>hd t (by omega))
   have s:=sylv (ia f m) k hd' a b
   rw[h1 k (by omega),e1,h2 a b,h2 a k,h2 k b,Av (show k<m by omega)]at s
   have s1:=sylv f k (fun t ht=>hd t (by omega)) (kf m a) (kf m b)
   refine Int.eq_of_mul_eq_mul_left hne ?_
   rw[s,s1]
theorem Fl (xmm x11 x1m xm1 xab xam xmb xa1 x1b:Int):(xmm*x11-x1m*xm1)*(xmm*xab-xam*xmb)-(xmm*xa1-xam*xm1)*(xmm*x1b-x1m*xmb)=xmm*(xmm*x11*xab-x11*xam*xmb-x1m*xm1*xab+xam*xm1*x1b+xa1*x1m*xmb-xmm*xa1*x1b):=by grind
theorem Fm (xmm x11 x1m xm1 xab xam xmb xa1 x1b:Int):(x11*xmm-xm1*x1m)*(x11*xab-xa1*x1b)-(x11*xam-xa1*x1m)*(x11*xmb-xm1*x1b)=x11*(xmm*x11*xab-x11*xam*xmb-x1m*xm1*xab+xam*xm1*x1b+xa1*x1m*xmb-xmm*xa1*x1b):=by grind
theorem o9 (hs:SymF f n) (hp: ∀t,t<n->0<dk f (t+1)) {m:Nat} (hm:m+1<n):
  dk f (m+1)*dk (ia f m) (m+1)=dk f m*dk f (m+2)+bk f m (m+1) m*bk f m (m+1) m/\0<dk (ia f m) (m+1):=by
 have hne: ∀t,t<n->dk f (t+1)≠0:=fun t ht=>by have:=hp t ht;omega
 obtain⟨h1,h2⟩:=rc (f:=f) (m:=m) m (Nat.le_refl _) (fun t ht=>hne t (by omega))
 have e:dk (ia f m) (m+1)=bk f m (m+1) (m+1):=by rw[cQ,h2,sQ]
 have s:=sylv f m (fun t ht=>hne t (by omega)) (m+1) (m+1)
 have hsy:=pp hs m (by omega) (fun t ht=>hne t (by omega)) m (m+1) (by omega) (by omega)
 rw[hsy,<- cQ f (m+1)]at s
 have key:dk f (m+1)*dk (ia f m) (m+1)=dk f m*dk f (m+2)+bk f m (m+1) m*bk f m (m+1) m:=by rw[e,s];omega
 refine⟨key,?_⟩
 have p1:=hp m (by omega)
 have p2:=hp (m+1) hm
 have p0:0<dk f m:=by
  cases m with
  |zero=>rw[j8];omega
  |succ m=>exact hp m (by omega)
 have q1:0<dk f m*dk f (m+2):=Int.mul_pos p0 p2
 have q2:0<=bk f m (m+1) m*bk f m (m+1) m:=by
  rcases Int.le_total 0 (bk f m (m+1) m)with h|h
  ·exact Int.mul_nonneg h h
  ·exact Int.mul_nonneg_of_nonpos_of_nonpos h h
 rcases Int.lt_or_le 0 (dk (ia f m) (m+1))with h|h
 ·exact h
 ·exfalso
  have:=Int.mul_nonpos_of_nonneg_of_nonpos (Int.le_of_lt p1) h
  omega
theorem jv (hs:SymF f n) (hp: ∀t,t<n->0<dk f (t+1)) {m:Nat} (hm:m+1<n):
  (∀k,k<=n->k≠m+1->dk (ia f m) k=dk f k)/\(∀k a b,k<=m->bk (ia f m) k a b=bk f k (kf m a) (kf m b))/\ ∀k a b,m+1<k->k<=n->a<n->b<n->bk (ia f m) k a b=bk f k a b:=by
 have hne: ∀t,t<n->dk f (t+1)≠0:=fun t ht=>by have:=hp t ht;omega
 have hlo:=rc (f:=f) (m:=m)
 obtain⟨h1,h2⟩:=hlo m (Nat.le_refl _) (fun t ht=>hne t (by omega))
 have hsm:=(o9 hs hp hm).2
 have hgm: ∀t,t<m+1->dk (ia f m) (t+1)≠0:=fun t ht=>by
  by_cases e:t=m
  ·subst e;omega
  ·rw[h1 (t+1) (by omega)];exact hne t (by omega)
 have hPne:=xr (f:=f) (k:=m) (fun t ht=>hne t (by omega))
 have hd1:=hne m (by omega)
 have hsg:SymF (ia f m) n:=fun a ha b hb=>hs _ (kz hm ha) _ (kz hm hb)
 -- stage m + 2 for a, b behind m + 1
 have hz: ∀a b,m+1<a->m+1<b->bk (ia f m) (m+2) a b=bk f (m+2) a b:=fun a b ha hb=>by
  have F: ∀x y,dk f m*bk f (m+1) x y=dk f (m+1)*bk f m x y-bk f m x m*bk f m m y:=fun x y=>sylv f m (fun t ht=>hne t (by omega)) x y
  have G: ∀x y,dk f m*bk (ia f m) (m+1) x y=dk (ia f m) (m+1)*bk f m (kf m x) (kf m y)-bk f m (kf m x) (m+1)*bk f m (m+1) (kf m y):=fun x y=>by
   have:=sylv (ia f m) m (fun t ht=>hgm t (by omega)) x y
   rw[h1 m (by omega),h2,h2,h2,sQ]at this
   exact this
  have F2:=sylv f (m+1) (fun t ht=>hne t (by omega)) a b
  have G2:=sylv (ia f m) (m+1) hgm a b
  rw[cQ f (m+1)]at F2
  rw[cQ (ia f m) (m+1)]at G2
  have f11:=F (m+1) (m+1)
  have fab:=F a b
  have fa1:=F a (m+1)
  have f1b:=F (m+1) b
  have g11:=G (m+1) (m+1)
  have gab:=G a b
  have ga1:=G a (m+1)
  have g1b:=G (m+1) b
  rw[rT]at g11
  rw[rt ha,rt hb]at gab
  rw[rt ha,rT]at ga1
  rw[rt hb,rT]at g1b
  have ed:dk (ia f m) (m+1)=bk f m (m+1) (m+1):=by rw[cQ,h2,sQ]
  have ed':dk f (m+1)=bk f m m m:=cQ f m
  rw[ed]at g11 gab ga1 g1b G2
  rw[ed']at f11 fab fa1 f1b F2
  have hx1:bk f m (m+1) (m+1)≠0:=by rw[<- ed];omega
  have hxm:bk f m m m≠0:=by rw[<- ed'];exact hd1
  generalize bk (ia f m) (m+2) a b=z' at*
  generalize bk f (m+2) a b=z at*
  generalize bk (ia f m) (m+1) (m+1) (m+1)=y11' at*
  generalize bk (ia f m) (m+1) a b=yab' at*
  generalize bk (ia f m) (m+1) a (m+1)=ya1' at*
  generalize bk (ia f m) (m+1) (m+1) b=y1b' at*
  generalize bk f (m+1) (m+1) (m+1)=y11 at*
  generalize bk f (m+1) a b=yab at*
  generalize bk f (m+1) a (m+1)=ya1 at*
  generalize bk f (m+1) (m+1) b=y1b at*
  generalize bk f m (m+1) (m+1)=x11 at*
  generalize bk f m m m=xmm at*
  generalize bk f m (m+1) m=x1m at*
  generalize bk f m m (m+1)=xm1 at*
  generalize bk f m a b=xab at*
  generalize bk f m a m=xam at*
  generalize bk f m m b=xmb at*
  generalize bk f m a (m+1)=xa1 at*
  generalize bk f m (m+1) b=x1b at*
  generalize dk f m=p at*
  have k1:p*p*(xmm*z)=xmm*(xmm*x11*xab-x11*xam*xmb-x1m*xm1*xab+xam*xm1*x1b+xa1*x1m*xmb-xmm*xa1*x1b):=by
   have:p*p*(xmm*z)=(p*y11)*(p*yab)-(p*ya1)*(p*y1b):=by rw[F2];grind
   rw[this,f11,fab,fa1,f1b]
   exact Fl _ _ _ _ _ _ _ _ _
  have k2:p*p*(x11*z')=x11*(xmm*x11*xab-x11*xam*xmb-x1m*xm1*xab+xam*xm1*x1b+xa1*x1m*xmb-xmm*xa1*x1b):=by
   have:p*p*(x11*z')=(p*y11')*(p*yab')-(p*ya1')*(p*y1b'):=by rw[G2];grind
   rw[this,g11,gab,ga1,g1b]
   exact Fm _ _ _ _ _ _ _ _ _
  have k3:p*p*z=xmm*x11*xab-x11*xam*xmb-x1m*xm1*xab+xam*xm1*x1b+xa1*x1m*xmb-xmm*xa1*x1b:=
   Int.eq_of_mul_eq_mul_left hxm (by rw[<- k1];exact Int.mul_left_comm _ _ _)
  have k4:p*p*z'=xmm*x11*xab-x11*xam*xmb-x1m*xm1*xab+xam*xm1*x1b+xa1*x1m*xmb-xmm*xa1*x1b:=
   Int.eq_of_mul_eq_mul_left hx1 (by rw[<- k2];exact Int.mul_left_comm _ _ _)
  exact Int.eq_of_mul_eq_mul_left (Int.mul_ne_zero hPne hPne) (k4.trans k3.symm)
 have hd2:dk (ia f m) (m+2)=dk f (m+2):=by
  have s1:=sylv f m (fun t ht=>hne t (by omega)) (m+1) (m+1)
  have s2:=sylv (ia f m) m (fun t ht=>hgm t (by omega)) (m+1) (m+1)
  have ed:dk (ia f m) (m+1)=bk f m (m+1) (m+1):=by rw[cQ,h2,sQ]
  rw[h1 m (by omega),h2,h2,h2,sQ,rT,ed,<- cQ (ia f m) (m+1)]at s2
  rw[<- cQ f (m+1),cQ f m]at s1
  refine Int.eq_of_mul_eq_mul_left hPne ?_
  rw[s1,s2,Int.mul_comm (bk f m (m+1) (m+1)),Int.mul_comm (bk f m m (m+1))]
 have hg2: ∀t,t<m+2->dk (ia f m) (t+1)≠0:=fun t ht=>by
  by_cases e:t=m+1
  ·subst e;rw[hd2];exact hne (m+1) (by omega)
  ·exact hgm t (by omega)
 have h0: ∀a b,a<n->b<n->bk (ia f m) (m+2) a b=bk f (m+2) a b:=fun a b ha hb=>by
  by_cases h1a:a<m+2
  ·rw[iU _ h1a,iU _ h1a]
  ·by_cases h1b:b<m+2
   ·rw[BA hs hne (by omega) h1b ha,pp hsg (m+2) (by omega) hg2 a b ha hb,iU _ h1b]
   ·exact hz a b (by omega) (by omega)
 have hsame:=wm (f:=f) (g:=ia f m) (n:=n) (k0:=m+2) hne hg2 hd2 h0
 refine⟨fun k hk hkm=>?_,fun k a b hk=>(hlo k hk (fun t ht=>hne t (by omega))).2 a b,fun k a b hmk hk ha hb=>(hsame k (by omega) hk).2 a b ha hb⟩
 by_cases h:k<=m
 ·exact h1 k h
 ·exact(hsame k (by omega) hk).1 k (by omega) (by omega)
end
end
inductive PV where
 |raw (v:Value)
 |sl (xs:List (List PV))
 |ptr (cs:List PV)
inductive AV where
 |p (x:PV)
 |sl (a r off len:Nat)
 |ptr (a r i j:Nat)
 |junk
inductive TV where
 |one (x:AV)
 |agg (cs:List AV)
 |tup (ts:List (Bool×List AV))
 |fn (f:FuncId) (cs:List AV)
structure OObj where
 ty:TypeId
 es:Nat
 elems:List (List AV)
abbrev OH:=Nat->List OObj
structure AS where
 tmps:List TV
 H:OH
inductive cO (X:Nat->Prop) (w:World):PV->Value->Prop
 |raw (v:Value) (h:v.oneCell'=true):cO X w (.raw v) v
 |nil (a:Option Addr) (c:Nat):cO X w (.sl []) (.slice a 0 c)
 |sl (b off es cap:Nat) (xs:List (List PV)) (f:Nat->Nat->Value) (hX: ¬X b) (hb:b<w.heap.size) (hes: ∀e∈xs,e.length=es) (hcap:xs.length<=cap) (hm:xs.length<=9223372036854775807)
   (hc: ∀(i:Nat) e (j:Nat) x,xs[i]?=some e->e[j]?=some x->w.cell? ⟨b,off+i*es+j,none⟩=some (f i j))
   (hr: ∀(i:Nat) e (j:Nat) x,xs[i]?=some e->e[j]?=some x->cO X w x (f i j)):cO X w (.sl xs) (.slice (some ⟨b,off,none⟩) xs.length cap)
 |ptr (b off:Nat) (cs:List PV) (f:Nat->Value) (hX: ¬X b) (hb:b<w.heap.size)
   (hc: ∀(j:Nat) x,cs[j]?=some x->w.cell? ⟨b,off+j,none⟩=some (f j))
   (hr: ∀(j:Nat) x,cs[j]?=some x->cO X w x (f j)):cO X w (.ptr cs) (.pointer (some ⟨b,off,none⟩))
theorem cO.one {X:Nat->Prop} {w:World} {x:PV} {v:Value} (h:cO X w x v):v.oneCell'=true:=by
 cases h<;>first|assumption|rfl
def DE (X:Nat->Prop) (w w':World):Prop:=w.heap.size<=w'.heap.size/\ ∀p v,¬X p.block->w.cell? p=some v->w'.cell? p=some v
theorem cO.stays {X:Nat->Prop} {w w':World} (hs:DE X w w') {x:PV} {v:Value} (h:cO X w x v):cO X w' x v:=by
 induction h with
 |raw v h=>exact .raw v h
 |nil a c=>exact .nil a c
 |sl b off es cap xs f hX hb hes hcap hm hc hr ih=>exact .sl b off es cap xs f hX (Nat.lt_of_lt_of_le hb hs.1) hes hcap hm (fun i e j x h1 h2=>hs.2 _ _ hX (hc i e j x h1 h2)) ih
 |ptr b off cs f hX hb hc hr ih=>exact .ptr b off cs f hX (Nat.lt_of_lt_of_le hb hs.1) (fun j x h1=>hs.2 _ _ hX (hc j x h1)) ih
theorem cO.weaken {X Y:Nat->Prop} {w:World} (hs: ∀b,b<w.heap.size->Y b->X b) {x:PV} {v:Value} (h:cO X w x v):cO Y w x v:=by
 induction h with
 |raw v h=>exact .raw v h
 |nil a c=>exact .nil a c
 |sl b off es cap xs f hX hb hes hcap hm hc hr ih=>exact .sl b off es cap xs f (fun h=>hX (hs _ hb h)) hb hes hcap hm hc ih
 |ptr b off cs f hX hb hc hr ih=>exact .ptr b off cs f (fun h=>hX (hs _ hb h)) hb hc ih
abbrev eZ:=Nat->Nat->Option (Nat×Nat)
def Xo (X:Nat->Prop) (ρ:eZ) (H:OH):Nat->Prop:=fun b=>X b\/ ∃(a r:Nat) (o:OObj) (c:Nat),(H a)[r]?=some o/\ρ a r=some (b,c)
def AV.rel (ρ:eZ) (H:OH) (X:Nat->Prop) (w:World):AV->Value->Prop
 | .p x,v=>cO X w x v
 | .sl a r off len,v=> ∃o,(H a)[r]?=some o/\off+len<=o.elems.length/\
   ((ρ a r=none/\v= .slice none 0 0/\len=0/\off=0)\/ ∃b c,ρ a r=some (b,c)/\v= .slice (some ⟨b,off*o.es,none⟩) len (c-off))
 | .ptr a r i j,v=> ∃o b c,(H a)[r]?=some o/\ρ a r=some (b,c)/\i<o.elems.length/\v= .pointer (some ⟨b,i*o.es+j,none⟩)
 | .junk,_=>True
def cE (ρ:eZ) (H:OH) (X:Nat->Prop) (w:World) (cs:List AV) (v:Value):Prop:=
 ∃vs:Array Value,v= .agg vs/\vs.size=cs.length/\ ∀(j:Nat) x,cs[j]?=some x-> ∃u:Value,vs[j]?=some u/\u.oneCell'=true/\x.rel ρ H X w u
def Ff (f:FuncId):Value->Value
 | .agg vs=> .func (.func f) #[] vs
 |v=>v
def TV.rel (ρ:eZ) (H:OH) (X:Nat->Prop) (w:World):TV->Value->Prop
 | .one x,v=>x.rel ρ H X w v
 | .agg cs,v=>cE ρ H X w cs v
 | .tup ts,v=> ∃vs:Array Value,v= .tuple vs/\vs.size=ts.length/\ ∀(j:Nat) b cs,ts[j]?=some (b,cs)-> ∃u:Value,vs[j]?=some u/\
   ((b=true/\cE ρ H X w cs u)\/(b=false/\ ∃x,cs=[x]/\x.rel ρ H X w u))
 | .fn f cs,v=> ∃u,cE ρ H X w cs u/\v=Ff f u
def objRel (ρ:eZ) (H:OH) (X:Nat->Prop) (w:World) (a r:Nat) (o:OObj):Prop:=
 (∀e∈o.elems,e.length=o.es)/\0<o.es/\
 match ρ a r with
 |none=>o.elems=[]
 |some (b,c)=> ∃cells,w.heap[b]?=some (.cells cells o.ty (0,0))/\cells.size=c*o.es/\o.elems.length<=c/\c<=9223372036854775807/\
   ∀(i:Nat) e (j:Nat) x,o.elems[i]?=some e->e[j]?=some x-> ∃v:Value,cells[i*o.es+j]?=some v/\v.oneCell'=true/\x.rel ρ H X w v
structure Keep (O:Nat->Prop) (w0 w:World):Prop where
 os:w.os=w0.os
 tape:w.tape=w0.tape
 output:w.output=w0.output
 size:w0.heap.size<=w.heap.size
 block: ∀k,k<w0.heap.size-> ¬O k->w.heap[k]?=w0.heap[k]?
def eB (a:Nat):AV->Prop
 | .sl b _ _ _=>b=a
 | .ptr b _ _ _=>b=a
 |_=>True
def selfO (a:Nat) (o:OObj):Prop:= ∀e∈o.elems,∀x∈e,eB a x
structure gU (w0:World) (O X:Nat->Prop) (H:OH) (ρ:eZ) (w:World):Prop where
 keep:Keep O w0 w
 objs: ∀(a r:Nat) (o:OObj),(H a)[r]?=some o->objRel ρ H (Xo X ρ H) w a r o
 inj: ∀(a r a' r':Nat) (o o':OObj) (b c c':Nat),(H a)[r]?=some o->(H a')[r']?=some o'->ρ a r=some (b,c)->ρ a' r'=some (b,c')->a=a'/\r=r'
 old: ∀(a r:Nat) (o:OObj) (b c:Nat),(H a)[r]?=some o->ρ a r=some (b,c)->(w0.heap.size<=b\/O b)/\ ¬X b
 bar: ∀b,X b->b<w.heap.size
 self: ∀(a r:Nat) (o:OObj),(H a)[r]?=some o->selfO a o
def fM (w0:World) (O X:Nat->Prop) (s:AS) (a:Act) (w:World):Prop:=
 a.defers=[]/\a.tmps.size=s.tmps.length/\ ∃ρ,gU w0 O X s.H ρ w/\
  ∀(t:Nat) x,s.tmps[t]?=some x-> ∃v:Value,a.tmps[t]?=some v/\x.rel ρ s.H (Xo X ρ s.H) w v
end Go.Proofs.YtpgghglbpcabkaaGreat
