/-
  Part 2 of a proof (walks and plain facts).
-/
import Derived.Test.YtalmoejhjceflaaGreatP00
import Derived.Laws.AppendOwn
import Derived.Maps.AppendAt
import Derived.Deep.OwnRows
import Derived.Orders
import Derived.ChangeKeysEq
import Derived.Laws.StructEq
set_option linter.all false
set_option maxRecDepth 100000
set_option maxHeartbeats 64000000
namespace Go.Proofs.YtalmoejhjceflaaGreat
open Go.RowKit Go.Proofs.Tryz
variable {n m:Nat} {b c:FF} {x:Int} {e f:Nat->Prop} {g:List (List Int)} {h:List Int} {j:Nat->Nat} {w W:World} {q:Value}
theorem kv (h l x y:Int) (j:0<=h) (r:h<18446744073709551616) (l0:0<=l) (l1:l<18446744073709551616) (p:0<=x) (t:x<18446744073709551616) (q:0<=y) (u:y<18446744073709551616)
  (s:h*18446744073709551616+l+x*y<340282366920938463463374607431768211456) (w:World):
  Calls prog 194 #[.agg #[.int .u64 h,.int .u64 l],.int .u64 x,.int .u64 y] w fun e f=>
   ∃b c:Int,e= .returned (.agg #[.int .u64 b,.int .u64 c])/\0<=b/\b<18446744073709551616/\0<=c/\c<18446744073709551616/\b*18446744073709551616+c=h*18446744073709551616+l+x*y/\Ext w f:=by
 obtain⟨h,rfl⟩:=Yg j;obtain⟨l,rfl⟩:=Yg l0;obtain⟨x,rfl⟩:=Yg p;obtain⟨y,rfl⟩:=Yg q;have key:=Dz (h*18446744073709551616+l) x y (by omega) (by omega) (by omega) w;have g:wd (h*18446744073709551616+l)= .agg #[.int .u64 (h:Int),.int .u64 (l:Int)]:=by
  grind [wd]
 rw[g]at key;refine key.mono fun e f ⟨m,o⟩=>?_
 have n:((h*18446744073709551616+l+x*y:Nat):Int)=(h:Int)*18446744073709551616+l+(x:Int)*y:=by simp
 refine⟨_,_,m,by omega,?_,by omega,by omega,?_,o⟩
 ·omega
 omega
theorem ot (h l b c:Int) (g:0<=h) (o:h<18446744073709551616) (l0:0<=l) (l1:l<18446744073709551616) (m:0<=b) (q:b<18446744073709551616) (n:0<=c) (r:c<18446744073709551616) (w:World):
  Calls prog 195 #[.agg #[.int .u64 h,.int .u64 l],.agg #[.int .u64 b,.int .u64 c]] w fun e j=>
   e= .returned (ic (h*18446744073709551616+l).toNat (b*18446744073709551616+c).toNat)/\Ext w j:=by
 obtain⟨h,rfl⟩:=Yg g;obtain⟨l,rfl⟩:=Yg l0;obtain⟨b,rfl⟩:=Yg m;obtain⟨c,rfl⟩:=Yg n;have key:=xr (h*18446744073709551616+l) (b*18446744073709551616+c) (by omega) (by omega) w;have f: ∀h l:Nat,l<18446744073709551616->wd (h*18446744073709551616+l)= .agg #[.int .u64 (h:Int),.int .u64 (l:Int)]:=fun h l p=>by
  unfold wd;grind
 rw[f h l (by omega),f b c (by omega)]at key;rw[show((h:Int)*18446744073709551616+l).toNat=h*18446744073709551616+l from by omega,show((b:Int)*18446744073709551616+c).toNat=b*18446744073709551616+c from by omega];exact key
def eZ (x y:List Int):Nat->Int
 |0=>0
 |l+1=>eZ x y l+x.getD l 0*y.getD l 0
def QB (h l:Int):Nat->Value:=fun j=>if j=0 then .int .u64 h else .int .u64 l
def BY (s:Int):Value:=if -4611686018427387904<=s/\s<=4611686018427387904 then .tuple #[.int .i64 s,.bool true]else .tuple #[.int .i64 0,.bool false]
theorem ko {a b:Int} (f:a<=1099511627776) (e:0<=a) (h:b<=2305843009213693952) (c:0<=b):0<=a*b/\a*b<=2535301200456458802993406410752:=
 ⟨Yj e c,by
  have g:a*b<=1099511627776*b:=Ys f c;omega⟩
theorem PN (A B:Option Addr) (c d:Nat) (x y:List Int) (w:World) (hx:RdI .i64 w A x) (hy:RdI .i64 w B y) (hl:x.length<=y.length) (hn:x.length<=65536) (hly:y.length<=9223372036854775807)
  (hbx: ∀(i:Nat) z,x[i]?=some z-> -1099511627776<=z/\z<=1099511627776) (hby: ∀(i:Nat) z,y[i]?=some z-> -2305843009213693952<=z/\z<=2305843009213693952):
  Calls prog 133 #[.slice A x.length c,.slice B y.length d] w fun e w'=>e= .returned (BY (eZ x y x.length))/\Ext w w':=by
 have HX:=XL hx;have HY:=XL hy;have HBX:=XL hbx;have HBY:=XL hby;clear hx hy hbx hby
 go_enter func133,ntmps133
 go_wp2_with fail
 go_loopw [17,8,9,10] (fun i _ _ _ wr=> ∃(k:Nat) (ph pl nh nl:Int),k<=x.length/\i= .int .i64 k/\0<=ph/\ph<18446744073709551616/\0<=pl/\pl<18446744073709551616/\0<=nh/\nh<18446744073709551616/\0<=nl/\nl<18446744073709551616/\
   Hid (wr.rowIs w.heap.size 232 2 (QB ph pl))/\Hid (wr.rowIs (w.heap.size+1) 232 2 (QB nh nl))/\Hid (Ext w wr)/\
   Hid (ph*18446744073709551616+pl-(nh*18446744073709551616+nl)=eZ x y k/\ph*18446744073709551616+pl+(nh*18446744073709551616+nl)<=k*2535301200456458802993406410752)) (fun i _ _ _ _=>x.length-(intOf i).toNat)
 case atStart=>
  refine⟨0,0,0,0,0,Yt _,rfl,by omega,by omega,by omega,by omega,by omega,by omega,by omega,by omega,XL ?_,XL ?_,XL (((Ext.refl _).alloc _).alloc _),XL ⟨rfl,by omega⟩⟩
  ·refine(World.rowIs.alloc (aa7 w _ _ (QB 0 0) ?_) _);intro i hi
   match i,hi with
   |0,_=>rfl
   |1,_=>rfl
  have:=aa7 (w.alloc (.cells #[.int .u64 0,.int .u64 0] 232)) #[.int .u64 0,.int .u64 0] 232 (QB 0 0) (by
   intro i hi
   match i,hi with
   |0,_=>rfl
   |1,_=>rfl)
  simp_all
 case round=>
  obtain⟨k,ph,pl,nh,nl,hk,rfl,p0,p1,p2,p3,n0,n1,n2,n3,HP,HN,HE,HQ⟩:=hrel;have t1:wr.cell? ⟨w.heap.size,0,none⟩=some (.int .u64 ph):=HP.out.cell (by omega);have t2:wr.cell? ⟨w.heap.size,1,none⟩=some (.int .u64 pl):=HP.out.cell (by omega);have t3:wr.cell? ⟨w.heap.size+1,0,none⟩=some (.int .u64 nh):=HN.out.cell (by omega);have t4:wr.cell? ⟨w.heap.size+1,1,none⟩=some (.int .u64 nl):=HN.out.cell (by omega);by_cases hlt:k<x.length
  ·obtain⟨a,ha⟩:=getElem?_of_lt hlt;obtain⟨b,off,rfl,hc⟩:=(HX.out.ext HE.out).at_ ha;obtain⟨a2,ha2⟩:=getElem?_of_lt (l:=y) (k:=k) (by omega);obtain⟨b2,off2,rfl,hc2⟩:=(HY.out.ext HE.out).at_ ha2;obtain⟨ax0,ax1⟩:=HBX.out k a ha;obtain⟨ay0,ay1⟩:=HBY.out k a2 ha2;have HS:Hid (eZ x y (k+1)=eZ x y k+a*a2):=XL (by grind [eZ]);clear ha ha2;have hky:(k:Int)<(y.length:Int):=by omega
   by_cases ga:0<=a
   ·by_cases gb:0<=a2
    ·have hp:=ko (a:=a) (b:=a2) (by omega) (by omega) (by omega) (by omega);have hq:=HQ.out;have hs:ph*18446744073709551616+pl+a*a2<340282366920938463463374607431768211456:=by omega
     have HM:=XL (kv ph pl (a) (a2) (by omega) (by omega) (by omega) (by omega) (by omega) (by omega) (by omega) (by omega) hs);clear hp hq hs
     go_wp2_with fail
     refine(HM.out _).mono ?_;rintro e w1 ⟨h',l',rfl,q0,q1,q2,q3,q4,he⟩;have HE1:=XL (HE.out.trans he);have HO1:=XL (cn HP.out he);have HO2:=XL (cn HN.out he);have HQ4:=XL q4;have s1:w1.cell? ⟨w.heap.size,0,none⟩=some (.int .u64 ph):=HO1.out.cell (by omega);have s2:w1.cell? ⟨w.heap.size,1,none⟩=some (.int .u64 pl):=HO1.out.cell (by omega);have s3:w1.frozen? ⟨w.heap.size,0,none⟩=false:=HO1.out.frozen 0;have s4:w1.frozen? ⟨w.heap.size,1,none⟩=false:=HO1.out.frozen 1;clear q4 he HP HN HE HM t1 t2 t3 t4 hc hc2
     go_wp2_with fail
     go_roundw
     case rel=>
      refine⟨k+1,h',l',nh,nl,by omega,by go_num,by omega,by omega,by omega,by omega,by omega,by omega,by omega,by omega,XL ?_,XL ?_,XL ((HE1.out.setCell (by simp) _).setCell (by simp) _),XL ⟨by rw[HS.out];have:=HQ.out.1;have:=HQ4.out;omega,by have:=HQ.out.2;have:=HQ4.out;have:=ko (a:=a) (b:=a2) (by omega) (by omega) (by omega) (by omega);omega⟩⟩
      ·exact((HO1.out.set 0 _).set 1 _).congr (fun j hj=>by match j,hj with|0,_=>rfl|1,_=>rfl)
      exact(HO2.out.setOther (by simp) _).setOther (by simp) _
     grind [intOf]
    have hp:=ko (a:=a) (b:= -a2) (by omega) (by omega) (by omega) (by omega);have hq:=HQ.out;have hs:nh*18446744073709551616+nl+a* -a2<340282366920938463463374607431768211456:=by omega
    have HM:=XL (kv nh nl (a) (-a2) (by omega) (by omega) (by omega) (by omega) (by omega) (by omega) (by omega) (by omega) hs);clear hp hq hs
    go_wp2_with fail
    refine(HM.out _).mono ?_;rintro e w1 ⟨h',l',rfl,q0,q1,q2,q3,q4,he⟩;have HE1:=XL (HE.out.trans he);have HO1:=XL (cn HN.out he);have HO2:=XL (cn HP.out he);have HQ4:=XL q4;have s1:w1.cell? ⟨w.heap.size+1,0,none⟩=some (.int .u64 nh):=HO1.out.cell (by omega);have s2:w1.cell? ⟨w.heap.size+1,1,none⟩=some (.int .u64 nl):=HO1.out.cell (by omega);have s3:w1.frozen? ⟨w.heap.size+1,0,none⟩=false:=HO1.out.frozen 0;have s4:w1.frozen? ⟨w.heap.size+1,1,none⟩=false:=HO1.out.frozen 1;clear q4 he HP HN HE HM t1 t2 t3 t4 hc hc2
    go_wp2_with fail
    go_roundw
    case rel=>
     refine⟨k+1,ph,pl,h',l',by omega,by go_num,by omega,by omega,by omega,by omega,by omega,by omega,by omega,by omega,XL ?_,XL ?_,XL ((HE1.out.setCell (by simp) _).setCell (by simp) _),XL ⟨by rw[HS.out];have:=HQ.out.1;have:=HQ4.out;grind,by have:=HQ.out.2;have:=HQ4.out;have:=ko (a:=a) (b:= -a2) (by omega) (by omega) (by omega) (by omega);omega⟩⟩
     ·exact(HO2.out.setOther (by simp) _).setOther (by simp) _
     exact((HO1.out.set 0 _).set 1 _).congr (fun j hj=>by match j,hj with|0,_=>rfl|1,_=>rfl)
    grind [intOf]
   by_cases gb:0<=a2
   ·have hp:=ko (a:= -a) (b:=a2) (by omega) (by omega) (by omega) (by omega);have hq:=HQ.out;have hs:nh*18446744073709551616+nl+ -a*a2<340282366920938463463374607431768211456:=by omega
    have HM:=XL (kv nh nl (-a) (a2) (by omega) (by omega) (by omega) (by omega) (by omega) (by omega) (by omega) (by omega) hs);clear hp hq hs
    go_wp2_with fail
    refine(HM.out _).mono ?_;rintro e w1 ⟨h',l',rfl,q0,q1,q2,q3,q4,he⟩;have HE1:=XL (HE.out.trans he);have HO1:=XL (cn HN.out he);have HO2:=XL (cn HP.out he);have HQ4:=XL q4;have s1:w1.cell? ⟨w.heap.size+1,0,none⟩=some (.int .u64 nh):=HO1.out.cell (by omega);have s2:w1.cell? ⟨w.heap.size+1,1,none⟩=some (.int .u64 nl):=HO1.out.cell (by omega);have s3:w1.frozen? ⟨w.heap.size+1,0,none⟩=false:=HO1.out.frozen 0;have s4:w1.frozen? ⟨w.heap.size+1,1,none⟩=false:=HO1.out.frozen 1;clear q4 he HP HN HE HM t1 t2 t3 t4 hc hc2
    go_wp2_with fail
    go_roundw
    case rel=>
     refine⟨k+1,ph,pl,h',l',by omega,by go_num,by omega,by omega,by omega,by omega,by omega,by omega,by omega,by omega,XL ?_,XL ?_,XL ((HE1.out.setCell (by simp) _).setCell (by simp) _),XL ⟨by rw[HS.out];have:=HQ.out.1;have:=HQ4.out;grind,by have:=HQ.out.2;have:=HQ4.out;have:=ko (a:= -a) (b:=a2) (by omega) (by omega) (by omega) (by omega);omega⟩⟩
     ·exact(HO2.out.setOther (by simp) _).setOther (by simp) _
     exact((HO1.out.set 0 _).set 1 _).congr (fun j hj=>by match j,hj with|0,_=>rfl|1,_=>rfl)
    grind [intOf]
   have hp:=ko (a:= -a) (b:= -a2) (by omega) (by omega) (by omega) (by omega);have hq:=HQ.out;have hs:ph*18446744073709551616+pl+ -a* -a2<340282366920938463463374607431768211456:=by omega
   have HM:=XL (kv ph pl (-a) (-a2) (by omega) (by omega) (by omega) (by omega) (by omega) (by omega) (by omega) (by omega) hs);clear hp hq hs
   go_wp2_with fail
   refine(HM.out _).mono ?_;rintro e w1 ⟨h',l',rfl,q0,q1,q2,q3,q4,he⟩;have HE1:=XL (HE.out.trans he);have HO1:=XL (cn HP.out he);have HO2:=XL (cn HN.out he);have HQ4:=XL q4;have s1:w1.cell? ⟨w.heap.size,0,none⟩=some (.int .u64 ph):=HO1.out.cell (by omega);have s2:w1.cell? ⟨w.heap.size,1,none⟩=some (.int .u64 pl):=HO1.out.cell (by omega);have s3:w1.frozen? ⟨w.heap.size,0,none⟩=false:=HO1.out.frozen 0;have s4:w1.frozen? ⟨w.heap.size,1,none⟩=false:=HO1.out.frozen 1;clear q4 he HP HN HE HM t1 t2 t3 t4 hc hc2
   go_wp2_with fail
   go_roundw
   case rel=>
    refine⟨k+1,h',l',nh,nl,by omega,by go_num,by omega,by omega,by omega,by omega,by omega,by omega,by omega,by omega,XL ?_,XL ?_,XL ((HE1.out.setCell (by simp) _).setCell (by simp) _),XL ⟨by rw[HS.out];have:=HQ.out.1;have:=HQ4.out;grind,by have:=HQ.out.2;have:=HQ4.out;have:=ko (a:= -a) (b:= -a2) (by omega) (by omega) (by omega) (by omega);omega⟩⟩
    ·exact((HO1.out.set 0 _).set 1 _).congr (fun j hj=>by match j,hj with|0,_=>rfl|1,_=>rfl)
    exact(HO2.out.setOther (by simp) _).setOther (by simp) _
   grind [intOf]
  have hkl:k=x.length:=by omega
  have HK:Hid (ph*18446744073709551616+pl-(nh*18446744073709551616+nl)=eZ x y x.length):=XL (by have:=HQ.out.1;grind);obtain⟨D,hD⟩: ∃D,D=eZ x y x.length:=⟨_,rfl⟩;have HM:=XL (ot ph pl nh nl p0 p1 p2 p3 n0 n1 n2 n3);have HM2:=XL (ot nh nl ph pl n0 n1 n2 n3 p0 p1 p2 p3);have hK:=HK.out;rw[<- hD]at hK;have HDD:=XL hD;by_cases g1:0<=D/\D<=4611686018427387904
  ·have e1:ic (ph*18446744073709551616+pl).toNat (nh*18446744073709551616+nl).toNat= .tuple #[.int .i64 D,.bool true]:=mo (by omega) (by omega);have HV:Hid (BY D= .tuple #[.int .i64 D,.bool true]):=XL (if_pos (by omega));rw[e1]at HM;clear hK hD e1 hkl HM2
   go_wp2_with fail
   refine(HM.out _).mono ?_;rintro e w1 ⟨rfl,he⟩;have HE1:=XL (HE.out.trans he);clear he
   go_wp2_with fail
   go_ret2
   exact⟨by rw[<- HDD.out,HV.out];rfl,HE1.out⟩
  have e1:ic (ph*18446744073709551616+pl).toNat (nh*18446744073709551616+nl).toNat= .tuple #[.int .i64 0,.bool false]:=ig (by omega);rw[e1]at HM;by_cases g2: -4611686018427387904<=D/\D<=0
  ·have e2:ic (nh*18446744073709551616+nl).toNat (ph*18446744073709551616+pl).toNat= .tuple #[.int .i64 (-D),.bool true]:=mo (by omega) (by omega);have HV:Hid (BY D= .tuple #[.int .i64 D,.bool true]):=XL (if_pos (by omega));have g3:=g2.1;have g4:=g2.2;rw[e2]at HM2;clear hK hD e1 e2 hkl
   go_wp2_with fail
   refine(HM.out _).mono ?_;rintro e w1 ⟨rfl,he⟩;have HE1:=XL (HE.out.trans he);have s1:w1.cell? ⟨w.heap.size,0,none⟩=some (.int .u64 ph):=he.cell t1;have s2:w1.cell? ⟨w.heap.size,1,none⟩=some (.int .u64 pl):=he.cell t2;have s3:w1.cell? ⟨w.heap.size+1,0,none⟩=some (.int .u64 nh):=he.cell t3;have s4:w1.cell? ⟨w.heap.size+1,1,none⟩=some (.int .u64 nl):=he.cell t4;clear he t1 t2 t3 t4
   go_wp2_with fail
   refine(HM2.out _).mono ?_;rintro e w2 ⟨rfl,he⟩;have HE2:=XL (HE1.out.trans he);clear he s1 s2 s3 s4
   go_wp2_with fail
   go_ret2
   refine⟨?_,HE2.out⟩;rw[<- HDD.out,HV.out]
   simp
  have e2:ic (nh*18446744073709551616+nl).toNat (ph*18446744073709551616+pl).toNat= .tuple #[.int .i64 0,.bool false]:=ig (by omega);have HV:Hid (BY D= .tuple #[.int .i64 0,.bool false]):=XL (if_neg (by omega));rw[e2]at HM2;clear hK hD e1 e2 hkl g1 g2
  go_wp2_with fail
  refine(HM.out _).mono ?_;rintro e w1 ⟨rfl,he⟩;have HE1:=XL (HE.out.trans he);have s1:w1.cell? ⟨w.heap.size,0,none⟩=some (.int .u64 ph):=he.cell t1;have s2:w1.cell? ⟨w.heap.size,1,none⟩=some (.int .u64 pl):=he.cell t2;have s3:w1.cell? ⟨w.heap.size+1,0,none⟩=some (.int .u64 nh):=he.cell t3;have s4:w1.cell? ⟨w.heap.size+1,1,none⟩=some (.int .u64 nl):=he.cell t4;clear he t1 t2 t3 t4
  go_wp2_with fail
  refine(HM2.out _).mono ?_;rintro e w2 ⟨rfl,he⟩;have HE2:=XL (HE1.out.trans he);clear he s1 s2 s3 s4
  go_wp2_with fail
  go_ret2
  refine⟨?_,HE2.out⟩;rw[<- HDD.out,HV.out];rfl
theorem Tryz.inI64:(prog.info? 2).map (fun i=>(i.zero,i.size,i.bytes))=some (some (.int .i64 0),1,8):=by kernel_rfl
theorem Ej (A:Option Addr) (c:Nat) (x:List Int) (w:World) (hx:RdI .i64 w A x) (hl:x.length*8<=140737488355328):
  Calls prog 142 #[.slice A x.length c] w fun e w'=> ∃v,e= .returned v/\w'.ownsRow w.heap.size 2 1 v x.length (x.map (Value.int .i64))/\Ext w w':=by
 have hnil:=fun(w:World) (n c:Nat)=>abo (P:=prog) w 35 2 A n c 0 0 underlying35
 cases A with
 |none=>
  have hx0:x=[]:=by
   cases x with
   |nil=>rfl
   |cons a l=>obtain⟨_,_,h,_⟩:=hx (by simp);cases h
  subst hx0
  go_enter func142,ntmps142
  go_wp2_with fail
  go_ret
  exact⟨_,rfl,aah _ _ _ _,Ext.refl _⟩
 |some a=>
  go_enter func142,ntmps142
  go_wp2_with (at_builtin;refine iA _ rfl (.tmp 5) (.tmp 6) _ rfl w.heap.size 2 (.int .i64 0) 1 8 underlying35 Tryz.inI64 rfl (by omega) _ 0 [] rfl (aax w #[] 0 (XY _) (Yt _) rfl) (some a) x.length c _ rfl (Rd.ext hx ((Ext.refl _).alloc _)) (by simp) p9 (by simp only[maxLen];omega) (by omega) (by simp) ?_;intro v1 w1 hown1 hg1 _)
  go_ret
  exact⟨_,rfl,by simpa using hown1,x7 hg1 (aax w #[] 0 (XY _) (Yt _) rfl:World.ownsRow _ w.heap.size 2 1 _ 0 []) ((Ext.refl w).alloc _) (XY _)⟩
def sB (x:List Int):Int:=match x.findIdx? (fun c=>c !=0)with|some i=>i|none=> -1
theorem Mb {k:Nat} {a:Int} (b: ∀j c,j<k->h[j]?=some c->c=0) (f:h[k]?=some a) (e:(a !=0)=true):sB h=k:=by
 unfold sB;have:h.findIdx? (fun c=>c !=0)=some k:=by
  grind [List.findIdx?_eq_some_iff_getElem]
 rw[this]
theorem EM {k:Nat} (b: ∀j c,j<k->h[j]?=some c->c=0) (g:h.length<=k):sB h= -1:=by
 unfold sB;have:h.findIdx? (fun c=>c !=0)=none:=by
  rw[List.findIdx?_eq_none_iff];intro c e;obtain⟨j,f,rfl⟩:=YZ e;simp[b j _ (by omega) (X0 f)]
 rw[this]
theorem lC (b:DD h=true) {k:Nat} (e:h[k]?=some x): -1099511627776<=x/\x<=1099511627776:=by
 unfold DD at b;rw[XO]at b;have:=b x (XH e);grind
theorem uN (a:Int) (w:World):
  Calls prog 197 #[.int .i64 a] w fun e w'=>e= .returned (.bool (a !=0))/\w=w':=by
 go_enter func197,ntmps197
 go_wp2_with fail
 go_ret
 simp
theorem oh (A:Option Addr) (c:Nat) (x:List Int) (w:World) (hx:RdI .i64 w A x) (lx:x.length<=9223372036854775807):
  Calls prog 196 #[.slice A x.length c,.func (Fn.func 197) #[] #[]] w fun e w'=>e= .returned (.int .i64 (sB x))/\w=w':=by
 have HX:=XL hx;clear hx
 go_enter func196,ntmps196
 go_wp2_with fail
 go_loop [8,5] (fun i _=> ∃k:Nat,k<=x.length/\i= .int .i64 k/\Hid (∀j c,j<k->x[j]?=some c->c=0)) (fun i _=>x.length-(intOf i).toNat)
 case atStart=>grind [Lib.hid]
 case round=>
  obtain⟨k,hk,rfl,HR⟩:=hrel;by_cases hlt:k<x.length
  ·obtain⟨a,ha⟩:=getElem?_of_lt hlt;obtain⟨b,off,rfl,hc⟩:=HX.out.at_ ha;have HA:=XL ha;clear ha;by_cases h0:(a !=0)=true
   ·go_wp2_with (go_at_call 197;refine(uN _ _).mono ?_;rintro e w' ⟨rfl,rfl⟩)
    go_ret
    exact⟨fX (Mb HR.out HA.out h0).symm,rfl⟩
   have h0':(a !=0)=false:=by grind
   have H0:=XL h0';clear h0
   go_wp2_with (go_at_call 197;refine(uN _ _).mono ?_;rintro e w' ⟨rfl,rfl⟩)
   go_round
   case rel=>exact⟨k+1,by omega,by go_num,XL (yZ (P:=fun c=>c=0) HR.out HA.out (by grind))⟩
   grind [intOf]
  go_wp2_with fail
  go_ret
  exact⟨fX (EM HR.out (by omega)).symm,rfl⟩
def ip (x:List Int):Option (List Int):=
 if DD x then(match x.find? (fun c=>c !=0)with
  |none=>none
  |some c=>some (if c<0 then x.map (fun a=> -a)else x))else none
theorem Cm (x:List Int):(sB x= -1/\x.find? (fun c=>c !=0)=none)\/ ∃(k:Nat) (a:Int),sB x=k/\k<x.length/\x[k]?=some a/\x.find? (fun c=>c !=0)=some a:=by
 unfold sB;cases h:x.findIdx? (fun c=>c !=0)with
 |none=>
  grind
 |some k=>
  right;rw[List.findIdx?_eq_some_iff_getElem]at h;obtain⟨b,e,f⟩:=h;refine⟨k,x[k],rfl,b,X0 b,?_⟩;grind [List.find?_eq_some_iff_getElem]
def MP (x:List Int) (k:Nat) (f:Nat->Value):Nat->Value:=fun j=>if j<k then .int .i64 (-(x.getD j 0))else f j
def Lv (f b:World) (r:Option (List Int)) (e:Ending):Prop:=match r with
 |none=>e= .returned (.tuple #[.slice none 0 0,.bool false])
 |some z=> ∃A c,e= .returned (.tuple #[.slice A z.length c,.bool true])/\z.length<=c/\RdI .i64 b A z/\ ∀p,A=some p->f.heap.size<=p.block/\p.block<b.heap.size
theorem j7 (A:Option Addr) (c:Nat) (x:List Int) (w:World) (hx:RdI .i64 w A x) (hl:x.length*8<=140737488355328):
  Calls prog 135 #[.slice A x.length c] w fun e w'=>Lv w w' (ip x) e/\Ext w w':=by
 have HX:=XL hx;cases hI:DD x with
 |false=>
  have HF:Hid (ip x=none):=XL (by simp[ip,hI])
  go_enter func135,ntmps135
  go_wp2_with (go_at_call 163;refine(kf A c x _ hx (by omega)).mono ?_;rintro e w' ⟨rfl,rfl⟩)
  go_ret2
  exact⟨by rw[HF.out];rfl,Ext.refl _⟩
 |true=>
  have HIB:=XL hI;rcases Cm x with⟨h1,h2⟩|⟨k,a,h1,hk,ha,h2⟩
  ·have HF:Hid (ip x=none):=XL (by grind [ip]);have HC:=XL (oh A c x w hx (by omega));rw[h1]at HC;clear h1 h2
   go_enter func135,ntmps135
   go_wp2_with (go_at_call 163;refine(kf A c x _ hx (by omega)).mono ?_;rintro e w' ⟨rfl,rfl⟩)
   refine HC.out.mono ?_;rintro e w' ⟨rfl,rfl⟩
   go_wp2_with fail
   go_ret2
   exact⟨by rw[HF.out];rfl,Ext.refl _⟩
  have HC:=XL (oh A c x w hx (by omega));rw[h1]at HC;have HF:Hid (ip x=some (if a<0 then x.map (fun a=> -a)else x)):=XL (by grind [ip]);obtain⟨b,off,rfl,hc⟩:=hx.at_ ha;clear h1 h2 ha
  go_enter func135,ntmps135
  go_wp2_with (go_at_call 163;refine(kf _ c x _ hx (by omega)).mono ?_;rintro e w' ⟨rfl,rfl⟩)
  refine HC.out.mono ?_;rintro e w' ⟨rfl,rfl⟩
  go_wp2_with fail
  refine(Ej _ c x _ hx hl).mono ?_;rintro e w1 ⟨v,rfl,hown,he⟩;have hc1:=he.cell hc;obtain⟨g,cap,f,rfl,hcap,hg,hrow,hf⟩:=JB hown (by omega);have HE:=XL he;have HROW:=XL hrow;have HFF:=XL hf;clear hown he hrow hf hx;by_cases h0:a<0
  ·go_wp2_with fail
   go_loopw [24,6,7] (fun i _ _ wr=> ∃l:Nat,l<=x.length/\i= .int .i64 l/\Hid (wr.rowIs g 2 cap (MP x l f))/\Hid (Ext w wr)) (fun i _ _ _=>x.length-(intOf i).toNat)
   case atStart=>exact⟨0,Yt _,rfl,XL (HROW.out.congr (fun j _=>by simp[MP])),HE⟩
   case round=>
    clear hc1 HROW HE;obtain⟨l,hl',rfl,HROW,HE⟩:=hrel;by_cases hlt:l<x.length
    ·obtain⟨a2,ha2⟩:=getElem?_of_lt hlt;obtain⟨b2,off2,hbb,hc2⟩:=(HX.out.ext HE.out).at_ ha2;cases hbb;have hB:=lC HIB.out ha2;have t1:wr.cell? ⟨g,l,none⟩=some (f l):=by rw[HROW.out.cell (by omega)];simp[MP]
     have t2:wr.frozen? ⟨g,l,none⟩=false:=HROW.out.frozen l;have hlc:(l:Int)<(cap:Int):=by omega
     have HA2:Hid (x.getD l 0=a2):=XL (by grind);clear ha2;have hB1:=hB.1;have hB2:=hB.2
     go_wp2_with fail
     go_roundw
     case rel=>
      refine⟨l+1,by omega,by go_num,XL ((HROW.out.set l _).congr (fun j _=>?_)),XL (HE.out.setCell hg _)⟩;unfold MP;by_cases e:j=l
      ·subst e;rw[if_pos rfl,if_pos (by omega),HA2.out]
      grind
     grind [intOf]
    go_wp2_with fail
    go_ret2
    refine⟨?_,HE.out⟩;rw[HF.out,if_pos h0];refine⟨some ⟨g,0,none⟩,cap,by simp,by grind,RdI.of_row HROW.out (by grind) (fun i z hz=>?_),(by rintro p ⟨⟩;exact⟨hg,HROW.out.lt⟩)⟩;grind [MP]
  go_wp2_with fail
  go_ret2
  refine⟨?_,HE.out⟩;rw[HF.out,if_neg (by omega)];exact⟨some ⟨g,0,none⟩,cap,rfl,hcap,RdI.of_row HROW.out hcap (fun i z hz=>HFF.out i _ (by simp[hz])),(by rintro p ⟨⟩;exact⟨hg,HROW.out.lt⟩)⟩
theorem l7 {a b A B:Int} (j: -A<=a/\a<=A) (l: -B<=b/\b<=B) (h:0<=B) (g:0<=A): -(A*B)<=a*b/\a*b<=A*B:=by
 have c:a.natAbs<=A.toNat:=by omega
 have e:b.natAbs<=B.toNat:=by omega
 have f:(a*b).natAbs<=A.toNat*B.toNat:=by simp_all[Y1,Yn]
 grind
theorem GN (c:0<=x) (b: ∀(i:Nat) z,h[i]?=some z-> -x<=z/\z<=x) (j:Nat): -x<=h.getD j 0/\h.getD j 0<=x:=by
 grind
theorem oz {b x:List Int} (c: ∀(i:Nat) z,b[i]?=some z-> -262144<=z/\z<=262144) (e: ∀(i:Nat) z,x[i]?=some z-> -1099511627776<=z/\z<=1099511627776):
  ∀l:Nat,l<=8->px b x l=eZ b x l/\ -(l*288230376151711744)<=eZ b x l/\eZ b x l<=l*288230376151711744
 |0,_=>⟨rfl,by simp[eZ],by simp[eZ]⟩
 |l+1,j=>by
  obtain⟨f,g,h⟩:=oz c e l (by omega);have m:=l7 (GN (by omega) c l) (GN (by omega) e l) (by omega) (by omega);grind [IntWalk.wrap64_in,eZ,px]
theorem i6.row_len (b:i6 g) {i:Nat} (c:g[i]?=some h):h.length=g.length:=(show Sq g from b.2.2.1).at_ c
theorem i6.row_bd (b:i6 g) {i:Nat} (e:g[i]?=some h): ∀(j:Nat) z,h[j]?=some z-> -262144<=z/\z<=262144:=by
 intro j z l;have f:=(XN.1 e).1;have c:=(XN.1 l).1;rw[b.row_len e]at c;have:=b.2.2.2 i f j c;grind [ky,oM]
theorem It (b:i6 g) (l:DD h=true): ∀(i:Nat) z,(fc g h)[i]?=some z-> -2305843009213693952<=z/\z<=2305843009213693952:=by
 intro i z c;obtain⟨f,j,rfl⟩:=xN c;have p:=b.row_len j;have o:=b.2.1;obtain⟨e,m,n⟩:=oz (b.row_bd j) (fun i z c=>lC l c) f.length (by omega);omega
theorem pj:wY n h=true↔h.length=n/\DD h=true:=by
 grind [wY]
theorem ir (h:isReducedM g=true):i6 g:=by
 grind [isReducedM]
theorem w8 (b:List (List Int)) (x:List Int):(fc b x).length=b.length:=by simp[fc]
def Gc (R:FF) (n t:Nat):Prop:= ∀i,i<n->t<i-> -(dk R (t+1))<=2*bk R t i t/\2*bk R t i t<=dk R (t+1)
def KI (R:FF) (t:Nat):Prop:=3*dk R (t+1)*dk R (t+1)<=4*(dk R t*dk R (t+1+1)+bk R t (t+1) t*bk R t (t+1) t)
def O8 (R:FF) (n t:Nat):Prop:=0<dk R (t+1)/\dk R (t+1)<65536/\Gc R n t
def RedR (R:FF) (n:Nat):Prop:=
 (∀i,i<n-> ∀j,j<n->R i j=R j i)/\(∀k,k<n->0<dk R (k+1))/\dk R n<=10000/\(∀t,t+1<n->Gc R n t/\KI R t)
theorem i7 {R:FF} {n:Nat} (l: ∀i,i<n-> ∀j,j<n->R i j=R j i): ∀k,k<=n->(∀t,t<k->dk R (t+1)≠0)-> ∀i j,i<n->j<n->bk R k i j=bk R k j i
 |0,_,_,i,j,c,e=>by grind [cK]
 |k+1,s,b,i,j,c,e=>by
  have f:=i7 l k (by omega) (fun t g=>b t (by omega));have q:=sylv R k (fun t g=>b t (by omega)) i j;have r:=sylv R k (fun t g=>b t (by omega)) j i;have m:=f i j c e;have o:=f i k c (by omega);have p:=f k j (by omega) e;have h:dk R k≠0:=by
   cases k with
   |zero=>rw[co];omega
   |succ k=>grind
  grind [Int.eq_of_mul_eq_mul_left]
theorem gR {k:Nat} (h: ∀t,t<k->0<dk b (t+1)):0<dk b k:=by
 cases k with
 |zero=>rw[co];omega
 |succ k=>grind
theorem Rh {C E c a b y:Int} (v:0<=C) (w:0<x) (z:0<E) (q:E<65536) (h:x*y=E*c-a*b) (j: -(C*x)<=c/\c<=C*x) (t: -E<=2*a/\2*a<=E) (u: -E<=2*b/\2*b<=E):
  -((C+16384)*E)<=y/\y<=(C+16384)*E:=by
 have f:=l7 t u (by omega) (by omega);have l:2*a*(2*b)=4*(a*b):=by grind
 rw[l]at f;have s:E*E<=65536*E:=Ys (by omega) (by omega);have r:E*1<=E*x:=X5 (by omega) (by omega);have o:E*c<=E*(C*x):=X5 j.2 (by omega);have p:E*(-(C*x))<=E*c:=X5 j.1 (by omega);have m:E*(-(C*x))= -(C*(E*x)):=by grind
 have n:E*(C*x)=C*(E*x):=by grind
 rw[n]at o;rw[m]at p;constructor
 ·rcases ZX y (-((C+16384)*E))with g|e
  ·exfalso;have:=X5 (show y<= -((C+16384)*E)-1 by omega) (show 0<=x by omega);grind
  exact e
 rcases ZX ((C+16384)*E) y with g|e
 ·exfalso;have:=X5 (show(C+16384)*E+1<=y by omega) (show 0<=x by omega);grind
 exact e
theorem BK {R:FF} {n:Nat} (m: ∀i,i<n-> ∀j,j<n->R i j=R j i) (s: ∀i,i<n-> ∀j,j<n-> -262144<=R i j/\R i j<=262144):
  ∀k,(∀t,t<k->O8 R n t)-> ∀i j,k<=i->i<n->k<=j->j<n-> -((262144+k*16384)*dk R k)<=bk R k i j/\bk R k i j<=(262144+k*16384)*dk R k
 |0,_,i,j,_,h,_,e=>by
  grind [cK,co]
 |k+1,f,i,j,u,h,v,e=>by
  have w:=BK m s k (fun t o=>f t (by omega)) i j (by omega) h (by omega) e;obtain⟨r,g,c⟩:=f k (by omega);have b: ∀t,t<k->dk R (t+1)≠0:=fun t o=>by have:=(f t (by omega)).1;omega
  have q:0<dk R k:=gR (fun t o=>(f t (by omega)).1);have p:=c i h (by omega);have l:=c j e (by omega);rw[i7 m k (by omega) b j k e (by omega)]at l;have:=Rh (C:=262144+k*16384) (by omega) q r g (sylv R k b i j) w p l;grind
def Wg (R:FF) (n k:Nat) (b:List (List Int)):Prop:=b.length=n-k/\ ∀i j,i<n-k->j<n-k->ent b i j=bk R k (k+i) (k+j)
theorem j6 (u:n<=8) (q: ∀i,i<n-> ∀j,j<n->b i j=b j i) (l: ∀i,i<n-> ∀j,j<n-> -262144<=b i j/\b i j<=262144) {k:Nat} (p:k<n) (c: ∀t,t<k->O8 b n t) {i j:Nat} (e:k<=i) (m:i<n) (f:k<=j) (o:j<n): -34359738368<=bk b k i j/\bk b k i j<=34359738368:=by
 have h:=BK q l k c i j e m f o;have s:0<dk b k:=gR (fun t v=>(c t (by omega)).1);have g:dk b k<65536:=by
  cases k with
  |zero=>rw[co];omega
  |succ k=>exact(c k (by omega)).2.1
 have r:((262144:Int)+k*16384)*dk b k<=524288*65536:=YG (by omega) (by omega) (by omega) (by omega);omega
theorem Ju (r:n<=8) (s: ∀i,i<n-> ∀m,m<n->b i m=b m i) (p: ∀i,i<n-> ∀m,m<n-> -262144<=b i m/\b i m<=262144) {k:Nat} (C:k+1<n) (q: ∀t,t<k+1->O8 b n t) (e:Wg b n k g) {i:Nat} (I:i<n-(k+1)) (J:m<n-(k+1)):
  Qp g (dk b k) i m=bk b (k+1) (k+1+i) (k+1+m):=by
 have c: ∀t,t<k->O8 b n t:=fun t x=>q t (by omega)
 have u: ∀t,t<k->dk b (t+1)≠0:=fun t x=>by have:=(q t (by omega)).1;omega
 have G:0<dk b k:=gR (fun t x=>(c t x).1);obtain⟨H,B,w⟩:=q k (by omega);have f:=e.2 0 0 (by omega) (by omega);have o:=e.2 (i+1) (m+1) (by omega) (by omega);have l:=e.2 (i+1) 0 (by omega) (by omega);have h:=e.2 0 (m+1) (by omega) (by omega);simp only[YA]at f l h;rw[<- b7]at f;rw[show k+(i+1)=k+1+i by omega]at o l;rw[show k+(m+1)=k+1+m by omega]at o h;have y:=j6 r s p (by omega) c (i:=k+1+i) (j:=k+1+m) (by omega) (by omega) (by omega) (by omega);have E:=j6 r s p (by omega) c (i:=k+1+i) (j:=k) (by omega) (by omega) (by omega) (by omega);have z:=j6 r s p (by omega) c (i:=k) (j:=k+1+m) (by omega) (by omega) (by omega) (by omega);have F:=j6 r s p (by omega) q (i:=k+1+i) (j:=k+1+m) (by omega) (by omega) (by omega) (by omega);have D:=w (k+1+i) (by omega) (by omega);have K:=l7 (a:=dk b (k+1)) (A:=65536) ⟨by omega,by omega⟩ y (by omega) (by omega);have L:=l7 (a:=bk b k (k+1+i) k) (A:=65536) ⟨by omega,by omega⟩ z (by omega) (by omega);have v:=sylv b k u (k+1+i) (k+1+m);unfold Qp;rw[f,o,l,h];rw[ZY (dk b (k+1)*bk b k (k+1+i) (k+1+m)) ⟨by omega,by omega⟩,ZY (bk b k (k+1+i) k*bk b k k (k+1+m)) ⟨by omega,by omega⟩];rw[ZY (dk b (k+1)*bk b k (k+1+i) (k+1+m)-bk b k (k+1+i) k*bk b k k (k+1+m)) ⟨by omega,by omega⟩];rw[<- v,aas _ (by omega),ZY _ ⟨by omega,by omega⟩]
theorem we {R:FF} {n:Nat} (q:n<=8) (r: ∀i,i<n-> ∀j,j<n->R i j=R j i) (p: ∀i,i<n-> ∀j,j<n-> -262144<=R i j/\R i j<=262144):
  ∀f k c,k<n->n<=f+k->(∀t,t<k->O8 R n t)->Wg R n k c->
   (qi f c (dk R k)=true↔(∀t,k<=t->t+1<n->O8 R n t/\KI R t)/\0<dk R n/\dk R n<=10000)
 |0,k,c,O,L,_,_=>by omega
 |f+1,k,c,O,L,o,g=>by
  have m:=g.2 0 0 (by omega) (by omega);simp only[YA]at m;rw[<- b7]at m;by_cases P:n=k+1
  ·subst P;rw[qi,if_pos (by rw[g.1];omega),m];grind
  rw[qi,if_neg (by rw[g.1];omega)];have v:lD c↔O8 R n k:=by
   unfold lD O8 Gc ox;rw[m,g.1];refine and_congr Iff.rfl (and_congr Iff.rfl ⟨fun h i u N=>?_,fun h i u M=>?_⟩)
   ·have H:=h (i-k) (by omega) (by omega);have e:=g.2 (i-k) 0 (by omega) (by omega);rw[show k+(i-k)=i by omega,YA]at e;have G:=j6 q r p (by omega) o (i:=i) (j:=k) (by omega) (by omega) (by omega) (by omega);grind [IntWalk.wrap64_in]
   have H:=h (k+i) (by omega) (by omega);have e:=g.2 i 0 (by omega) (by omega);rw[YA]at e;have G:=j6 q r p (by omega) o (i:=k+i) (j:=k) (by omega) (by omega) (by omega) (by omega);grind [IntWalk.wrap64_in]
  by_cases K:lD c
  ·rw[if_pos K];have l: ∀t,t<k+1->O8 R n t:=fun t F=>by
    grind
   obtain⟨T,J,z⟩:=l k (by omega);have S:0<dk R k:=gR (fun t F=>(o t F).1);have I:dk R k<65536:=by
    cases k with
    |zero=>rw[co];omega
    |succ k=>exact(o k (by omega)).2.1
   have y: ∀i j,i<n-(k+1)->j<n-(k+1)->Qp c (dk R k) i j=bk R (k+1) (k+1+i) (k+1+j):=fun i j u D=>Ju q r p (by omega) l g u D
   have s:Wg R n (k+1) (Qq c (dk R k)):=by
    unfold Qq;rw[g.1];refine⟨by rw[oq];omega,fun i j u D=>?_⟩;grind [ent,EF]
   have E:DM c (dk R k)↔ ¬KI R k:=by
    unfold DM KI;have w:ent c 1 0=bk R k (k+1) k:=g.2 1 0 (by omega) (by omega);have x:=y 0 0 (by omega) (by omega);simp only[YA]at x;rw[<- b7]at x;rw[x,w,m];have C:=j6 q r p (by omega) l (i:=k+1) (j:=k+1) (by omega) (by omega) (by omega) (by omega);rw[<- b7]at C;have Q:=z (k+1) (by omega) (by omega);have V:=l7 (a:=dk R k) (A:=65536) ⟨by omega,by omega⟩ C (by omega) (by omega);have W:=l7 (a:=bk R k (k+1) k) (b:=bk R k (k+1) k) (A:=65536) (B:=65536) ⟨by omega,by omega⟩ ⟨by omega,by omega⟩ (by omega) (by omega);have X:=l7 (a:=3*dk R (k+1)) (b:=dk R (k+1)) (A:=196608) (B:=65536) ⟨by omega,by omega⟩ ⟨by omega,by omega⟩ (by omega) (by omega);grind [IntWalk.wrap64_in]
   by_cases U:KI R k
   ·rw[if_neg (by grind),m,we q r p f (k+1) _ (by omega) (by omega) l s];grind
   grind
  grind
def FA:Nat->Nat
 |0=>0
 |k+1=>FA k+(k+1)
theorem dV {a C:Nat} (h:n^a<=C) (f:C<(m+1)^a):n<=m:=by
 rcases aad m n with e|c
 ·have:=X6 (show m+1<=n by omega) a;omega
 exact c
theorem Tk (h: ∀k,1<=k->k<2->j k^(k+1)<=2^FA k*j (k+1)^k) (b:j 2<=10000): ∀k,1<=k->k<=2->j k<65536:=by
 have c:j 1<=141:=dV (a:=2) (XQ (h 1 (by omega) (by omega)) (XU _ (X6 b 1))) (by decide+kernel);grind
theorem Tl (h: ∀k,1<=k->k<3->j k^(k+1)<=2^FA k*j (k+1)^k) (g:j 3<=10000): ∀k,1<=k->k<=3->j k<65536:=by
 have f:j 2<=928:=dV (a:=3) (XQ (h 2 (by omega) (by omega)) (XU _ (X6 g 2))) (by decide+kernel);have l:j 1<=43:=dV (a:=2) (XQ (h 1 (by omega) (by omega)) (XU _ (X6 f 1))) (by decide+kernel);intro k c b
 match k,c,b with
 |1,_,_=>omega
 |2,_,_=>omega
 |3,_,_=>omega
 |k+4,_,b=>omega
theorem Tm (h: ∀k,1<=k->k<4->j k^(k+1)<=2^FA k*j (k+1)^k) (l:j 4<=10000): ∀k,1<=k->k<=4->j k<65536:=by
 have g:j 3<=2828:=dV (a:=4) (XQ (h 3 (by omega) (by omega)) (XU _ (X6 l 3))) (by decide+kernel);have f:j 2<=399:=dV (a:=3) (XQ (h 2 (by omega) (by omega)) (XU _ (X6 g 2))) (by decide+kernel);have m:j 1<=28:=dV (a:=2) (XQ (h 1 (by omega) (by omega)) (XU _ (X6 f 1))) (by decide+kernel);intro k c b
 match k,c,b with
 |1,_,_=>omega
 |2,_,_=>omega
 |3,_,_=>omega
 |4,_,_=>omega
 |k+5,_,b=>omega
theorem Tn (h: ∀k,1<=k->k<5->j k^(k+1)<=2^FA k*j (k+1)^k) (m:j 5<=10000): ∀k,1<=k->k<=5->j k<65536:=by
 have l:j 4<=6339:=dV (a:=5) (XQ (h 4 (by omega) (by omega)) (XU _ (X6 m 4))) (by decide+kernel);have g:j 3<=2009:=dV (a:=4) (XQ (h 3 (by omega) (by omega)) (XU _ (X6 l 3))) (by decide+kernel);have f:j 2<=318:=dV (a:=3) (XQ (h 2 (by omega) (by omega)) (XU _ (X6 g 2))) (by decide+kernel);have n:j 1<=25:=dV (a:=2) (XQ (h 1 (by omega) (by omega)) (XU _ (X6 f 1))) (by decide+kernel);intro k c b
 match k,c,b with
 |1,_,_=>omega
 |2,_,_=>omega
 |3,_,_=>omega
 |4,_,_=>omega
 |5,_,_=>omega
 |k+6,_,b=>omega
theorem To (h: ∀k,1<=k->k<6->j k^(k+1)<=2^FA k*j (k+1)^k) (n:j 6<=10000): ∀k,1<=k->k<=6->j k<65536:=by
 have m:j 5<=12187:=dV (a:=6) (XQ (h 5 (by omega) (by omega)) (XU _ (X6 n 5))) (by decide+kernel);have l:j 4<=7426:=dV (a:=5) (XQ (h 4 (by omega) (by omega)) (XU _ (X6 m 4))) (by decide+kernel);have g:j 3<=2262:=dV (a:=4) (XQ (h 3 (by omega) (by omega)) (XU _ (X6 l 3))) (by decide+kernel);have f:j 2<=344:=dV (a:=3) (XQ (h 2 (by omega) (by omega)) (XU _ (X6 g 2))) (by decide+kernel);have o:j 1<=26:=dV (a:=2) (XQ (h 1 (by omega) (by omega)) (XU _ (X6 f 1))) (by decide+kernel);intro k c b
 match k,c,b with
 |1,_,_=>omega
 |2,_,_=>omega
 |3,_,_=>omega
 |4,_,_=>omega
 |5,_,_=>omega
 |6,_,_=>omega
 |k+7,_,b=>omega
theorem Tp (h: ∀k,1<=k->k<7->j k^(k+1)<=2^FA k*j (k+1)^k) (o:j 7<=10000): ∀k,1<=k->k<=7->j k<65536:=by
 have n:j 6<=21461:=dV (a:=7) (XQ (h 6 (by omega) (by omega)) (XU _ (X6 o 6))) (by decide+kernel);have m:j 5<=23029:=dV (a:=6) (XQ (h 5 (by omega) (by omega)) (XU _ (X6 n 5))) (by decide+kernel);have l:j 4<=12356:=dV (a:=5) (XQ (h 4 (by omega) (by omega)) (XU _ (X6 m 4))) (by decide+kernel);have g:j 3<=3314:=dV (a:=4) (XQ (h 3 (by omega) (by omega)) (XU _ (X6 l 3))) (by decide+kernel);have f:j 2<=444:=dV (a:=3) (XQ (h 2 (by omega) (by omega)) (XU _ (X6 g 2))) (by decide+kernel);have p:j 1<=29:=dV (a:=2) (XQ (h 1 (by omega) (by omega)) (XU _ (X6 f 1))) (by decide+kernel);intro k c b
 match k,c,b with
 |1,_,_=>omega
 |2,_,_=>omega
 |3,_,_=>omega
 |4,_,_=>omega
 |5,_,_=>omega
 |6,_,_=>omega
 |7,_,_=>omega
 |k+8,_,b=>omega
theorem Tq (h: ∀k,1<=k->k<8->j k^(k+1)<=2^FA k*j (k+1)^k) (p:j 8<=10000): ∀k,1<=k->k<=8->j k<65536:=by
 have o:j 7<=35777:=dV (a:=8) (XQ (h 7 (by omega) (by omega)) (XU _ (X6 p 7))) (by decide+kernel);have n:j 6<=63999:=dV (a:=7) (XQ (h 6 (by omega) (by omega)) (XU _ (X6 o 6))) (by decide+kernel);have m:j 5<=57242:=dV (a:=6) (XQ (h 5 (by omega) (by omega)) (XU _ (X6 n 5))) (by decide+kernel);have l:j 4<=25599:=dV (a:=5) (XQ (h 4 (by omega) (by omega)) (XU _ (X6 m 4))) (by decide+kernel);have g:j 3<=5724:=dV (a:=4) (XQ (h 3 (by omega) (by omega)) (XU _ (X6 l 3))) (by decide+kernel);have f:j 2<=639:=dV (a:=3) (XQ (h 2 (by omega) (by omega)) (XU _ (X6 g 2))) (by decide+kernel);have q:j 1<=35:=dV (a:=2) (XQ (h 1 (by omega) (by omega)) (XU _ (X6 f 1))) (by decide+kernel);intro k c b
 match k,c,b with
 |1,_,_=>omega
 |2,_,_=>omega
 |3,_,_=>omega
 |4,_,_=>omega
 |5,_,_=>omega
 |6,_,_=>omega
 |7,_,_=>omega
 |8,_,_=>omega
 |k+9,_,b=>omega
theorem R9 {e:Nat->Nat} {n:Nat} (b:e 0=1) (g: ∀k,k<=n->0<e k) (h: ∀k,k+1<n->e (k+1)*e (k+1)<=2*(e k*e (k+2))):
  ∀k,k<n->e k^(k+1)<=2^FA k*e (k+1)^k
 |0,_=>by simp[b,FA]
 |k+1,p=>by
  have o:=R9 b g h k (by omega);have c:=X6 (h k (by omega)) (k+1);have j:(e (k+1)*e (k+1))^(k+1)=e (k+1)^k*e (k+1)^(k+1+1):=by
   grind [Nat.mul_pow]
  have l:(2*(e k*e (k+2)))^(k+1)=2^(k+1)*(e k^(k+1)*e (k+2)^(k+1)):=by grind [Nat.mul_pow]
  rw[j,l]at c;have f:2^(k+1)*(e k^(k+1)*e (k+2)^(k+1))<=2^(k+1)*((2^FA k*e (k+1)^k)*e (k+2)^(k+1)):=XU _ (XX _ o);have m:2^(k+1)*((2^FA k*e (k+1)^k)*e (k+2)^(k+1))=e (k+1)^k*(2^FA (k+1)*e (k+1+1)^(k+1)):=by
   grind [FA]
  rw[m]at f;exact aaY (XQ c f) (YP (g (k+1) (by omega)))
theorem IE {n:Nat} (f:1<=n) (c:n<=8) (h: ∀k,1<=k->k<n->j k^(k+1)<=2^FA k*j (k+1)^k) (b:j n<=10000): ∀k,1<=k->k<=n->j k<65536:=by
 match n,f,c with
 |1,_,_=>grind
 |2,_,_=>exact Tk h b
 |3,_,_=>exact Tl h b
 |4,_,_=>exact Tm h b
 |5,_,_=>exact Tn h b
 |6,_,_=>exact To h b
 |7,_,_=>exact Tp h b
 |8,_,_=>exact Tq h b
 |n+9,_,c=>omega
theorem kS (f:1<=n) (j:n<=8) (h:RedR b n): ∀k,k<n->dk b (k+1)<65536:=by
 obtain⟨_,q,s,o⟩:=h;have g: ∀k,k<=n->0<dk b k:=fun k c=>gR (fun t u=>q t (by omega))
 intro k c;have l:=R9 (e:=fun k=>(dk b k).toNat) (n:=n) (by rfl) (fun k c=>by grind) (fun k c=>?_)
 ·have:=IE f j (fun k _ c=>l k c) (by omega) (k+1) (by omega) (by omega);omega
 obtain⟨r,p⟩:=o k c;have f:=r (k+1) (by omega) (by omega);have m:=l7 f f (by omega) (by omega);grind [KI]
theorem Rg {C E c a b y:Int} (v:0<=C) (w:0<x) (z:0<E) (q:E<65536) (h:x*y=E*c-a*b) (j: -(C*E)<=y/\y<=C*E) (t: -E<=2*a/\2*a<=E) (u: -E<=2*b/\2*b<=E):
  -((C+16384)*x)<=c/\c<=(C+16384)*x:=by
 have f:=l7 t u (by omega) (by omega);have l:2*a*(2*b)=4*(a*b):=by grind
 rw[l]at f;have s:E*E<=65536*E:=Ys (by omega) (by omega);have r:E*1<=E*x:=X5 (by omega) (by omega);have o:x*y<=x*(C*E):=X5 j.2 (by omega);have p:x*(-(C*E))<=x*y:=X5 j.1 (by omega);have m:x*(-(C*E))= -(C*(E*x)):=by grind
 have n:x*(C*E)=C*(E*x):=by grind
 rw[n]at o;rw[m]at p;constructor
 ·rcases ZX c (-((C+16384)*x))with g|e
  ·exfalso;have:=X5 (show c<= -((C+16384)*x)-1 by omega) (show 0<=E by omega);grind
  exact e
 rcases ZX ((C+16384)*x) c with g|e
 ·exfalso;have:=X5 (show(C+16384)*x+1<=c by omega) (show 0<=E by omega);grind
 exact e
theorem BJ {R:FF} {n:Nat} (r: ∀i,i<n-> ∀j,j<n->R i j=R j i) (g: ∀k,k<n->0<dk R (k+1)) (c: ∀k,k<n->dk R (k+1)<65536) (h: ∀t,t+1<n->Gc R n t)
  {i:Nat} (l:i<n): ∀m j k:Nat,j=k+m->j<=i-> -((65535+(m:Int)*16384)*dk R k)<=bk R k i j/\bk R k i j<=(65535+(m:Int)*16384)*dk R k
 |0,j,k,b,q=>by
  have b:j=k:=by omega
  subst b;have p:0<dk R j:=gR (fun t s=>g t (by omega));have y:=g j (by omega);have v:=c j (by omega);have w: -(dk R (j+1))<=bk R j i j/\bk R j i j<=dk R (j+1):=by
   by_cases e:i=j
   ·grind [b7]
   have:=h j (by omega) i l (by omega);omega
  omega
 |m+1,j,k,b,q=>by
  have x:=BJ r g c h l m j (k+1) (by omega) q;have f: ∀t,t<k->dk R (t+1)≠0:=fun t s=>by grind
  have p:0<dk R k:=gR (fun t s=>g t (by omega));have u:=h k (by omega) i l (by omega);have o:=h k (by omega) j (by omega) (by omega);rw[i7 r k (by omega) f j k (by omega) (by omega)]at o;have:=Rg (C:=65535+m*16384) (by omega) p (g k (by omega)) (c k (by omega)) (sylv R k f i j) x u o;grind
theorem xX (e:1<=n) (f:n<=8) (h:RedR b n): ∀i,i<n-> ∀j,j<n-> -262144<b i j/\b i j<262144:=by
 have c:=kS e f h;obtain⟨p,o,r,m⟩:=h;have key: ∀i,i<n-> ∀j,j<=i-> -262144<b i j/\b i j<262144:=by
  intro i g j l;have:=BJ p o c (fun t q=>(m t q).1) g j j 0 (by omega) l;grind [cK,co]
 grind
def SY (b:List (List Int)):Prop:=1<=b.length/\b.length<=8/\Sq b/\RedR (ent b) b.length
theorem jK (b:List (List Int)):isReducedM b=true↔SY b:=by
 have r:Wg (ent b) b.length 0 b:=⟨by omega,fun i j _ _=>by rw[cK];simp⟩;unfold isReducedM;rw[Yh,decide_eq_true_iff];constructor
 ·rintro⟨⟨n,c,l,q⟩,o⟩;have p: ∀i,i<b.length-> ∀j,j<b.length->ent b i j=ent b j i:=fun i f j g=>(q i f j g).1
  have:=(we c p (fun i f j g=>by have:=(q i f j g).2;omega) b.length 0 b (by omega) (by omega) (fun t m=>by omega) r).1 o;refine⟨n,c,l,p,fun k y=>?_,this.2.2,fun t m=>?_⟩
  ·by_cases e:k+1=b.length
   ·grind
   exact(this.1 k (by omega) (by omega)).1.1
  have h:=this.1 t (by omega) m;exact⟨h.1.2.2,h.2⟩
 rintro⟨n,c,l,o⟩;have u:=xX n c o;have s:=kS n c o;obtain⟨p,w,x,v⟩:=o;refine⟨⟨n,c,l,fun i f j g=>⟨p i f j g,u i f j g⟩⟩,?_⟩;refine(we c p (fun i f j g=>by grind) b.length 0 b (by omega) (by omega) (fun t m=>by omega) r).2 ⟨fun t _ m=>?_,?_,x⟩
 ·exact⟨⟨w t (by omega),s t (by omega),(v t m).1⟩,(v t m).2⟩
 have:=w (b.length-1) (by omega);grind
def aN (m:Nat) (g:Nat->Int):List Int:=(List.range m).map g
def mat (n m:Nat) (f:FF):List (List Int):=(List.range n).map fun i=>aN m (f i)
theorem aH (m:Nat) (g:Nat->Int):(aN m g).length=m:=by simp[aN]
theorem aS (n m:Nat) (f:FF):(mat n m f).length=n:=by simp[mat]
theorem az {m j:Nat} (g:Nat->Int) (h:j<m):(aN m g)[j]?=some (g j):=by simp[aN,h]
theorem bu {n i:Nat} (m:Nat) (f:FF) (h:i<n):(mat n m f)[i]?=some (aN m (f i)):=by simp[mat,h]
theorem ez {m:Nat} {g b:Nat->Int} (h: ∀j,j<m->g j=b j):aN m g=aN m b:=Yc fun j c=>h j (Yv.1 c)
theorem gA (h: ∀i j,i<n->j<m->b i j=c i j):mat n m b=mat n m c:=
 Yc fun i e=>ez fun j g=>h i j (Yv.1 e) g
theorem nj (g:Nat->Int) (v:Int):(aN n g).set m v=aN n (fun c=>if c=m then v else g c):=by
 apply X7;grind [aN]
theorem G4 {i:Nat} (f:FF) (g:Nat->Int):(mat n m f).set i (aN m g)=mat n m (fun r=>if r=i then g else f r):=by
 apply X7;grind [mat]
theorem Nu (l:List Int):l=aN l.length fun j=>l.getD j 0:=by
 apply X7;grind [az,aH]
theorem Qe (h: ∀r∈g,r.length=n):g=mat g.length n (ent g):=by
 apply X7;intro c;by_cases b:c<g.length
 ·rw[bu _ _ b,X0 b];grind [Nu,List.getElem_mem,ez,ent]
 grind [aS]
theorem PQ {i j:Nat} (f:FF) (b:i<n) (c:j<m):ent (mat n m f) i j=f i j:=by
 simp_all[ent,bu,az]
def piv (f:FF) (n k p:Nat):Nat:=if p<n then(if f p k=0 then piv f n k (p+1)else p)else n
termination_by n-p
def swp (p k:Nat) (f:FF):Nat->Nat->Int:=fun i=>if i=p then f k else if i=k then f p else f i
def Sr (k:Nat) (last:Int) (f:FF):Nat->Nat->Int:=fun i j=>if k<i/\k<j then(f k k*f i j-f i k*f k j)/last else f i j
def U9 (n k:Nat) (f:FF):Nat->Nat->Int:=swp (piv f n k k) k f
def detG (n k:Nat) (f:FF) (last:Int) (neg:Bool):Int:=
 if k<n then(if piv f n k k=n then 0 else detG n (k+1) (Sr k last (U9 n k f)) (U9 n k f k k) (neg !=decide (k<piv f n k k)))
 else if neg then -last else last
termination_by n-k
def detF (n:Nat) (f:FF):Int:=detG n 0 f 1 false
theorem Aj {k:Nat} (h:m<n) (c:b m k=0):piv b n k m=piv b n k (m+1):=by grind [piv]
theorem Ai {k:Nat} (h:m<n) (c:b m k≠0):piv b n k m=m:=by grind [piv]
theorem tJ {k:Nat} (h: ¬m<n):piv b n k m=n:=by grind [piv]
theorem De (k:Nat) (f:FF):swp k k f=f:=by
 grind [swp]
theorem Gx {f:FF} {n:Nat} (c: ∀t,t+1<n->dk f (t+1)≠0): ∀m k g,n-k=m->k<=n->(∀i j,k<=i->i<n->k<=j->j<n->g i j=bk f k i j)->detG n k g (dk f k) false=dk f n
 |0,k,g,q,p,_=>by
  grind [detG]
 |m+1,k,g,q,p,s=>by
  have b:g k k=dk f (k+1):=by grind [b7]
  rw[detG,if_pos (show k<n by omega)];by_cases h:g k k=0
  ·grind [Aj,tJ]
  have e:piv g n k k=k:=Ai (by omega) h;rw[e,if_neg (by omega),U9,e,De,b];have r:dk f k≠0:=by
   cases k with
   |zero=>rw[co];omega
   |succ k=>grind
  rw[show(false !=decide (k<k))=false by simp];refine Gx c m (k+1) _ (by omega) (by omega) fun i j u l v o=>?_
  have w:=sylv f k (fun t x=>c t (by omega)) i j;show(if k<i/\k<j then _ else _)=_;grind [Int.mul_ediv_cancel_left]
theorem tA (c: ∀t,t+1<n->dk b (t+1)≠0):detF n b=dk b n:=
 Gx c n 0 b rfl (by omega) fun i j _ _ _ _=>(cK b i j).symm
theorem ry {r s:Nat->Int}: ∀(b:List Nat) {f g:List Nat->Int},(∀c∈b,r c=s c)->(∀l,(∀c∈l,c∈b)->f l=g l)->f9 r f b=f9 s g b
 |[],_,_,_,_=>rfl
 |c::b,f,g,h,j=>by
  rw[f9,f9,h c YV,j b (fun c e=>YR _ e),ry b (fun c e=>h c (YR _ e)) (fun l n=>j (c::l) (fun d m=>by
   grind))]
theorem Ae {f g:FF}: ∀{k:Nat} {b:List Nat},(∀i,i<k-> ∀c∈b,f i c=g i c)->om f k b=om g k b
 |0,_,_=>rfl
 |k+1,b,h=>by
  show f9 (f k) (om f k) b=f9 (g k) (om g k) b;exact ry b (fun c e=>h k (by omega) c e) (fun l j=>Ae fun i m c e=>h i (by omega) c (j c e))
theorem BW {k:Nat} (h: ∀i j,i<k->j<k->b i j=c i j):dk b k=dk c k:=Ae fun i m e l=>h i e m (rq l)
theorem Ep {i:Nat} (h: ∀r e,r<n->e<=n->c r e=b r e) (o: ∀e,e<=n->c n e=b i e):dk c (n+1)=bk b n i n:=by
 rw[b7,bk,bk];refine ry _ (fun e m=>?_) (fun l p=>Ae fun r q e m=>?_)
 ·rcases Yo.1 m with rfl|m
  ·grind
  exact o e (by have:=rq m;omega)
 have:=p e m;rcases Yo.1 this with rfl|this
 ·grind
 exact h r e q (by have:=rq this;omega)
def pS (f:FF) (i j:Nat):Nat->Nat->Int:=fun r c=>if r<j then f r c else f i c
def lam (f:FF) (i j:Nat):Int:=detF (j+1) (pS f i j)
def dd (f:FF) (k:Nat):Int:=if k=0 then 1 else detF k f
def SymF (f:FF) (n:Nat):Prop:= ∀i,i<n-> ∀j,j<n->f i j=f j i
def Ba (f:FF) (n:Nat):Prop:= ∀k,k<n->0<detF (k+1) f
def jX (f:FF) (i j:Nat):Prop:=2*((lam f i j).natAbs:Int)<=dd f (j+1)
def ou (f:FF) (i:Nat):Prop:=3*(dd f i*dd f i)<=4*(dd f (i-1)*dd f (i+1)+lam f i (i-1)*lam f i (i-1))
def Vp (f:FF) (n:Nat):Prop:= ∀i,i<n->(∀j,j<i->jX f i j)/\(0<i->ou f i)
theorem Ak (h:Ba b n): ∀k,k<n->0<dk b (k+1)/\detF (k+1) b=dk b (k+1):=by
 intro k
 induction k using Nat.strongRecOn with
 |ind k j=>
  intro c;have e:detF (k+1) b=dk b (k+1):=tA fun t g=>by grind
  exact⟨e▸h k c,e⟩
theorem pJ (h: ∀k,k<n->0<dk b (k+1)): ∀k,k<n->detF (k+1) b=dk b (k+1):=fun k c=>
 tA fun t e=>by grind
theorem j9 (h: ∀k,k<n->0<dk b (k+1)) {k:Nat} (c:k<=n):dd b k=dk b k:=by
 cases k with
 |zero=>rfl
 |succ k=>exact pJ h k (by omega)
theorem oO (h: ∀k,k<n->0<dk b (k+1)) {i:Nat} (l:m<n):lam b i m=bk b m i m:=by
 have e: ∀t,t+1<m+1->dk (pS b i m) (t+1)=dk b (t+1):=fun t p=>BW fun r c o g=>by
  grind [pS]
 grind [lam,tA,Ep,pS]
theorem QP (v:1<=n):(SymF b n/\Ba b n/\detF n b<=10000/\Vp b n)↔RedR b n:=by
 constructor
 ·rintro⟨h,p,l,g⟩;have c: ∀k,k<n->0<dk b (k+1):=fun k q=>(Ak p k q).1
  have e:detF n b=dk b n:=by
   have:=(Ak p (n-1) (by omega)).2;grind
  refine⟨h,c,e▸l,fun t s=>⟨fun i m o=>?_,?_⟩⟩
  ·have:=(g i m).1 t o;grind [jX,oO,j9]
  have:=(g (t+1) s).2 (by omega);rw[ou,oO c (by omega),j9 c (by omega),j9 c (by omega),j9 c (by omega)]at this;grind [KI]
 rintro⟨h,c,l,g⟩;have e:detF n b=dk b n:=by
  have:=pJ c (n-1) (by omega);grind
 refine⟨h,fun k q=>?_,e.symm▸l,fun i m=>⟨fun j r=>?_,fun u=>?_⟩⟩
 ·grind [pJ]
 ·have:=(g j (by omega)).1 i m r;grind [jX,oO,j9]
 have:=(g (i-1) (by omega)).2;rw[KI,abB,show i-1+1=i by omega]at this;rw[ou,oO c (by omega),j9 c (by omega),j9 c (by omega),j9 c (by omega)];exact this
section
def eh (f:FF) (i j:Nat) (c:Int):Nat->Nat->Int:=fun a b=>f a b+(if a=i then c*f j b else 0)+(if b=i then c*f a j else 0)+(if a=i then(if b=i then c*c*f j j else 0)else 0)
def pa (m a:Nat):Nat:=if a=m then m+1 else if a=m+1 then m else a
def kK (f:FF) (m:Nat):Nat->Nat->Int:=fun a b=>f (pa m a) (pa m b)
theorem Uo {a:Nat} (h:a<n):pa n a=a:=by grind [pa]
theorem AC {a:Nat} (h:n+1<a):pa n a=a:=by grind [pa]
theorem Hq (m:Nat):pa m m=m+1:=by simp[pa]
theorem AD (m:Nat):pa m (m+1)=m:=by simp[pa]
theorem pb {a:Nat} (b:n+1<m) (h:a<m):pa n a<m:=by grind [pa]
theorem GC {f:FF} {k:Nat} (h: ∀t,t<k->dk f (t+1)≠0):dk f k≠0:=by
 cases k with
 |zero=>rw[co];omega
 |succ k=>grind
theorem uC {i a:Nat} (e:a≠i) (f:m≠i):eh b i n x a m=b a m:=by
 grind [eh]
theorem Ln {f:FF} {i j:Nat} {c:Int} (o:j<i): ∀k,k<=j+1->(∀t,t<k->dk f (t+1)≠0)->(∀l,l<=k->dk (eh f i j c) l=dk f l)/\ ∀a b,bk (eh f i j c) k a b=eh (bk f k) i j c a b
 |0,_,_=>⟨fun l h=>by have:l=0:=(by omega);subst this;rfl,fun a b=>by grind [cK,eh]⟩
 |k+1,x,e=>by
  obtain⟨u,m⟩:=Ln (c:=c) o k (by omega) (fun t g=>e t (by omega));have r:dk (eh f i j c) (k+1)=dk f (k+1):=by grind [b7,uC]
  have n: ∀t,t<k->dk (eh f i j c) (t+1)≠0:=fun t g=>by grind
  refine⟨fun l h=>?_,fun a b=>?_⟩
  ·grind
  have q:=GC (f:=f) (k:=k) (fun t g=>e t (by omega));have s:=sylv (eh f i j c) k n a b;rw[u k (by omega),r,m a b,m a k,m k b]at s;have y:=sylv f k (fun t g=>e t (by omega)) a b;have z:=sylv f k (fun t g=>e t (by omega)) j b;have A:=sylv f k (fun t g=>e t (by omega)) a j;have B:=sylv f k (fun t g=>e t (by omega)) j j;refine Zx q ?_;rw[s];have p: ¬k=i:=by omega
  unfold eh;by_cases v:a=i
  ·by_cases w:b=i
   ·simp only[v,w,p,if_true,if_false];grind
   grind
  grind
theorem Gm {f g:FF} {n k0:Nat} (j: ∀t,t<n->dk f (t+1)≠0) (l: ∀t,t<k0->dk g (t+1)≠0) (h:dk g k0=dk f k0) (e: ∀a b,a<n->b<n->bk g k0 a b=bk f k0 a b):
  ∀k,k0<=k->k<=n->(∀c,k0<=c->c<=k->dk g c=dk f c)/\ ∀a b,a<n->b<n->bk g k a b=bk f k a b:=by
 intro k
 induction k with
 |zero=>grind
 |succ k m=>
  grind [b7,GC,sylv,Int.eq_of_mul_eq_mul_left]
section
variable {f:FF} {n:Nat}
theorem zq (h:SymF f n) (g: ∀m,m<n->dk f (m+1)≠0) {k a:Nat} (e:k<=n) (b:m<k) (c:a<n):bk f k a m=0:=by
 rw[i7 h k e (fun m b=>g m (by omega)) a m c (by omega),lO f b]
theorem jH (z:SymF f n) (p: ∀t,t<n->dk f (t+1)≠0) {i:Nat} (c:Int) (l:m<i) (y:i<n):
  (∀k,k<=n->dk (eh f i m c) k=dk f k)/\(∀k a b,k<=m->bk (eh f i m c) k a b=eh (bk f k) i m c a b)/\ ∀k a b,m<k->k<=n->a<n->b<n->bk (eh f i m c) k a b=bk f k a b:=by
 have h:=Ln (f:=f) (c:=c) l;obtain⟨v,x⟩:=h (m+1) (XY _) (fun t s=>p t (by omega));have u: ∀a b,a<n->b<n->bk (eh f i m c) (m+1) a b=bk f (m+1) a b:=fun a b q r=>by
  grind [eh,lO,zq]
 have e:=Gm (f:=f) (g:=eh f i m c) (n:=n) (k0:=m+1) p (fun t s=>by grind) (v (m+1) (by omega)) u;refine⟨fun k o=>?_,fun k a b o=>(h k (by omega) (fun t s=>p t (by omega))).2 a b,fun k a b w o q r=>(e k (by omega) o).2 a b q r⟩;grind
theorem zt {m:Nat}: ∀k,k<=m->(∀t,t<k->dk f (t+1)≠0)->(∀c,c<=k->dk (kK f m) c=dk f c)/\ ∀a b,bk (kK f m) k a b=bk f k (pa m a) (pa m b)
 |0,_,_=>⟨fun c h=>by have:c=0:=(by omega);subst this;rfl,fun a b=>by rfl⟩
 |k+1,r,e=>by
  obtain⟨p,q⟩:=zt (m:=m) k (by omega) (fun t g=>e t (by omega));have o:dk (kK f m) (k+1)=dk f (k+1):=by grind [b7,Uo]
  have j: ∀t,t<k->dk (kK f m) (t+1)≠0:=fun t g=>by grind
  refine⟨fun c h=>?_,fun a b=>?_⟩
  ·grind
  have l:=GC (f:=f) (k:=k) (fun t g=>e t (by omega));grind [sylv,pa,Int.eq_of_mul_eq_mul_left]
theorem wP (p:SymF f n) (j: ∀t,t<n->0<dk f (t+1)) (o:m+1<n):
  dk f (m+1)*dk (kK f m) (m+1)=dk f m*dk f (m+2)+bk f m (m+1) m*bk f m (m+1) m/\0<dk (kK f m) (m+1):=by
 have b: ∀t,t<n->dk f (t+1)≠0:=fun t g=>by grind
 obtain⟨v,l⟩:=zt (f:=f) (m:=m) m (XY _) (fun t g=>b t (by omega));have e:dk (kK f m) (m+1)=bk f m (m+1) (m+1):=by rw[b7,l,Hq]
 have s:=sylv f m (fun t g=>b t (by omega)) (m+1) (m+1);have c:=i7 p m (by omega) (fun t g=>b t (by omega)) m (m+1) (by omega) (by omega);rw[c,<- b7 f (m+1)]at s;have key:dk f (m+1)*dk (kK f m) (m+1)=dk f m*dk f (m+2)+bk f m (m+1) m*bk f m (m+1) m:=by grind
 refine⟨key,?_⟩;have r:=j m (by omega);have u:=j (m+1) o;have q:0<dk f m:=by
  cases m with
  |zero=>rw[co];omega
  |succ m=>grind
 have w:0<dk f m*dk f (m+2):=aa1 q u;have x:0<=bk f m (m+1) m*bk f m (m+1) m:=by
  rcases ZM 0 (bk f m (m+1) m)with h|h
  ·exact Yj h h
  exact Yx h h
 rcases ZX 0 (dk (kK f m) (m+1))with h|h
 ·exact h
 exfalso;have:=aaw (ZE r) h;omega
theorem ns (hs:SymF f n) (hp: ∀t,t<n->0<dk f (t+1)) (Z:m+1<n):
  (∀k,k<=n->k≠m+1->dk (kK f m) k=dk f k)/\(∀k a b,k<=m->bk (kK f m) k a b=bk f k (pa m a) (pa m b))/\ ∀k a b,m+1<k->k<=n->a<n->b<n->bk (kK f m) k a b=bk f k a b:=by
 have h: ∀t,t<n->dk f (t+1)≠0:=fun t w=>by grind
 have P:=zt (f:=f) (m:=m);obtain⟨h1,h2⟩:=P m (XY _) (fun t w=>h t (by omega));have a0:=(wP hs hp Z).2;have O: ∀t,t<m+1->dk (kK f m) (t+1)≠0:=fun t w=>by
  grind
 have A:=GC (f:=f) (k:=m) (fun t w=>h t (by omega));have al:=h m (by omega);have aa:SymF (kK f m) n:=fun a v b B=>hs _ (pb Z v) _ (pb Z B)
 -- stage m + 2 for a, b behind m + 1
 have hz: ∀a b,m+1<a->m+1<b->bk (kK f m) (m+2) a b=bk f (m+2) a b:=fun a b v B=>by
  have F: ∀x y,dk f m*bk f (m+1) x y=dk f (m+1)*bk f m x y-bk f m x m*bk f m m y:=fun x y=>sylv f m (fun t w=>h t (by omega)) x y
  have G: ∀x y,dk f m*bk (kK f m) (m+1) x y=dk (kK f m) (m+1)*bk f m (pa m x) (pa m y)-bk f m (pa m x) (m+1)*bk f m (m+1) (pa m y):=fun x y=>by
   grind [sylv,Hq]
  have V:=sylv f (m+1) (fun t w=>h t (by omega)) a b;have W:=sylv (kK f m) (m+1) O a b;rw[b7 f (m+1)]at V;rw[b7 (kK f m) (m+1)]at W;have f11:=F (m+1) (m+1);have L:=F a b;have K:=F a (m+1);have J:=F (m+1) b;have C:=G (m+1) (m+1);have H:=G a b;have E:=G a (m+1);have D:=G (m+1) b;rw[AD]at C;rw[AC v,AC B]at H;rw[AC v,AD]at E;rw[AC B,AD]at D;have ed:dk (kK f m) (m+1)=bk f m (m+1) (m+1):=by rw[b7,h2,Hq]
  have X:dk f (m+1)=bk f m m m:=b7 f m;rw[ed]at C H E D W;rw[X]at f11 L K J V;have ab:bk f m (m+1) (m+1)≠0:=by omega
  have ac:bk f m m m≠0:=by omega
  generalize bk (kK f m) (m+2) a b=z' at*
  generalize bk f (m+2) a b=z at*
  generalize bk (kK f m) (m+1) (m+1) (m+1)=Q at*
  generalize bk (kK f m) (m+1) a b=T at*
  generalize bk (kK f m) (m+1) a (m+1)=S at*
  generalize bk (kK f m) (m+1) (m+1) b=R at*
  generalize bk f (m+1) (m+1) (m+1)=ad at*
  generalize bk f (m+1) a b=ag at*
  generalize bk f (m+1) a (m+1)=af at*
  generalize bk f (m+1) (m+1) b=ae at*
  generalize bk f m (m+1) (m+1)=c at*
  generalize bk f m m m=e at*
  generalize bk f m (m+1) m=l at*
  generalize bk f m m (m+1)=s at*
  generalize bk f m a b=q at*
  generalize bk f m a m=r at*
  generalize bk f m m b=u at*
  generalize bk f m a (m+1)=o at*
  generalize bk f m (m+1) b=j at*
  generalize dk f m=p at*
  have k1:p*p*(e*z)=e*(e*c*q-c*r*u-l*s*q+r*s*j+o*l*u-e*o*j):=by
   have:p*p*(e*z)=(p*ad)*(p*ag)-(p*af)*(p*ae):=by rw[V];grind
   rw[this,f11,L,K,J];grind
  have k2:p*p*(c*z')=c*(e*c*q-c*r*u-l*s*q+r*s*j+o*l*u-e*o*j):=by
   have:p*p*(c*z')=(p*Q)*(p*T)-(p*S)*(p*R):=by rw[W];grind
   rw[this,C,H,E,D];grind
  have k3:p*p*z=e*c*q-c*r*u-l*s*q+r*s*j+o*l*u-e*o*j:=
   Zx ac (by grind [Int.mul_left_comm])
  have k4:p*p*z'=e*c*q-c*r*u-l*s*q+r*s*j+o*l*u-e*o*j:=
   Zx ab (by grind [Int.mul_left_comm])
  exact Zx (abk A A) (k4.trans k3.symm)
 have Y:dk (kK f m) (m+2)=dk f (m+2):=by
  have s1:=sylv f m (fun t w=>h t (by omega)) (m+1) (m+1);have s2:=sylv (kK f m) m (fun t w=>O t (by omega)) (m+1) (m+1);grind [b7,Hq,AD,Int.eq_of_mul_eq_mul_left]
 have N: ∀t,t<m+2->dk (kK f m) (t+1)≠0:=fun t w=>by
  grind
 have h0: ∀a b,a<n->b<n->bk (kK f m) (m+2) a b=bk f (m+2) a b:=fun a b v B=>by
  by_cases ah:a<m+2
  ·grind [lO]
  by_cases M:b<m+2
  ·rw[zq hs h (by omega) M v,i7 aa (m+2) (by omega) N a b v B,lO _ M]
  grind
 have I:=Gm (f:=f) (g:=kK f m) (n:=n) (k0:=m+2) h N Y h0;refine⟨fun k U ap=>?_,fun k a b U=>(P k U (fun t w=>h t (by omega))).2 a b,fun k a b av U v B=>(I k (by omega) U).2 a b v B⟩;grind
end
end
inductive PV where
 |raw (v:Value)
 |sl (xs:List (List PV))
 |ptr (cs:List PV)
variable {r:PV}
inductive AV where
 |p (x:PV)
 |sl (a r off len:Nat)
 |ptr (a r i j:Nat)
 |junk
 |fn (f:FuncId) (a:Nat) (qs:List (Nat×Nat×Nat))
inductive TV where
 |one (x:AV)
 |agg (cs:List AV)
 |tup (ts:List (Bool×List AV))
 |fn (f:FuncId) (cs:List AV)
structure OObj where
 ty:TypeId
 es:Nat
 elems:List (List AV)
abbrev OH:=Nat->List OObj
variable {p:OH}
structure AS where
 tmps:List TV
 H:OH
inductive bO (X:Nat->Prop) (w:World):PV->Value->Prop
 |raw (v:Value) (h:v.oneCell'=true):bO X w (.raw v) v
 |nil (a:Option Addr) (c:Nat):bO X w (.sl []) (.slice a 0 c)
 |sl (b off es cap:Nat) (xs:List (List PV)) (f:Nat->Nat->Value) (hX: ¬X b) (hb:b<w.heap.size) (hes: ∀e∈xs,e.length=es) (hcap:xs.length<=cap) (hm:xs.length<=9223372036854775807)
   (hc: ∀(i:Nat) e (j:Nat) x,xs[i]?=some e->e[j]?=some x->w.cell? ⟨b,off+i*es+j,none⟩=some (f i j))
   (hr: ∀(i:Nat) e (j:Nat) x,xs[i]?=some e->e[j]?=some x->bO X w x (f i j)):bO X w (.sl xs) (.slice (some ⟨b,off,none⟩) xs.length cap)
 |ptr (b off:Nat) (cs:List PV) (f:Nat->Value) (hX: ¬X b) (hb:b<w.heap.size)
   (hc: ∀(j:Nat) x,cs[j]?=some x->w.cell? ⟨b,off+j,none⟩=some (f j))
   (hr: ∀(j:Nat) x,cs[j]?=some x->bO X w x (f j)):bO X w (.ptr cs) (.pointer (some ⟨b,off,none⟩))
theorem bO.one (h:bO e w r q):q.oneCell'=true:=by
 cases h<;>first|assumption|rfl
def RY (X:Nat->Prop) (w b:World):Prop:=w.heap.size<=b.heap.size/\ ∀p v,¬X p.block->w.cell? p=some v->b.cell? p=some v
theorem bO.stays (o:RY e w W) (h:bO e w r q):bO e W r q:=by
 induction h with
 |raw q h=>exact .raw q h
 |nil a c=>exact .nil a c
 |sl b l A cap E f m s u n C t D y=>exact .sl b l A cap E f m (XZ s o.1) u n C (fun i g j r p B=>o.2 _ _ m (t i g j r p B)) y
 |ptr b l z f m s t D y=>exact .ptr b l z f m (XZ s o.1) (fun j r p=>o.2 _ _ m (t j r p)) y
theorem bO.weaken (t: ∀b,b<w.heap.size->f b->e b) (h:bO e w r q):bO f w r q:=by
 induction h with
 |raw q h=>exact .raw q h
 |nil a c=>exact .nil a c
 |sl b j y cap B g n l p m z o A s=>exact .sl b j y cap B g (fun h=>n (t _ l h)) l p m z o s
 |ptr b j u g n l o A s=>exact .ptr b j u g (fun h=>n (t _ l h)) l o s
abbrev Rho:=Nat->Nat->Option (Nat×Nat)
variable {l o:Rho}
def Xo (X:Nat->Prop) (e:Rho) (H:OH):Nat->Prop:=fun b=>X b\/ ∃(a r:Nat) (o:OObj) (c:Nat),(H a)[r]?=some o/\e a r=some (b,c)
def AV.rel (g:Rho) (H:OH) (X:Nat->Prop) (w:World):AV->Value->Prop
 | .p x,v=>bO X w x v
 | .sl a r e len,v=> ∃o,(H a)[r]?=some o/\e+len<=o.elems.length/\
   ((g a r=none/\v= .slice none 0 0/\len=0/\e=0)\/ ∃b c cap,g a r=some (b,c)/\v= .slice (some ⟨b,e*o.es,none⟩) len cap/\len<=cap/\(a<=4999->cap=c-e))
 | .ptr a r i j,v=> ∃o b c,(H a)[r]?=some o/\g a r=some (b,c)/\i<o.elems.length/\v= .pointer (some ⟨b,i*o.es+j,none⟩)
 | .junk,_=>True
 | .fn f a h,v=> ∃vs:Array Value,v= .func (.func f) #[] vs/\vs.size=h.length/\0<h.length/\ ∀(n:Nat) q,h[n]?=some q-> ∃u:Value,vs[n]?=some u/\
   ∃o b c,(H a)[q.1]?=some o/\g a q.1=some (b,c)/\q.2.1<o.elems.length/\u= .pointer (some ⟨b,q.2.1*o.es+q.2.2,none⟩)
def CH:AV->Bool
 | .fn ..=>false
 |_=>true
def og (g:AV->AV):Prop:= ∀f a e,g (.fn f a e)= .junk\/ ∃h b,g (.fn f a e)= .fn f h b/\b.length=e.length/\ ∀(n:Nat) q,e[n]?=some q-> ∃c,b[n]?=some c/\g (.ptr a q.1 q.2.1 q.2.2)= .ptr h c.1 c.2.1 c.2.2
theorem jI {c:AV->Prop} (E: ∀m a q r i j,c (.fn m a q)->c (.ptr a r i j)) {g:AV->AV} (F:og g) {t:OH} (h: ∀x v,CH x=true->c x->AV.rel l p e w x v->AV.rel o t f W (g x) v) (x:AV) (v:Value) (y:c x) (k:AV.rel l p e w x v):AV.rel o t f W (g x) v:=by
 cases x with
 |fn m a q=>
  rcases F m a q with b|⟨N,K,b,G,J⟩
  ·rw[b];trivial
  rw[b];obtain⟨vs,B,C,O,D⟩:=k;refine⟨vs,B,C.trans G.symm,by omega,fun n P z=>?_⟩;have I:=(XN.1 z).1;obtain⟨Q,s,A⟩:=J n q[n] (X0 (by omega));rw[z]at s;injection s with s
  subst s;obtain⟨u,L,M⟩:=D n q[n] (X0 (by omega));have:=h (.ptr a q[n].1 q[n].2.1 q[n].2.2) u rfl (E m a q _ _ _ y) M;rw[A]at this;exact⟨u,L,this⟩
 |_=>exact h _ v rfl y k
theorem fP {g:AV->AV} (j:og g) {b:OH} (h: ∀x v,CH x=true->AV.rel l p e w x v->AV.rel o b f W (g x) v) (x:AV) (v:Value) (k:AV.rel l p e w x v):AV.rel o b f W (g x) v:=
 jI (c:=fun _=>True) (fun _ _ _ _ _ _ h=>h) j (fun x v m _ k=>h x v m k) x v trivial k
theorem pU:og id:=fun f a c=> .inr ⟨a,c,rfl,rfl,fun n q b=>⟨q,b,rfl⟩⟩
theorem pC {b:OH} (h: ∀x v,CH x=true->AV.rel l p e w x v->AV.rel o b f W x v) (x:AV) (v:Value) (k:AV.rel l p e w x v):AV.rel o b f W x v:=fP pU h x v k
theorem rW {a a' r' len e:Nat} {ρ':Rho} (p:a<=4999) (h:(l a n=none/\q= .slice none 0 0/\len=0/\m=0)\/ ∃b c cap,l a n=some (b,c)/\q= .slice (some ⟨b,m*e,none⟩) len cap/\len<=cap/\(a<=4999->cap=c-m)) (s:ρ' a' r'=l a n):
  (ρ' a' r'=none/\q= .slice none 0 0/\len=0/\m=0)\/ ∃b c cap,ρ' a' r'=some (b,c)/\q= .slice (some ⟨b,m*e,none⟩) len cap/\len<=cap/\(a'<=4999->cap=c-m):=by
 rw[s];rcases h with h|⟨b,c,cap,f,g,j,o⟩
 ·exact .inl h
 exact .inr ⟨b,c,cap,f,g,j,fun _=>o p⟩
def bC (c:Rho) (H:OH) (X:Nat->Prop) (w:World) (b:List AV) (v:Value):Prop:=
 ∃vs:Array Value,v= .agg vs/\vs.size=b.length/\ ∀(j:Nat) x,b[j]?=some x-> ∃u:Value,vs[j]?=some u/\u.oneCell'=true/\x.rel c H X w u
def WL (f:FuncId):Value->Value
 | .agg vs=> .func (.func f) #[] vs
 |v=>v
def TV.rel (e:Rho) (H:OH) (X:Nat->Prop) (w:World):TV->Value->Prop
 | .one x,v=>x.rel e H X w v
 | .agg c,v=>bC e H X w c v
 | .tup g,v=> ∃vs:Array Value,v= .tuple vs/\vs.size=g.length/\ ∀(j:Nat) b c,g[j]?=some (b,c)-> ∃u:Value,vs[j]?=some u/\
   ((b=true/\bC e H X w c u)\/(b=false/\ ∃x,c=[x]/\x.rel e H X w u))
 | .fn f c,v=> ∃u,bC e H X w c u/\v=WL f u
def objRel (f:Rho) (H:OH) (X:Nat->Prop) (w:World) (a r:Nat) (o:OObj):Prop:=
 (∀e∈o.elems,e.length=o.es)/\0<o.es/\
 match f a r with
 |none=>o.elems=[]
 |some (b,c)=> ∃cells,w.heap[b]?=some (.cells cells o.ty (0,0))/\cells.size=c*o.es/\o.elems.length<=c/\c<=9223372036854775807/\
   ∀(i:Nat) e (j:Nat) x,o.elems[i]?=some e->e[j]?=some x-> ∃v:Value,cells[i*o.es+j]?=some v/\v.oneCell'=true/\x.rel f H X w v
structure Keep (O:Nat->Prop) (w0 w:World):Prop where
 os:w.os=w0.os
 tape:w.tape=w0.tape
 output:w.output=w0.output
 size:w0.heap.size<=w.heap.size
 block: ∀k,k<w0.heap.size-> ¬O k->w.heap[k]?=w0.heap[k]?
def bz (a:Nat):AV->Prop
 | .sl b _ _ _=>b=a
 | .ptr b _ _ _=>b=a
 | .fn _ b c=>b=a/\c≠[]
 |_=>True
def selfO (a:Nat) (o:OObj):Prop:= ∀e∈o.elems,∀x∈e,bz a x
structure Inv (w0:World) (O X:Nat->Prop) (H:OH) (ρ:Rho) (w:World):Prop where
 keep:Keep O w0 w
 objs: ∀(a r:Nat) (o:OObj),(H a)[r]?=some o->objRel ρ H (Xo X ρ H) w a r o
 inj: ∀(a r a' r':Nat) (o o':OObj) (b c c':Nat),(H a)[r]?=some o->(H a')[r']?=some o'->ρ a r=some (b,c)->ρ a' r'=some (b,c')->a=a'/\r=r'
 old: ∀(a r:Nat) (o:OObj) (b c:Nat),(H a)[r]?=some o->ρ a r=some (b,c)->(w0.heap.size<=b\/O b)/\ ¬X b
 bar: ∀b,X b->b<w.heap.size
 self: ∀(a r:Nat) (o:OObj),(H a)[r]?=some o->selfO a o
def de (c:World) (O X:Nat->Prop) (s:AS) (a:Act) (w:World):Prop:=
 a.defers=[]/\a.tmps.size=s.tmps.length/\ ∃b,Inv c O X s.H b w/\
  ∀(t:Nat) x,s.tmps[t]?=some x-> ∃v:Value,a.tmps[t]?=some v/\x.rel b s.H (Xo X b s.H) w v
end Go.Proofs.YtalmoejhjceflaaGreat
