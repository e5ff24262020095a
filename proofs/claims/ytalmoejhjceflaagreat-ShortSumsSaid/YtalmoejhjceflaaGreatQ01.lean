/-
  Part 2 of a proof (walks and plain facts).
-/
import Derived.Test.YtalmoejhjceflaaGreatQ00
import Derived.Shelf.Spec.BitsCarry
import Derived.Shelf.Bits.Mul64
set_option linter.all false
set_option maxRecDepth 100000
set_option maxHeartbeats 64000000
namespace Go.Proofs.YtalmoejhjceflaaGreat
open Go.RowKit Go.Proofs.Tryz
variable {b:List (List Int)} {n m:Nat} {c:List Int}
theorem Tryz.infoI64:(prog.info? 2).map (fun i=>(i.zero,i.size,i.bytes))=some (some (.int .i64 0),1,8):=by kernel_rfl
theorem Tryz.infoSlI64:(prog.info? 35).map (fun i=>(i.zero,i.size,i.bytes))=some (some (.slice none 0 0),1,24):=by kernel_rfl
def Wn (b:List (List Int)) (last:Int) (i j:Nat):Int:=
 wrap64 (Int.tdiv (wrap64 (wrap64 (ent b 0 0*ent b (i+1) (j+1))-wrap64 (ent b (i+1) 0*ent b 0 (j+1)))) last)
def Wo (b:List (List Int)) (last:Int):List (List Int):=oS (b.length-1) (b.length-1) (Wn b last)
def IH (b:List (List Int)) (last:Int):Prop:=
 wrap64 (4*wrap64 (wrap64 (last*Wn b last 0 0)+wrap64 (ent b 1 0*ent b 1 0)))<wrap64 (3*ent b 0 0*ent b 0 0)
instance (stg:List (List Int)) (last:Int):Decidable (IH stg last):=inferInstanceAs (Decidable (_<_))
def uJ:Nat->List (List Int)->Int->Bool
 |0,_,_=>false
 |f+1,b,last=>
  if b.length<=1 then decide (0<ent b 0 0)&&decide (ent b 0 0<=10000)
  else if nZ b then(if IH b last then false else uJ f (Wo b last) (ent b 0 0))else false
def isReducedM (b:List (List Int)):Bool:=decide (kR b)&&uJ b.length b 1
def YJ:Value->Nat| .slice _ n _=>n|_=>0
def Sq (b:List (List Int)):Prop:= ∀i,i<b.length->(b.getD i []).length=b.length
theorem Sq.at_ (h:Sq b) {i:Nat} (f:b[i]?=some c):c.length=b.length:=by
 have e:i<b.length:=by
  grind
 have:=h i e;grind
theorem Sq.nx (b:List (List Int)) (last:Int):Sq (Wo b last):=by
 intro i c;grind [Wo,oS]
theorem vy.ent_ {w:World} {A:Option Addr} (h:vy .i64 w A b) (v:Sq b) {i j:Nat} (s:i<b.length) (z:j<b.length):
  ∃e g m f c,A=some ⟨e,g,none⟩/\w.cell? ⟨e,g+i,none⟩=some (.slice (some ⟨m,f,none⟩) b.length c)/\b.length<=c/\w.cell? ⟨m,f+j,none⟩=some (.int .i64 (ent b i j)):=by
 obtain⟨r,o⟩:=getElem?_of_lt s;obtain⟨e,g,B,x,rfl,y,q,t,u⟩:=h.at_ o;have C:=v.at_ o;obtain⟨a,n⟩:=getElem?_of_lt (l:=r) (k:=j) (by omega);obtain⟨m,f,rfl,p⟩:=u.at_ n;grind [sk]
theorem vy.row_ {w:World} {A:Option Addr} (h:vy .i64 w A b) (v:Sq b) {i:Nat} (s:i<b.length):
  ∃f l m g c,A=some ⟨f,l,none⟩/\w.cell? ⟨f,l+i,none⟩=some (.slice (some ⟨m,g,none⟩) b.length c)/\b.length<=c/\ ∀j,j<b.length->w.cell? ⟨m,g+j,none⟩=some (.int .i64 (ent b i j)):=by
 obtain⟨r,n⟩:=getElem?_of_lt s;obtain⟨f,l,B,o,rfl,x,q,t,u⟩:=h.at_ n;have z:=v.at_ n;obtain⟨m,g,rfl,p⟩:=u (by
  intro e;have:=congrArg List.length e;grind)
 refine⟨f,l,m,g,o,rfl,by grind,by omega,fun j y=>?_⟩;grind [sk]
theorem mQ (A:Option Addr) (c:Nat) (rows:List (List Int)) (w:World) (hx:vy .i64 w A rows) (lx:rows.length<=9223372036854775807) (hcap:rows.length<=c):
  Calls prog 36 #[.slice A rows.length c] w fun e w'=>e= .returned (.bool (isReducedM rows))/\Ext w w':=by
 have HX:=acg hx;clear hx;by_cases hS:kR rows
 ·have hSd:decide (kR rows)=true:=by simp[hS]
  have HS:=acg hS;have hn1:1<=rows.length:=hS.1;have hn8:rows.length<=8:=hS.2.1;have HF:Hid (isReducedM rows=uJ rows.length rows 1):=acg (by simp[isReducedM,hS]);clear hS
  go_enter func36,ntmps36
  go_wp2_with (go_at_call 85;refine(xb A c rows _ HX.out lx).mono ?_;rintro e w' ⟨rfl,rfl⟩)
  clear hSd
  go_loopw [3,4,5,6,7,8,9,10] (fun s l _ _ _ _ _ _ wr=> ∃(B:Option Addr) (cap:Nat) (stg:List (List Int)) (last:Int),s= .slice B stg.length cap/\l= .int .i64 last/\1<=stg.length/\stg.length<=8/\stg.length<=cap/\1<=last/\last<65536/\Hid (Sq stg)/\Hid (vy .i64 wr B stg)/\Hid (Ext w wr)/\Hid (uJ stg.length stg last=uJ rows.length rows 1))
   (fun s _ _ _ _ _ _ _ _=>YJ s)
  case atStart=>exact⟨A,c,rows,1,rfl,rfl,hn1,hn8,hcap,by omega,by omega,acg HS.out.2.2.1,HX,acg (Ext.refl _),acg rfl⟩
  case round=>
   clear HX HS hn1 hn8 hcap;obtain⟨B,cap,stg,last,rfl,rfl,h1,h8,hcap,hl0,hl1,HSq,HR,HE,HQ⟩:=hrel;by_cases hlen:1<stg.length
   ·obtain⟨b,off,b2,off2,c2,rfl,hc1,hcap2,hc2⟩:=HR.out.ent_ HSq.out (i:=0) (j:=0) (by omega) (by omega);rw[ac9]at hc1 hc2;by_cases hP:nZ stg
    ·have hPd:decide (nZ stg)=true:=by simp[hP]
     have hd0:0<ent stg 0 0:=hP.1;have hd1:ent stg 0 0<65536:=hP.2.1;have HP:=acg hP;clear hP;obtain⟨m,hm⟩: ∃m,stg.length=m+1:=⟨stg.length-1,by omega⟩;have hm1:1<=m:=by omega
     have hm8:m<=7:=by omega
     have hmk0:=run_make_row' (P:=prog) 26 35 (.slice none 0 0) 24 underlying26 Tryz.infoSlI64 rfl .i64 .i64 m (by omega) (by omega);have hmk1:=run_make_row' (P:=prog) 35 2 (.int .i64 0) 8 underlying35 Tryz.infoI64 rfl .i64 .i64 m (by omega) (by omega);have hsub:((stg.length:Int)-1)=(m:Int):=by omega
     have hmkA: ∀w:World,(Instr.makeSlice 26 (.int .i64 ((stg.length:Int)-1)) (.int .i64 ((stg.length:Int)-1))).run prog w= .ok (.slice (some ⟨w.heap.size,0,none⟩) m m) (w.alloc (.cells (madeCells #[.slice none 0 0] m) 35)):=by rw[hsub];exact hmk0
     clear hmk0 hsub;have HM:=acg hm;have hmle:m<stg.length:=by omega
     have hmge:stg.length<=m+1:=by omega
     clear hm
     go_wp2_with (go_at_call 86;refine(pq _ cap stg _ HR.out (by omega) hcap (by omega) (fun i hi=>by rw[HSq.out i hi];omega)).mono ?_;rintro e w' ⟨rfl,rfl⟩)
     clear hmkA hPd;obtain⟨wo,rfl⟩: ∃wo:World,wo=wr:=⟨_,rfl⟩
     go_loopw [32,7,8,9] (fun i _ _ _ wx=> ∃(r:Nat) (g:Nat->Nat),r<=m/\i= .int .i64 r/\Hid (X6 wo wx 35 2 m m r g (fun i j=> .int .i64 (Wn stg last i j)))) (fun i _ _ _ _=>m-(intOf i).toNat)
     case atStart=>exact⟨0,fun _=>0,acL _,rfl,acg (OA wo _ _ m m _ _)⟩
     case round=>
      obtain⟨r,g,hr,rfl,HO⟩:=hrel;by_cases hrm:r<m
      ·have hbw:b<wo.heap.size:=xT (p:=⟨b,off,none⟩) hc1;obtain⟨b',off',b3,off3,c3,hbb,hc3,hcap3,hrow⟩:=HR.out.row_ HSq.out (i:=r+1) (by omega);cases hbb;have g0:wr.cell? ⟨b,off+(r+1),none⟩=some (.slice (some ⟨b3,off3,none⟩) stg.length c3):=HO.out.ext.cell hc3;have hst1: ∀o,(wr.alloc o).cell? ⟨wo.heap.size,r,none⟩=some (.slice none 0 0):=fun o=>by
        have:=(HO.out.top.alloc o).cell hrm;simp_all
       have hst2: ∀o,(wr.alloc o).frozen? ⟨wo.heap.size,r,none⟩=false:=fun o=>(HO.out.top.alloc o).frozen r
       have HRow:=acg hrow;clear hrow
       go_wp2_with fail
       have HI0:=acg (Oz (.int .i64 0) HO.out);clear hst1 hst2 g0 hmk1;obtain⟨g',HI,hg'⟩: ∃g':Nat->Nat,Hid (U3 wo ((wr.alloc (.cells (madeCells #[.int .i64 0] m) 2)).setCell ⟨wo.heap.size,r,none⟩ (.slice (some ⟨wr.heap.size,0,none⟩) m m)) 35 2 m m r 0 g' (fun i j=> .int .i64 (Wn stg last i j)) (.int .i64 0))/\Hid (g' r=wr.heap.size):=⟨_,HI0,acg (by simp)⟩;clear HI0
       go_loopw [48,9] (fun i _ wx=> ∃(l:Nat),l<=m/\i= .int .i64 l/\Hid (U3 wo wx 35 2 m m r l g' (fun i j=> .int .i64 (Wn stg last i j)) (.int .i64 0))) (fun i _ _=>m-(intOf i).toNat)
       case atStart=>exact⟨0,acL _,rfl,HI⟩
       case round=>
        clear HI;obtain⟨l,hl,rfl,HI⟩:=hrel;by_cases hlm:l<m
        ·have t1:wr.cell? ⟨wo.heap.size,r,none⟩=some (.slice (some ⟨g' r,0,none⟩) m m):=by rw[HI.out.top.cell hrm,if_pos (by omega)]
         have t2:wr.cell? ⟨b3,off3+(l+1),none⟩=some (.int .i64 (ent stg (r+1) (l+1))):=HI.out.ext.cell (HRow.out (l+1) (by omega));have t3:wr.cell? ⟨b3,off3,none⟩=some (.int .i64 (ent stg (r+1) 0)):=HI.out.ext.cell (HRow.out 0 (by omega));have t4:wr.cell? ⟨b,off,none⟩=some (.slice (some ⟨b2,off2,none⟩) stg.length c2):=HI.out.ext.cell hc1;have t5:wr.cell? ⟨b2,off2+(l+1),none⟩=some (.int .i64 (ent stg 0 (l+1))):=by
          obtain⟨b',off',b4,off4,c4,hbb,hc4,_,hrow4⟩:=HR.out.row_ HSq.out (i:=0) (by omega);cases hbb;rw[ac9,hc1]at hc4;injection hc4 with hc4
          injection hc4 with hc4 _ _
          injection hc4 with hc4
          injection hc4 with e1 e2 _
          subst e1 e2;exact HI.out.ext.cell (hrow4 (l+1) (by omega))
         have t6:wr.cell? ⟨g' r,l,none⟩=some (.int .i64 0):=by rw[HI.out.cur.cell hlm,if_neg (by omega)]
         have t7:wr.frozen? ⟨g' r,l,none⟩=false:=HI.out.cur.frozen l;have hl2:(l:Int)+1<(stg.length:Int):=by omega
         have hl3:l+1<stg.length:=by omega
         have hlast:(last==0)=false:=by simp;omega
         go_wp2_with fail
         go_big_region
         go_wp2_with fail
         go_roundw
         case rel=>exact⟨l+1,by omega,by go_num,acg ((SE HI.out rfl).drew)⟩
         case measure=>simp[intOf];omega
        go_wp2_with fail
        go_roundw
        case rel=>exact⟨r+1,g',by omega,by go_num,acg (SD HI.out (by omega))⟩
        case measure=>simp[intOf];omega
      have hrm':m<=r:=by omega
      have u0:wr.cell? ⟨wo.heap.size,0,none⟩=some (.slice (some ⟨g 0,0,none⟩) m m):=by rw[HO.out.top.cell (by omega),if_pos (by omega)]
      have u1:wr.cell? ⟨g 0,0,none⟩=some (.int .i64 (Wn stg last 0 0)):=by rw[(HO.out.done 0 (by omega)).cell (by omega)]
      obtain⟨b',off',b3,off3,c3,hbb,hc3,hcap3,hrow⟩:=HR.out.row_ HSq.out (i:=1) (by omega);cases hbb;have u2':wr.cell? ⟨b,off+1,none⟩=some (.slice (some ⟨b3,off3,none⟩) stg.length c3):=HO.out.ext.cell hc3;have u3:wr.cell? ⟨b3,off3,none⟩=some (.int .i64 (ent stg 1 0)):=HO.out.ext.cell (by simp);clear hrow hmk1;by_cases hL:IH stg last
      ·have hL':=hL;unfold IH at hL'
       go_wp2_with fail
       go_ret
       exact⟨jz (by
        rw[HF.out,<- HQ.out];obtain⟨f,hf⟩: ∃f,stg.length=f+1:=⟨stg.length-1,by omega⟩;rw[hf,uJ,if_neg (by omega),if_pos HP.out,if_pos hL]),HE.out.trans HO.out.ext⟩
      have hL':=hL;unfold IH at hL'
      go_wp2_with fail
      go_roundw
      case rel=>
       have hlen2:(Wo stg last).length=m:=by unfold Wo;rw[rI,HM.out];rfl
       refine⟨some ⟨wo.heap.size,0,none⟩,m,Wo stg last,ent stg 0 0,by rw[hlen2],rfl,by omega,by omega,by omega,by omega,by omega,acg (Sq.nx _ _),acg ?_,acg (HE.out.trans HO.out.ext),acg ?_⟩
       ·have:=HO.out.rd hrm' (by omega);unfold Wo;rw[HM.out];exact this
       rw[<- HQ.out,hlen2]
       conv=>rhs;rw[HM.out,uJ,if_neg (by omega),if_pos HP.out,if_neg hL]
      simp_all[YJ]
    have hPd:decide (nZ stg)=false:=by simp[hP]
    have HF2:Hid (uJ stg.length stg last=false):=acg (by
     obtain⟨f,hf⟩: ∃f,stg.length=f+1:=⟨stg.length-1,by omega⟩;grind [uJ])
    go_wp2_with (go_at_call 86;refine(pq _ cap stg _ HR.out (by omega) hcap (by omega) (fun i hi=>by rw[HSq.out i hi];omega)).mono ?_;rintro e w' ⟨rfl,rfl⟩)
    go_ret
    exact⟨jz (by rw[HF.out,<- HQ.out,HF2.out]),HE.out⟩
   have hst:stg.length=1:=by omega
   obtain⟨b,off,b2,off2,c2,rfl,hc1,hcap2,hc2⟩:=HR.out.ent_ HSq.out (i:=0) (j:=0) (by omega) (by omega);rw[ac9]at hc1 hc2;have HF2:Hid (uJ stg.length stg last=(decide (0<ent stg 0 0)&&decide (ent stg 0 0<=10000))):=acg (by grind [uJ]);clear hst;by_cases h0:0<ent stg 0 0
   ·go_wp2_with fail
    go_ret
    exact⟨jz (by rw[HF.out,<- HQ.out,HF2.out];simp[h0]),HE.out⟩
   have h0':decide (0<ent stg 0 0)=false:=by grind
   go_wp2_with fail
   go_ret
   exact⟨jz (by rw[HF.out,<- HQ.out,HF2.out,decide_eq_false (by omega)];rfl),HE.out⟩
 have hSd:decide (kR rows)=false:=by simp[hS]
 go_enter func36,ntmps36
 go_wp2_with (go_at_call 85;refine(xb A c rows _ HX.out lx).mono ?_;rintro e w' ⟨rfl,rfl⟩)
 go_ret
 simp_all[isReducedM,Ext.refl]
def tE (b x:List Int):Nat->Int
 |0=>0
 |l+1=>wrap64 (tE b x l+wrap64 (b.getD l 0*x.getD l 0))
def gR (c:List (List Int)) (x:List Int):List Int:=c.map fun b=>tE b x b.length
theorem Ck {i:Nat} {z:Int} (h:(gR b c)[i]?=some z): ∃e,b[i]?=some e/\z=tE e c e.length:=by
 grind [gR]
def Yi (b:List (List Int)) (x:List Int) (r l:Nat):Nat->Value:=
 fun j=>if j<r then .int .i64 (tE (b.getD j []) x (b.getD j []).length)else if j=r then .int .i64 (tE (b.getD j []) x l)else .int .i64 0
theorem yZ {j:Nat} (h:j<n):Yi b c n m j= .int .i64 (tE (b.getD j []) c (b.getD j []).length):=if_pos h
theorem DE:Yi b c n m n= .int .i64 (tE (b.getD n []) c m):=by
 grind [Yi]
theorem I5 {j:Nat} (h:n<j):Yi b c n m j= .int .i64 0:=by
 grind [Yi]
theorem NH (A B:Option Addr) (c d:Nat) (rows:List (List Int)) (x:List Int) (w:World) (hR:vy .i64 w A rows) (hx:RdI .i64 w B x) (hn:rows.length<=65536) (hl: ∀i,i<rows.length->(rows.getD i []).length<=x.length) (hlx:x.length<=9223372036854775807):
  Calls prog 134 #[.slice A rows.length c,.slice B x.length d] w fun e w'=>e= .returned (.slice (some ⟨w.heap.size,0,none⟩) rows.length rows.length)/\RdI .i64 w' (some ⟨w.heap.size,0,none⟩) (gR rows x)/\Ext w w':=by
 have HR:=acg hR;have HX:=acg hx;have HL:=acg hl;clear hR hx hl;have hmk:=run_make_row' (P:=prog) 35 2 (.int .i64 0) 8 underlying35 Tryz.infoI64 rfl .i64 .i64 rows.length (by omega) (by omega)
 go_enter func134,ntmps134
 go_wp2_with fail
 clear hmk
 go_loopw [15,6,7,8,9] (fun i _ _ _ _ wr=> ∃r:Nat,r<=rows.length/\i= .int .i64 r/\Hid (wr.rowIs w.heap.size 2 rows.length (Yi rows x r 0))/\Hid (Ext w wr)) (fun i _ _ _ _ _=>rows.length-(intOf i).toNat)
 case atStart=>exact⟨0,acL _,rfl,acg ((afu w (.int .i64 0) rows.length _).congr (fun j _=>by simp[Yi,tE])),acg ((Ext.refl _).alloc _)⟩
 case round=>
  obtain⟨r,hr,rfl,HO,HE⟩:=hrel;by_cases hlt:r<rows.length
  ·obtain⟨row,ha⟩:=getElem?_of_lt hlt;obtain⟨b,off,BR,cr,rfl,hc,hcr,hlr,hrow⟩:=(HR.out.ext HE.out).at_ ha;have hrl:row.length<=x.length:=by have:=HL.out r hlt;grind
   have HA:=acg ha;have HD:Hid (rows.getD r []=row):=acg (by grind);have HB:Hid (RdI .i64 w BR row):=acg (by
    obtain⟨b',off',BR',cr',h1,h2,_,_,h5⟩:=HR.out.at_ ha;cases h1;rw[HE.out.cell h2]at hc;grind)
   clear ha hrow
   go_wp2_with fail
   obtain⟨wo,rfl⟩: ∃wo:World,wo=wr:=⟨_,rfl⟩
   go_loopw [22,8,9] (fun i _ _ wx=> ∃l:Nat,l<=row.length/\i= .int .i64 l/\Hid (wx.rowIs w.heap.size 2 rows.length (Yi rows x r l))/\Hid (Ext w wx)) (fun i _ _ _=>row.length-(intOf i).toNat)
   case atStart=>exact⟨0,acL _,rfl,HO,HE⟩
   case round=>
    clear HO HE hc;obtain⟨l,hl,rfl,HO,HE⟩:=hrel;by_cases hll:l<row.length
    ·obtain⟨a,ha⟩:=getElem?_of_lt hll;obtain⟨b2,off2,rfl,hc2⟩:=(HB.out.ext HE.out).at_ ha;obtain⟨a3,ha3⟩:=getElem?_of_lt (l:=x) (k:=l) (by omega);obtain⟨b3,off3,rfl,hc3⟩:=(HX.out.ext HE.out).at_ ha3;have t1:wr.cell? ⟨w.heap.size,r,none⟩=some (.int .i64 (tE row x l)):=by
      rw[HO.out.cell hlt,DE,HD.out]
     have t2:wr.frozen? ⟨w.heap.size,r,none⟩=false:=HO.out.frozen r;have HN:Hid (wrap64 (tE row x l+wrap64 (a*a3))=tE row x (l+1)):=acg (by
      grind [tE])
     have hlx2:(l:Int)<(x.length:Int):=by omega
     have HA2:=acg ha;clear ha ha3
     go_wp2_with fail
     go_big_region
     go_wp2_with fail
     go_roundw
     case rel=>
      refine⟨l+1,by omega,by go_num,acg ((((HO.out.set r _).congr (fun j _=>?_))).drew),acg ((HE.out.setCell (acs _) _).drew)⟩;by_cases e:j=r
      ·subst e;rw[if_pos rfl,DE,HD.out,HN.out]
      grind [yZ,I5]
     grind [intOf]
    go_wp2_with fail
    go_roundw
    case rel=>
     refine⟨r+1,by omega,by go_num,acg (HO.out.congr (fun j _=>?_)),HE⟩;have:l=row.length:=by omega
     subst this;rcases adE j r with h|h|h
     ·rw[yZ h,yZ (by omega)]
     ·subst h;rw[DE,yZ (by omega),HD.out]
     rw[I5 h];by_cases e:j=r+1
     ·subst e;rw[DE];rfl
     grind [I5]
    case measure=>simp[intOf];omega
  go_wp2_with fail
  go_ret
  refine⟨rfl,RdI.of_row HO.out (by simp[gR]) (fun i z hz=>?_),HE.out⟩;grind [Ck,yZ]
theorem Ci (x y c:Int) (f:0<=x) (g:x<18446744073709551616) (h:0<=y) (j:y<18446744073709551616) (b:0<=c) (l:c<=1) (w:World):(callFunc 227 #[.int .u64 x,.int .u64 y,.int .u64 c]).run prog w=
  .ok (.value (.tuple #[.int .u64 ((x+y+c)%18446744073709551616),.int .u64 ((x+y+c)/18446744073709551616)])) w:=by
 obtain⟨x,rfl⟩:=acO f;obtain⟨y,rfl⟩:=acO h;obtain⟨c,rfl⟩:=acO b;rw[run_callFunc_extern func227 (by kernel_rfl) (by kernel_rfl) (by kernel_rfl) (e:=add64Entry) (by kernel_rfl),run_add64 x y c (by omega) (by omega) (by omega) (by omega)];rfl
theorem De (x y b:Int) (h:0<=x) (j:0<=y) (l:y<18446744073709551616) (c:0<=b) (m:b<=1) (w:World):(callFunc 228 #[.int .u64 x,.int .u64 y,.int .u64 b]).run prog w=
  .ok (.value (.tuple #[.int .u64 ((x-y-b)%18446744073709551616),.int .u64 (if x<y+b then 1 else 0)])) w:=by
 obtain⟨x,rfl⟩:=acO h;obtain⟨y,rfl⟩:=acO j;obtain⟨b,rfl⟩:=acO c;have f:(((x+18446744073709551616-y-b)%18446744073709551616:Nat):Int)=((x:Int)-y-b)%18446744073709551616:=by omega
 have g:((if x<y+b then 1 else 0:Nat):Int)=if(x:Int)<y+b then 1 else 0:=by grind
 rw[<- f,<- g];rw[run_callFunc_extern func228 (by kernel_rfl) (by kernel_rfl) (by kernel_rfl) (e:=sub64Entry) (by kernel_rfl),run_sub64 x y b (by omega)];rfl
theorem Ow (x y:Nat) (hx:x<18446744073709551616) (hy:y<18446744073709551616) (w:World):
  Calls prog 226 #[.int .u64 x,.int .u64 y] w fun e w'=>e= .returned (.tuple #[.int .u64 ((x*y/18446744073709551616:Nat):Int),.int .u64 ((x*y%18446744073709551616:Nat):Int)])/\w=w':=by
 obtain⟨bd,bt,bw,hhi⟩:=Lib.mul64_hi x y hx hy;have ba:=Lib.half_mul_le (a:=x/4294967296) (b:=y/4294967296) (by omega) (by omega);have bb:=Lib.half_mul_le (a:=x/4294967296) (b:=y%4294967296) (by omega) (by omega);have bc:=Lib.half_mul_le (a:=x%4294967296) (b:=y/4294967296) (by omega) (by omega);have ba':x/4294967296*(y/4294967296)<18446744073709551616:=by omega
 have bb':x/4294967296*(y%4294967296)<18446744073709551616:=by omega
 have bc':x%4294967296*(y/4294967296)<18446744073709551616:=by omega
 have bh1:x/4294967296*(y/4294967296)+(x/4294967296*(y%4294967296)+x%4294967296*(y%4294967296)/4294967296)/4294967296<18446744073709551616:=by omega
 have bh:x/4294967296*(y/4294967296)+(x/4294967296*(y%4294967296)+x%4294967296*(y%4294967296)/4294967296)/4294967296+((x/4294967296*(y%4294967296)+x%4294967296*(y%4294967296)/4294967296)%4294967296+x%4294967296*(y/4294967296))/4294967296<18446744073709551616:=by omega
 go_enter func226,ntmps226
 go_wp2
 simp only[Mul64.maskN x hx,Mul64.maskN y hy,Mul64.divN,Mul64.mulN,Mul64.addN,Mul64.wrapN _ bd,Mul64.wrapN _ bb',Mul64.wrapN _ bt,Mul64.maskN _ bt,Mul64.wrapN _ bc',Mul64.wrapN _ bw,Mul64.wrapN _ ba',Mul64.wrapN _ bh1,Mul64.wrapN _ bh,Mul64.wrapM (x*y)];rw[hhi]
 go_ret2
 simp
def wd (n:Nat):Value:= .agg #[.int .u64 ((n/18446744073709551616:Nat):Int),.int .u64 ((n%18446744073709551616:Nat):Int)]
theorem I4 (x y:Int) (e:0<=x) (b:x<18446744073709551616) (f:0<=y) (c:y<18446744073709551616) (w:World):(callFunc 227 #[.int .u64 x,.int .u64 y,.int .u64 0]).run prog w=
  .ok (.value (.tuple #[.int .u64 ((x+y)%18446744073709551616),.int .u64 ((x+y)/18446744073709551616)])) w:=by
 grind [Ci]
theorem Iy (n x y:Nat) (hx:x<18446744073709551616) (hy:y<18446744073709551616) (hn:n+x*y<340282366920938463463374607431768211456) (w:World):
  Calls prog 194 #[wd n,.int .u64 x,.int .u64 y] w fun e w'=>e= .returned (wd (n+x*y))/\Ext w w':=by
 have hp:x*y/18446744073709551616<18446744073709551616:=by omega
 obtain⟨nh,hnh⟩: ∃k:Nat,k=n/18446744073709551616:=⟨_,rfl⟩;obtain⟨nl,hnl⟩: ∃k:Nat,k=n%18446744073709551616:=⟨_,rfl⟩;obtain⟨ph,hph⟩: ∃k:Nat,k=x*y/18446744073709551616:=⟨_,rfl⟩;obtain⟨pl,hpl⟩: ∃k:Nat,k=x*y%18446744073709551616:=⟨_,rfl⟩;have b1:(nh:Int)<18446744073709551616:=by omega
 have b2:(nl:Int)<18446744073709551616:=by omega
 have b3:(ph:Int)<18446744073709551616:=by omega
 have b4:(pl:Int)<18446744073709551616:=by omega
 have c1:0<=((nl:Int)+(pl:Int))/18446744073709551616:=by omega
 have c2:((nl:Int)+(pl:Int))/18446744073709551616<=1:=by omega
 have HM:=acg (Ow x y hx hy);have HLo:Hid (((nl:Int)+(pl:Int))%18446744073709551616=((n:Int)+(x:Int)*(y:Int))%18446744073709551616):=acg (by
  omega)
 have HHi:Hid (((nh:Int)+(ph:Int)+((nl:Int)+(pl:Int))/18446744073709551616)%18446744073709551616=((n:Int)+(x:Int)*(y:Int))/18446744073709551616):=acg (by
  omega)
 unfold wd;rw[<- hnh,<- hnl]at*
 rw[<- hph,<- hpl]at*
 have e1:=I4 nl pl (by omega) b2 (by omega) b4;have e2:=Ci nh ph _ (by omega) b1 (by omega) b3 c1 c2;clear hnh hnl hph hpl hn hp
 go_enter func194,ntmps194
 go_wp2_with (first|(go_at_call 226;refine(HM.out _).mono ?_;rintro e w' ⟨rfl,rfl⟩)|simp only[e1]|simp only[e2])
 refine bodyPost_ret (v:= .agg #[.int .u64 ((((n+x*y)/18446744073709551616:Nat):Int)),.int .u64 ((((n+x*y)%18446744073709551616:Nat):Int))]) ?_ rfl ⟨rfl,?_⟩
 ·simp[results,results194,go_sem];exact⟨HHi.out,HLo.out⟩
 exact((Ext.refl _).alloc _).alloc _
def Lk (n m:Nat):Option Nat:=if m<=n/\n-m<=4611686018427387904 then some (n-m)else none
def jH (n m:Nat):Value:=match Lk n m with
 |some k=> .tuple #[.int .i64 k,.bool true]
 |none=> .tuple #[.int .i64 0,.bool false]
theorem jI (h: ¬(m<=n/\n-m<=4611686018427387904)):jH n m= .tuple #[.int .i64 0,.bool false]:=by
 grind [jH,Lk]
theorem pm (h:m<=n/\n-m<=4611686018427387904) {d:Int} (b:((n-m:Nat):Int)=d):jH n m= .tuple #[.int .i64 d,.bool true]:=by
 grind [jH,Lk]
theorem KH (x y:Int) (c:0<=x) (e:0<=y) (b:y<18446744073709551616) (w:World):(callFunc 228 #[.int .u64 x,.int .u64 y,.int .u64 0]).run prog w=
  .ok (.value (.tuple #[.int .u64 ((x-y)%18446744073709551616),.int .u64 (if x<y then 1 else 0)])) w:=by
 grind [De]
theorem BU (n m:Nat) (hn:n<340282366920938463463374607431768211456) (hm:m<340282366920938463463374607431768211456) (w:World):
  Calls prog 195 #[wd n,wd m] w fun e w'=>e= .returned (jH n m)/\Ext w w':=by
 obtain⟨nh,hnh⟩: ∃k:Nat,k=n/18446744073709551616:=⟨_,rfl⟩;obtain⟨nl,hnl⟩: ∃k:Nat,k=n%18446744073709551616:=⟨_,rfl⟩;obtain⟨mh,hmh⟩: ∃k:Nat,k=m/18446744073709551616:=⟨_,rfl⟩;obtain⟨ml,hml⟩: ∃k:Nat,k=m%18446744073709551616:=⟨_,rfl⟩;have b1:(nh:Int)<18446744073709551616:=by omega
 have b2:(nl:Int)<18446744073709551616:=by omega
 have b3:(mh:Int)<18446744073709551616:=by omega
 have b4:(ml:Int)<18446744073709551616:=by omega
 have HE:Hid (n=nh*18446744073709551616+nl/\m=mh*18446744073709551616+ml):=acg (by omega);obtain⟨V,hV⟩: ∃V,V=jH n m:=⟨_,rfl⟩;unfold wd;rw[<- hnh,<- hnl,<- hmh,<- hml,<- hV];have HV:=acg hV;clear hnh hnl hmh hml hV hn hm;have e1:=KH nl ml (by omega) (by omega) b4;obtain⟨b,hb⟩: ∃b:Int,b=if(nl:Int)<ml then 1 else 0:=⟨_,rfl⟩
 have hb':b=0/\(ml:Int)<=nl\/b=1/\(nl:Int)<ml:=by omega
 have hb0:0<=b:=by omega
 have hb1:b<=1:=by omega
 have e2:=De nh mh b (by omega) (by omega) b3 hb0 hb1;rw[<- hb]at e1;clear hb;obtain⟨dl,hdl⟩: ∃k:Int,k=((nl:Int)-ml)%18446744073709551616:=⟨_,rfl⟩;obtain⟨dh,hdh⟩: ∃k:Int,k=((nh:Int)-mh-b)%18446744073709551616:=⟨_,rfl⟩;obtain⟨b2',hb2⟩: ∃k:Int,k=if(nh:Int)<mh+b then 1 else 0:=⟨_,rfl⟩
 rw[<- hdl]at e1;rw[<- hdh,<- hb2]at e2;have d0:0<=dl:=by omega
 have d1:dl<18446744073709551616:=by omega
 have d2:0<=dh:=by omega
 have d3:dh<18446744073709551616:=by omega
 have HD:=acg (ace hdl (ace hdh (ace hb2 hb')));clear hdl hdh hb2 hb';by_cases g1:b2'=0
 ·have g1':(b2' !=0)=false:=by simp[g1]
  have G1:=acg g1;clear g1;by_cases g2:dh=0
  ·have g2':(dh !=0)=false:=by simp[g2]
   have G2:=acg g2;clear g2;by_cases g3:4611686018427387904<dl
   ·go_enter func195,ntmps195
    go_wp2_with (first|simp only[e1]|simp only[e2])
    go_ret2
    refine⟨?_,((Ext.refl _).alloc _).alloc _⟩;rw[HV.out];obtain⟨q1,q2,q3,q4⟩:=HD.out;obtain⟨q5,q6⟩:=HE.out;have q7:=G1.out;have q8:=G2.out
    (rw[jI (by omega)])<;>rfl
   go_enter func195,ntmps195
   go_wp2_with (first|simp only[e1]|simp only[e2])
   go_ret2
   refine⟨?_,((Ext.refl _).alloc _).alloc _⟩;rw[HV.out];obtain⟨q1,q2,q3,q4⟩:=HD.out;obtain⟨q5,q6⟩:=HE.out;have q7:=G1.out;have q8:=G2.out
   (rw[pm (by omega) (d:=dl) (by omega)])<;>rfl
  have g2':(dh !=0)=true:=by simp[g2]
  go_enter func195,ntmps195
  go_wp2_with (first|simp only[e1]|simp only[e2])
  go_ret2
  refine⟨?_,((Ext.refl _).alloc _).alloc _⟩;rw[HV.out];obtain⟨q1,q2,q3,q4⟩:=HD.out;obtain⟨q5,q6⟩:=HE.out;have q7:=G1.out
  (rw[jI (by omega)])<;>rfl
 have g1':(b2' !=0)=true:=by simp[g1]
 go_enter func195,ntmps195
 go_wp2_with (first|simp only[e1]|simp only[e2])
 go_ret2
 refine⟨?_,((Ext.refl _).alloc _).alloc _⟩;rw[HV.out];obtain⟨q1,q2,q3,q4⟩:=HD.out;obtain⟨q5,q6⟩:=HE.out
 (rw[jI (by omega)])<;>rfl
end Go.Proofs.YtalmoejhjceflaaGreat
