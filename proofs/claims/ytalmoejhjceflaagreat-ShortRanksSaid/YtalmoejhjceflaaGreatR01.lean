/-
  Part 2 of a proof (walks and plain facts).
-/
import Derived.Test.YtalmoejhjceflaaGreatR00
import Derived.Shelf.Spec.BitsCarry
import Derived.Shelf.Bits.Mul64
set_option linter.all false
set_option maxRecDepth 100000
set_option maxHeartbeats 64000000
namespace Go.Proofs.YtalmoejhjceflaaGreat
open Go.RowKit Go.Proofs.Tryz
variable {b:List (List Int)} {n m:Nat} {c:List Int}
theorem Tryz.infoI64:(prog.info? 2).map (fun i=>(i.zero,i.size,i.bytes))=some (some (.int .i64 0),1,8):=by kernel_rfl
theorem Tryz.infoSlI64:(prog.info? 35).map (fun i=>(i.zero,i.size,i.bytes))=some (some (.slice none 0 0),1,24):=by kernel_rfl
def Th (b:List (List Int)) (last:Int) (i j:Nat):Int:=
 wrap64 (Int.tdiv (wrap64 (wrap64 (ent b 0 0*ent b (i+1) (j+1))-wrap64 (ent b (i+1) 0*ent b 0 (j+1)))) last)
def Ti (b:List (List Int)) (last:Int):List (List Int):=mB (b.length-1) (b.length-1) (Th b last)
def Fp (b:List (List Int)) (last:Int):Prop:=
 wrap64 (4*wrap64 (wrap64 (last*Th b last 0 0)+wrap64 (ent b 1 0*ent b 1 0)))<wrap64 (3*ent b 0 0*ent b 0 0)
instance (stg:List (List Int)) (last:Int):Decidable (Fp stg last):=inferInstanceAs (Decidable (_<_))
def rj:Nat->List (List Int)->Int->Bool
 |0,_,_=>false
 |f+1,b,last=>
  if b.length<=1 then decide (0<ent b 0 0)&&decide (ent b 0 0<=10000)
  else if l7 b then(if Fp b last then false else rj f (Ti b last) (ent b 0 0))else false
def isReducedM (b:List (List Int)):Bool:=decide (jl b)&&rj b.length b 1
def Vj:Value->Nat| .slice _ n _=>n|_=>0
def Sq (b:List (List Int)):Prop:= ∀i,i<b.length->(b.getD i []).length=b.length
theorem Sq.at_ (h:Sq b) {i:Nat} (f:b[i]?=some c):c.length=b.length:=by
 have e:i<b.length:=by
  grind
 have:=h i e;grind
theorem Sq.nx (b:List (List Int)) (last:Int):Sq (Ti b last):=by
 intro i c;grind [Ti,mB]
theorem oP.ent_ {w:World} {A:Option Addr} (h:oP .i64 w A b) (v:Sq b) {i j:Nat} (s:i<b.length) (z:j<b.length):
  ∃e g m f c,A=some ⟨e,g,none⟩/\w.cell? ⟨e,g+i,none⟩=some (.slice (some ⟨m,f,none⟩) b.length c)/\b.length<=c/\w.cell? ⟨m,f+j,none⟩=some (.int .i64 (ent b i j)):=by
 obtain⟨r,o⟩:=getElem?_of_lt s;obtain⟨e,g,B,x,rfl,y,q,t,u⟩:=h.at_ o;have C:=v.at_ o;obtain⟨a,n⟩:=getElem?_of_lt (l:=r) (k:=j) (by omega);obtain⟨m,f,rfl,p⟩:=u.at_ n;grind [pA]
theorem oP.row_ {w:World} {A:Option Addr} (h:oP .i64 w A b) (v:Sq b) {i:Nat} (s:i<b.length):
  ∃f l m g c,A=some ⟨f,l,none⟩/\w.cell? ⟨f,l+i,none⟩=some (.slice (some ⟨m,g,none⟩) b.length c)/\b.length<=c/\ ∀j,j<b.length->w.cell? ⟨m,g+j,none⟩=some (.int .i64 (ent b i j)):=by
 obtain⟨r,n⟩:=getElem?_of_lt s;obtain⟨f,l,B,o,rfl,x,q,t,u⟩:=h.at_ n;have z:=v.at_ n;obtain⟨m,g,rfl,p⟩:=u (by
  intro e;have:=congrArg List.length e;grind)
 refine⟨f,l,m,g,o,rfl,by grind,by omega,fun j y=>?_⟩;grind [pA]
theorem gf (A:Option Addr) (c:Nat) (rows:List (List Int)) (w:World) (hx:oP .i64 w A rows) (lx:rows.length<=9223372036854775807) (hcap:rows.length<=c):
  Calls prog 36 #[.slice A rows.length c] w fun e w'=>e= .returned (.bool (isReducedM rows))/\Ext w w':=by
 have HX:=aal hx;clear hx;by_cases hS:jl rows
 ·have hSd:decide (jl rows)=true:=by simp[hS]
  have HS:=aal hS;have hn1:1<=rows.length:=hS.1;have hn8:rows.length<=8:=hS.2.1;have HF:Hid (isReducedM rows=rj rows.length rows 1):=aal (by simp[isReducedM,hS]);clear hS
  go_enter func36,ntmps36
  go_wp2_with (go_at_call 85;refine(tK A c rows _ HX.out lx).mono ?_;rintro e w' ⟨rfl,rfl⟩)
  clear hSd
  go_loopw [3,4,5,6,7,8,9,10] (fun s l _ _ _ _ _ _ wr=> ∃(B:Option Addr) (cap:Nat) (stg:List (List Int)) (last:Int),s= .slice B stg.length cap/\l= .int .i64 last/\1<=stg.length/\stg.length<=8/\stg.length<=cap/\1<=last/\last<65536/\Hid (Sq stg)/\Hid (oP .i64 wr B stg)/\Hid (Ext w wr)/\Hid (rj stg.length stg last=rj rows.length rows 1))
   (fun s _ _ _ _ _ _ _ _=>Vj s)
  case atStart=>exact⟨A,c,rows,1,rfl,rfl,hn1,hn8,hcap,by omega,by omega,aal HS.out.2.2.1,HX,aal (Ext.refl _),aal rfl⟩
  case round=>
   clear HX HS hn1 hn8 hcap;obtain⟨B,cap,stg,last,rfl,rfl,h1,h8,hcap,hl0,hl1,HSq,HR,HE,HQ⟩:=hrel;by_cases hlen:1<stg.length
   ·obtain⟨b,off,b2,off2,c2,rfl,hc1,hcap2,hc2⟩:=HR.out.ent_ HSq.out (i:=0) (j:=0) (by omega) (by omega);rw[aa5]at hc1 hc2;by_cases hP:l7 stg
    ·have hPd:decide (l7 stg)=true:=by simp[hP]
     have hd0:0<ent stg 0 0:=hP.1;have hd1:ent stg 0 0<65536:=hP.2.1;have HP:=aal hP;clear hP;obtain⟨m,hm⟩: ∃m,stg.length=m+1:=⟨stg.length-1,by omega⟩;have hm1:1<=m:=by omega
     have hm8:m<=7:=by omega
     have hmk0:=run_make_row' (P:=prog) 26 35 (.slice none 0 0) 24 underlying26 Tryz.infoSlI64 rfl .i64 .i64 m (by omega) (by omega);have hmk1:=run_make_row' (P:=prog) 35 2 (.int .i64 0) 8 underlying35 Tryz.infoI64 rfl .i64 .i64 m (by omega) (by omega);have hsub:((stg.length:Int)-1)=(m:Int):=by omega
     have hmkA: ∀w:World,(Instr.makeSlice 26 (.int .i64 ((stg.length:Int)-1)) (.int .i64 ((stg.length:Int)-1))).run prog w= .ok (.slice (some ⟨w.heap.size,0,none⟩) m m) (w.alloc (.cells (madeCells #[.slice none 0 0] m) 35)):=by rw[hsub];exact hmk0
     clear hmk0 hsub;have HM:=aal hm;have hmle:m<stg.length:=by omega
     have hmge:stg.length<=m+1:=by omega
     clear hm
     go_wp2_with (go_at_call 86;refine(mR _ cap stg _ HR.out (by omega) hcap (by omega) (fun i hi=>by rw[HSq.out i hi];omega)).mono ?_;rintro e w' ⟨rfl,rfl⟩)
     clear hmkA hPd;obtain⟨wo,rfl⟩: ∃wo:World,wo=wr:=⟨_,rfl⟩
     go_loopw [32,7,8,9] (fun i _ _ _ wx=> ∃(r:Nat) (g:Nat->Nat),r<=m/\i= .int .i64 r/\Hid (UN wo wx 35 2 m m r g (fun i j=> .int .i64 (Th stg last i j)))) (fun i _ _ _ _=>m-(intOf i).toNat)
     case atStart=>exact⟨0,fun _=>0,aaW _,rfl,aal (Lk wo _ _ m m _ _)⟩
     case round=>
      obtain⟨r,g,hr,rfl,HO⟩:=hrel;by_cases hrm:r<m
      ·have hbw:b<wo.heap.size:=mj (p:=⟨b,off,none⟩) hc1;obtain⟨b',off',b3,off3,c3,hbb,hc3,hcap3,hrow⟩:=HR.out.row_ HSq.out (i:=r+1) (by omega);cases hbb;have g0:wr.cell? ⟨b,off+(r+1),none⟩=some (.slice (some ⟨b3,off3,none⟩) stg.length c3):=HO.out.ext.cell hc3;have hst1: ∀o,(wr.alloc o).cell? ⟨wo.heap.size,r,none⟩=some (.slice none 0 0):=fun o=>by
        have:=(HO.out.top.alloc o).cell hrm;simp_all
       have hst2: ∀o,(wr.alloc o).frozen? ⟨wo.heap.size,r,none⟩=false:=fun o=>(HO.out.top.alloc o).frozen r
       have HRow:=aal hrow;clear hrow
       go_wp2_with fail
       have HI0:=aal (Lj (.int .i64 0) HO.out);clear hst1 hst2 g0 hmk1;obtain⟨g',HI,hg'⟩: ∃g':Nat->Nat,Hid (RL wo ((wr.alloc (.cells (madeCells #[.int .i64 0] m) 2)).setCell ⟨wo.heap.size,r,none⟩ (.slice (some ⟨wr.heap.size,0,none⟩) m m)) 35 2 m m r 0 g' (fun i j=> .int .i64 (Th stg last i j)) (.int .i64 0))/\Hid (g' r=wr.heap.size):=⟨_,HI0,aal (by simp)⟩;clear HI0
       go_loopw [48,9] (fun i _ wx=> ∃(l:Nat),l<=m/\i= .int .i64 l/\Hid (RL wo wx 35 2 m m r l g' (fun i j=> .int .i64 (Th stg last i j)) (.int .i64 0))) (fun i _ _=>m-(intOf i).toNat)
       case atStart=>exact⟨0,aaW _,rfl,HI⟩
       case round=>
        clear HI;obtain⟨l,hl,rfl,HI⟩:=hrel;by_cases hlm:l<m
        ·have t1:wr.cell? ⟨wo.heap.size,r,none⟩=some (.slice (some ⟨g' r,0,none⟩) m m):=by rw[HI.out.top.cell hrm,if_pos (by omega)]
         have t2:wr.cell? ⟨b3,off3+(l+1),none⟩=some (.int .i64 (ent stg (r+1) (l+1))):=HI.out.ext.cell (HRow.out (l+1) (by omega));have t3:wr.cell? ⟨b3,off3,none⟩=some (.int .i64 (ent stg (r+1) 0)):=HI.out.ext.cell (HRow.out 0 (by omega));have t4:wr.cell? ⟨b,off,none⟩=some (.slice (some ⟨b2,off2,none⟩) stg.length c2):=HI.out.ext.cell hc1;have t5:wr.cell? ⟨b2,off2+(l+1),none⟩=some (.int .i64 (ent stg 0 (l+1))):=by
          obtain⟨b',off',b4,off4,c4,hbb,hc4,_,hrow4⟩:=HR.out.row_ HSq.out (i:=0) (by omega);cases hbb;rw[aa5,hc1]at hc4;injection hc4 with hc4
          injection hc4 with hc4 _ _
          injection hc4 with hc4
          injection hc4 with e1 e2 _
          subst e1 e2;exact HI.out.ext.cell (hrow4 (l+1) (by omega))
         have t6:wr.cell? ⟨g' r,l,none⟩=some (.int .i64 0):=by rw[HI.out.cur.cell hlm,if_neg (by omega)]
         have t7:wr.frozen? ⟨g' r,l,none⟩=false:=HI.out.cur.frozen l;have hl2:(l:Int)+1<(stg.length:Int):=by omega
         have hl3:l+1<stg.length:=by omega
         have hlast:(last==0)=false:=by simp;omega
         go_wp2_with fail
         go_big_region
         go_wp2_with fail
         go_roundw
         case rel=>exact⟨l+1,by omega,by go_num,aal ((O7 HI.out rfl).drew)⟩
         case measure=>simp[intOf];omega
        go_wp2_with fail
        go_roundw
        case rel=>exact⟨r+1,g',by omega,by go_num,aal (O6 HI.out (by omega))⟩
        case measure=>simp[intOf];omega
      have hrm':m<=r:=by omega
      have u0:wr.cell? ⟨wo.heap.size,0,none⟩=some (.slice (some ⟨g 0,0,none⟩) m m):=by rw[HO.out.top.cell (by omega),if_pos (by omega)]
      have u1:wr.cell? ⟨g 0,0,none⟩=some (.int .i64 (Th stg last 0 0)):=by rw[(HO.out.done 0 (by omega)).cell (by omega)]
      obtain⟨b',off',b3,off3,c3,hbb,hc3,hcap3,hrow⟩:=HR.out.row_ HSq.out (i:=1) (by omega);cases hbb;have u2':wr.cell? ⟨b,off+1,none⟩=some (.slice (some ⟨b3,off3,none⟩) stg.length c3):=HO.out.ext.cell hc3;have u3:wr.cell? ⟨b3,off3,none⟩=some (.int .i64 (ent stg 1 0)):=HO.out.ext.cell (by simp);clear hrow hmk1;by_cases hL:Fp stg last
      ·have hL':=hL;unfold Fp at hL'
       go_wp2_with fail
       go_ret
       exact⟨fG (by
        rw[HF.out,<- HQ.out];obtain⟨f,hf⟩: ∃f,stg.length=f+1:=⟨stg.length-1,by omega⟩;rw[hf,rj,if_neg (by omega),if_pos HP.out,if_pos hL]),HE.out.trans HO.out.ext⟩
      have hL':=hL;unfold Fp at hL'
      go_wp2_with fail
      go_roundw
      case rel=>
       have hlen2:(Ti stg last).length=m:=by unfold Ti;rw[oV,HM.out];rfl
       refine⟨some ⟨wo.heap.size,0,none⟩,m,Ti stg last,ent stg 0 0,by rw[hlen2],rfl,by omega,by omega,by omega,by omega,by omega,aal (Sq.nx _ _),aal ?_,aal (HE.out.trans HO.out.ext),aal ?_⟩
       ·have:=HO.out.rd hrm' (by omega);unfold Ti;rw[HM.out];exact this
       rw[<- HQ.out,hlen2]
       conv=>rhs;rw[HM.out,rj,if_neg (by omega),if_pos HP.out,if_neg hL]
      simp_all[Vj]
    have hPd:decide (l7 stg)=false:=by simp[hP]
    have HF2:Hid (rj stg.length stg last=false):=aal (by
     obtain⟨f,hf⟩: ∃f,stg.length=f+1:=⟨stg.length-1,by omega⟩;grind [rj])
    go_wp2_with (go_at_call 86;refine(mR _ cap stg _ HR.out (by omega) hcap (by omega) (fun i hi=>by rw[HSq.out i hi];omega)).mono ?_;rintro e w' ⟨rfl,rfl⟩)
    go_ret
    exact⟨fG (by rw[HF.out,<- HQ.out,HF2.out]),HE.out⟩
   have hst:stg.length=1:=by omega
   obtain⟨b,off,b2,off2,c2,rfl,hc1,hcap2,hc2⟩:=HR.out.ent_ HSq.out (i:=0) (j:=0) (by omega) (by omega);rw[aa5]at hc1 hc2;have HF2:Hid (rj stg.length stg last=(decide (0<ent stg 0 0)&&decide (ent stg 0 0<=10000))):=aal (by grind [rj]);clear hst;by_cases h0:0<ent stg 0 0
   ·go_wp2_with fail
    go_ret
    exact⟨fG (by rw[HF.out,<- HQ.out,HF2.out];simp[h0]),HE.out⟩
   have h0':decide (0<ent stg 0 0)=false:=by grind
   go_wp2_with fail
   go_ret
   exact⟨fG (by rw[HF.out,<- HQ.out,HF2.out,decide_eq_false (by omega)];rfl),HE.out⟩
 have hSd:decide (jl rows)=false:=by simp[hS]
 go_enter func36,ntmps36
 go_wp2_with (go_at_call 85;refine(tK A c rows _ HX.out lx).mono ?_;rintro e w' ⟨rfl,rfl⟩)
 go_ret
 simp_all[isReducedM,Ext.refl]
def ql (row x:List Int):Nat->Int
 |0=>0
 |l+1=>wrap64 (ql row x l+wrap64 (row.getD l 0*x.getD l 0))
def fz (b:List (List Int)) (x:List Int):List Int:=b.map fun row=>ql row x row.length
theorem yY {i:Nat} {z:Int} (h:(fz b c)[i]?=some z): ∃row,b[i]?=some row/\z=ql row c row.length:=by
 grind [fz]
def UV (b:List (List Int)) (x:List Int) (r l:Nat):Nat->Value:=
 fun j=>if j<r then .int .i64 (ql (b.getD j []) x (b.getD j []).length)else if j=r then .int .i64 (ql (b.getD j []) x l)else .int .i64 0
theorem vM {j:Nat} (h:j<n):UV b c n m j= .int .i64 (ql (b.getD j []) c (b.getD j []).length):=if_pos h
theorem AK:UV b c n m n= .int .i64 (ql (b.getD n []) c m):=by
 grind [UV]
theorem FK {j:Nat} (h:n<j):UV b c n m j= .int .i64 0:=by
 grind [UV]
theorem Ks (A B:Option Addr) (c d:Nat) (rows:List (List Int)) (x:List Int) (w:World) (hR:oP .i64 w A rows) (hx:RdI .i64 w B x) (hn:rows.length<=65536) (hl: ∀i,i<rows.length->(rows.getD i []).length<=x.length) (hlx:x.length<=9223372036854775807):
  Calls prog 134 #[.slice A rows.length c,.slice B x.length d] w fun e w'=>e= .returned (.slice (some ⟨w.heap.size,0,none⟩) rows.length rows.length)/\RdI .i64 w' (some ⟨w.heap.size,0,none⟩) (fz rows x)/\Ext w w':=by
 have HR:=aal hR;have HX:=aal hx;have HL:=aal hl;clear hR hx hl;have hmk:=run_make_row' (P:=prog) 35 2 (.int .i64 0) 8 underlying35 Tryz.infoI64 rfl .i64 .i64 rows.length (by omega) (by omega)
 go_enter func134,ntmps134
 go_wp2_with fail
 clear hmk
 go_loopw [15,6,7,8,9] (fun i _ _ _ _ wr=> ∃r:Nat,r<=rows.length/\i= .int .i64 r/\Hid (wr.rowIs w.heap.size 2 rows.length (UV rows x r 0))/\Hid (Ext w wr)) (fun i _ _ _ _ _=>rows.length-(intOf i).toNat)
 case atStart=>exact⟨0,aaW _,rfl,aal ((ac8 w (.int .i64 0) rows.length _).congr (fun j _=>by simp[UV,ql])),aal ((Ext.refl _).alloc _)⟩
 case round=>
  obtain⟨r,hr,rfl,HO,HE⟩:=hrel;by_cases hlt:r<rows.length
  ·obtain⟨row,ha⟩:=getElem?_of_lt hlt;obtain⟨b,off,BR,cr,rfl,hc,hcr,hlr,hrow⟩:=(HR.out.ext HE.out).at_ ha;have hrl:row.length<=x.length:=by have:=HL.out r hlt;grind
   have HA:=aal ha;have HD:Hid (rows.getD r []=row):=aal (by grind);have HB:Hid (RdI .i64 w BR row):=aal (by
    obtain⟨b',off',BR',cr',h1,h2,_,_,h5⟩:=HR.out.at_ ha;cases h1;rw[HE.out.cell h2]at hc;grind)
   clear ha hrow
   go_wp2_with fail
   obtain⟨wo,rfl⟩: ∃wo:World,wo=wr:=⟨_,rfl⟩
   go_loopw [22,8,9] (fun i _ _ wx=> ∃l:Nat,l<=row.length/\i= .int .i64 l/\Hid (wx.rowIs w.heap.size 2 rows.length (UV rows x r l))/\Hid (Ext w wx)) (fun i _ _ _=>row.length-(intOf i).toNat)
   case atStart=>exact⟨0,aaW _,rfl,HO,HE⟩
   case round=>
    clear HO HE hc;obtain⟨l,hl,rfl,HO,HE⟩:=hrel;by_cases hll:l<row.length
    ·obtain⟨a,ha⟩:=getElem?_of_lt hll;obtain⟨b2,off2,rfl,hc2⟩:=(HB.out.ext HE.out).at_ ha;obtain⟨a3,ha3⟩:=getElem?_of_lt (l:=x) (k:=l) (by omega);obtain⟨b3,off3,rfl,hc3⟩:=(HX.out.ext HE.out).at_ ha3;have t1:wr.cell? ⟨w.heap.size,r,none⟩=some (.int .i64 (ql row x l)):=by
      rw[HO.out.cell hlt,AK,HD.out]
     have t2:wr.frozen? ⟨w.heap.size,r,none⟩=false:=HO.out.frozen r;have HN:Hid (wrap64 (ql row x l+wrap64 (a*a3))=ql row x (l+1)):=aal (by
      grind [ql])
     have hlx2:(l:Int)<(x.length:Int):=by omega
     have HA2:=aal ha;clear ha ha3
     go_wp2_with fail
     go_big_region
     go_wp2_with fail
     go_roundw
     case rel=>
      refine⟨l+1,by omega,by go_num,aal ((((HO.out.set r _).congr (fun j _=>?_))).drew),aal ((HE.out.setCell (aar _) _).drew)⟩;by_cases e:j=r
      ·subst e;rw[if_pos rfl,AK,HD.out,HN.out]
      grind [vM,FK]
     grind [intOf]
    go_wp2_with fail
    go_roundw
    case rel=>
     refine⟨r+1,by omega,by go_num,aal (HO.out.congr (fun j _=>?_)),HE⟩;have:l=row.length:=by omega
     subst this;rcases aby j r with h|h|h
     ·rw[vM h,vM (by omega)]
     ·subst h;rw[AK,vM (by omega),HD.out]
     rw[FK h];by_cases e:j=r+1
     ·subst e;rw[AK];rfl
     grind [FK]
    case measure=>simp[intOf];omega
  go_wp2_with fail
  go_ret
  refine⟨rfl,RdI.of_row HO.out (by simp[fz]) (fun i z hz=>?_),HE.out⟩;grind [yY,vM]
theorem yW (x y c:Int) (f:0<=x) (g:x<18446744073709551616) (h:0<=y) (j:y<18446744073709551616) (b:0<=c) (l:c<=1) (w:World):(callFunc 227 #[.int .u64 x,.int .u64 y,.int .u64 c]).run prog w=
  .ok (.value (.tuple #[.int .u64 ((x+y+c)%18446744073709551616),.int .u64 ((x+y+c)/18446744073709551616)])) w:=by
 obtain⟨x,rfl⟩:=aaK f;obtain⟨y,rfl⟩:=aaK h;obtain⟨c,rfl⟩:=aaK b;rw[run_callFunc_extern func227 (by kernel_rfl) (by kernel_rfl) (by kernel_rfl) (e:=add64Entry) (by kernel_rfl),run_add64 x y c (by omega) (by omega) (by omega) (by omega)];rfl
theorem Ak (x y b:Int) (h:0<=x) (j:0<=y) (l:y<18446744073709551616) (c:0<=b) (m:b<=1) (w:World):(callFunc 228 #[.int .u64 x,.int .u64 y,.int .u64 b]).run prog w=
  .ok (.value (.tuple #[.int .u64 ((x-y-b)%18446744073709551616),.int .u64 (if x<y+b then 1 else 0)])) w:=by
 obtain⟨x,rfl⟩:=aaK h;obtain⟨y,rfl⟩:=aaK j;obtain⟨b,rfl⟩:=aaK c;have f:(((x+18446744073709551616-y-b)%18446744073709551616:Nat):Int)=((x:Int)-y-b)%18446744073709551616:=by omega
 have g:((if x<y+b then 1 else 0:Nat):Int)=if(x:Int)<y+b then 1 else 0:=by grind
 rw[<- f,<- g];rw[run_callFunc_extern func228 (by kernel_rfl) (by kernel_rfl) (by kernel_rfl) (e:=sub64Entry) (by kernel_rfl),run_sub64 x y b (by omega)];rfl
theorem Lg (x y:Nat) (hx:x<18446744073709551616) (hy:y<18446744073709551616) (w:World):
  Calls prog 226 #[.int .u64 x,.int .u64 y] w fun e w'=>e= .returned (.tuple #[.int .u64 ((x*y/18446744073709551616:Nat):Int),.int .u64 ((x*y%18446744073709551616:Nat):Int)])/\w=w':=by
 obtain⟨bd,bt,bw,hhi⟩:=Lib.mul64_hi x y hx hy;have ba:=Lib.half_mul_le (a:=x/4294967296) (b:=y/4294967296) (by omega) (by omega);have bb:=Lib.half_mul_le (a:=x/4294967296) (b:=y%4294967296) (by omega) (by omega);have bc:=Lib.half_mul_le (a:=x%4294967296) (b:=y/4294967296) (by omega) (by omega);have ba':x/4294967296*(y/4294967296)<18446744073709551616:=by omega
 have bb':x/4294967296*(y%4294967296)<18446744073709551616:=by omega
 have bc':x%4294967296*(y/4294967296)<18446744073709551616:=by omega
 have bh1:x/4294967296*(y/4294967296)+(x/4294967296*(y%4294967296)+x%4294967296*(y%4294967296)/4294967296)/4294967296<18446744073709551616:=by omega
 have bh:x/4294967296*(y/4294967296)+(x/4294967296*(y%4294967296)+x%4294967296*(y%4294967296)/4294967296)/4294967296+((x/4294967296*(y%4294967296)+x%4294967296*(y%4294967296)/4294967296)%4294967296+x%4294967296*(y/4294967296))/4294967296<18446744073709551616:=by omega
 go_enter func226,ntmps226
 go_wp2
 simp only[Mul64.maskN x hx,Mul64.maskN y hy,Mul64.divN,Mul64.mulN,Mul64.addN,Mul64.wrapN _ bd,Mul64.wrapN _ bb',Mul64.wrapN _ bt,Mul64.maskN _ bt,Mul64.wrapN _ bc',Mul64.wrapN _ bw,Mul64.wrapN _ ba',Mul64.wrapN _ bh1,Mul64.wrapN _ bh,Mul64.wrapM (x*y)];rw[hhi]
 go_ret2
 simp
def wd (n:Nat):Value:= .agg #[.int .u64 ((n/18446744073709551616:Nat):Int),.int .u64 ((n%18446744073709551616:Nat):Int)]
theorem FI (x y:Int) (e:0<=x) (b:x<18446744073709551616) (f:0<=y) (c:y<18446744073709551616) (w:World):(callFunc 227 #[.int .u64 x,.int .u64 y,.int .u64 0]).run prog w=
  .ok (.value (.tuple #[.int .u64 ((x+y)%18446744073709551616),.int .u64 ((x+y)/18446744073709551616)])) w:=by
 grind [yW]
theorem E9 (n x y:Nat) (hx:x<18446744073709551616) (hy:y<18446744073709551616) (hn:n+x*y<340282366920938463463374607431768211456) (w:World):
  Calls prog 194 #[wd n,.int .u64 x,.int .u64 y] w fun e w'=>e= .returned (wd (n+x*y))/\Ext w w':=by
 have hp:x*y/18446744073709551616<18446744073709551616:=by omega
 obtain⟨nh,hnh⟩: ∃k:Nat,k=n/18446744073709551616:=⟨_,rfl⟩;obtain⟨nl,hnl⟩: ∃k:Nat,k=n%18446744073709551616:=⟨_,rfl⟩;obtain⟨ph,hph⟩: ∃k:Nat,k=x*y/18446744073709551616:=⟨_,rfl⟩;obtain⟨pl,hpl⟩: ∃k:Nat,k=x*y%18446744073709551616:=⟨_,rfl⟩;have b1:(nh:Int)<18446744073709551616:=by omega
 have b2:(nl:Int)<18446744073709551616:=by omega
 have b3:(ph:Int)<18446744073709551616:=by omega
 have b4:(pl:Int)<18446744073709551616:=by omega
 have c1:0<=((nl:Int)+(pl:Int))/18446744073709551616:=by omega
 have c2:((nl:Int)+(pl:Int))/18446744073709551616<=1:=by omega
 have HM:=aal (Lg x y hx hy);have HLo:Hid (((nl:Int)+(pl:Int))%18446744073709551616=((n:Int)+(x:Int)*(y:Int))%18446744073709551616):=aal (by
  omega)
 have HHi:Hid (((nh:Int)+(ph:Int)+((nl:Int)+(pl:Int))/18446744073709551616)%18446744073709551616=((n:Int)+(x:Int)*(y:Int))/18446744073709551616):=aal (by
  omega)
 unfold wd;rw[<- hnh,<- hnl]at*
 rw[<- hph,<- hpl]at*
 have e1:=FI nl pl (by omega) b2 (by omega) b4;have e2:=yW nh ph _ (by omega) b1 (by omega) b3 c1 c2;clear hnh hnl hph hpl hn hp
 go_enter func194,ntmps194
 go_wp2_with (first|(go_at_call 226;refine(HM.out _).mono ?_;rintro e w' ⟨rfl,rfl⟩)|simp only[e1]|simp only[e2])
 refine bodyPost_ret (v:= .agg #[.int .u64 ((((n+x*y)/18446744073709551616:Nat):Int)),.int .u64 ((((n+x*y)%18446744073709551616:Nat):Int))]) ?_ rfl ⟨rfl,?_⟩
 ·simp[results,results194,go_sem];exact⟨HHi.out,HLo.out⟩
 exact((Ext.refl _).alloc _).alloc _
def Ih (n m:Nat):Option Nat:=if m<=n/\n-m<=4611686018427387904 then some (n-m)else none
def ij (n m:Nat):Value:=match Ih n m with
 |some k=> .tuple #[.int .i64 k,.bool true]
 |none=> .tuple #[.int .i64 0,.bool false]
theorem ik (h: ¬(m<=n/\n-m<=4611686018427387904)):ij n m= .tuple #[.int .i64 0,.bool false]:=by
 grind [ij,Ih]
theorem mP (h:m<=n/\n-m<=4611686018427387904) {d:Int} (b:((n-m:Nat):Int)=d):ij n m= .tuple #[.int .i64 d,.bool true]:=by
 grind [ij,Ih]
theorem Hg (x y:Int) (c:0<=x) (e:0<=y) (b:y<18446744073709551616) (w:World):(callFunc 228 #[.int .u64 x,.int .u64 y,.int .u64 0]).run prog w=
  .ok (.value (.tuple #[.int .u64 ((x-y)%18446744073709551616),.int .u64 (if x<y then 1 else 0)])) w:=by
 grind [Ak]
theorem yC (n m:Nat) (hn:n<340282366920938463463374607431768211456) (hm:m<340282366920938463463374607431768211456) (w:World):
  Calls prog 195 #[wd n,wd m] w fun e w'=>e= .returned (ij n m)/\Ext w w':=by
 obtain⟨nh,hnh⟩: ∃k:Nat,k=n/18446744073709551616:=⟨_,rfl⟩;obtain⟨nl,hnl⟩: ∃k:Nat,k=n%18446744073709551616:=⟨_,rfl⟩;obtain⟨mh,hmh⟩: ∃k:Nat,k=m/18446744073709551616:=⟨_,rfl⟩;obtain⟨ml,hml⟩: ∃k:Nat,k=m%18446744073709551616:=⟨_,rfl⟩;have b1:(nh:Int)<18446744073709551616:=by omega
 have b2:(nl:Int)<18446744073709551616:=by omega
 have b3:(mh:Int)<18446744073709551616:=by omega
 have b4:(ml:Int)<18446744073709551616:=by omega
 have HE:Hid (n=nh*18446744073709551616+nl/\m=mh*18446744073709551616+ml):=aal (by omega);obtain⟨V,hV⟩: ∃V,V=ij n m:=⟨_,rfl⟩;unfold wd;rw[<- hnh,<- hnl,<- hmh,<- hml,<- hV];have HV:=aal hV;clear hnh hnl hmh hml hV hn hm;have e1:=Hg nl ml (by omega) (by omega) b4;obtain⟨b,hb⟩: ∃b:Int,b=if(nl:Int)<ml then 1 else 0:=⟨_,rfl⟩
 have hb':b=0/\(ml:Int)<=nl\/b=1/\(nl:Int)<ml:=by omega
 have hb0:0<=b:=by omega
 have hb1:b<=1:=by omega
 have e2:=Ak nh mh b (by omega) (by omega) b3 hb0 hb1;rw[<- hb]at e1;clear hb;obtain⟨dl,hdl⟩: ∃k:Int,k=((nl:Int)-ml)%18446744073709551616:=⟨_,rfl⟩;obtain⟨dh,hdh⟩: ∃k:Int,k=((nh:Int)-mh-b)%18446744073709551616:=⟨_,rfl⟩;obtain⟨b2',hb2⟩: ∃k:Int,k=if(nh:Int)<mh+b then 1 else 0:=⟨_,rfl⟩
 rw[<- hdl]at e1;rw[<- hdh,<- hb2]at e2;have d0:0<=dl:=by omega
 have d1:dl<18446744073709551616:=by omega
 have d2:0<=dh:=by omega
 have d3:dh<18446744073709551616:=by omega
 have HD:=aal (aaj hdl (aaj hdh (aaj hb2 hb')));clear hdl hdh hb2 hb';by_cases g1:b2'=0
 ·have g1':(b2' !=0)=false:=by simp[g1]
  have G1:=aal g1;clear g1;by_cases g2:dh=0
  ·have g2':(dh !=0)=false:=by simp[g2]
   have G2:=aal g2;clear g2;by_cases g3:4611686018427387904<dl
   ·go_enter func195,ntmps195
    go_wp2_with (first|simp only[e1]|simp only[e2])
    go_ret2
    refine⟨?_,((Ext.refl _).alloc _).alloc _⟩;rw[HV.out];obtain⟨q1,q2,q3,q4⟩:=HD.out;obtain⟨q5,q6⟩:=HE.out;have q7:=G1.out;have q8:=G2.out
    (rw[ik (by omega)])<;>rfl
   go_enter func195,ntmps195
   go_wp2_with (first|simp only[e1]|simp only[e2])
   go_ret2
   refine⟨?_,((Ext.refl _).alloc _).alloc _⟩;rw[HV.out];obtain⟨q1,q2,q3,q4⟩:=HD.out;obtain⟨q5,q6⟩:=HE.out;have q7:=G1.out;have q8:=G2.out
   (rw[mP (by omega) (d:=dl) (by omega)])<;>rfl
  have g2':(dh !=0)=true:=by simp[g2]
  go_enter func195,ntmps195
  go_wp2_with (first|simp only[e1]|simp only[e2])
  go_ret2
  refine⟨?_,((Ext.refl _).alloc _).alloc _⟩;rw[HV.out];obtain⟨q1,q2,q3,q4⟩:=HD.out;obtain⟨q5,q6⟩:=HE.out;have q7:=G1.out
  (rw[ik (by omega)])<;>rfl
 have g1':(b2' !=0)=true:=by simp[g1]
 go_enter func195,ntmps195
 go_wp2_with (first|simp only[e1]|simp only[e2])
 go_ret2
 refine⟨?_,((Ext.refl _).alloc _).alloc _⟩;rw[HV.out];obtain⟨q1,q2,q3,q4⟩:=HD.out;obtain⟨q5,q6⟩:=HE.out
 (rw[ik (by omega)])<;>rfl
end Go.Proofs.YtalmoejhjceflaaGreat
