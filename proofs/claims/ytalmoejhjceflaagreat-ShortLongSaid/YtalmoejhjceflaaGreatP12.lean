/-
  Part 13 of a proof (walks and plain facts).
-/
import Derived.Test.YtalmoejhjceflaaGreatP11
import Derived.Laws.EntriesVeiled
set_option linter.all false
set_option maxRecDepth 100000
set_option maxHeartbeats 64000000
open Nat renaming le_refl → ae
open List renaming replicate → af
open Option renaming map_some → ah
open List renaming getElem?_eq_none → au
open List renaming mem_of_getElem? → ax
open List renaming getElem?_map → az
open Nat renaming pow_le_pow_right → aD
namespace Go.Proofs.YtalmoejhjceflaaGreat
open Go.RowKit
theorem x5 (w:World):
  Calls Tryz.prog 198 #[.slice none 0 0,.func (Fn.func 132) #[] #[]] w fun e w'=>e= .returned (.tuple #[])/\ ∃n,w'=w.drewN n:=by
 have hl: ∀w,Calls Tryz.prog 127 #[.int .u64 0] w fun e w'=>e= .returned (.int .i64 0)/\w=w':=fun w=>by
  go_enter Tryz.func127,Tryz.ntmps127
  go_wp2
  go_ret
  refine⟨?_,rfl⟩;show Ending.returned (.int .i64 (wrap64 (wrap64 (Lib.len8 0))))=_;rw[show Lib.len8 0=0 from by decide+kernel,IntWalk.wrap64_in 0 ⟨by omega,by omega⟩,IntWalk.wrap64_in 0 ⟨by omega,by omega⟩]
 have hi: ∀w,Calls Tryz.prog 244 #[.slice none 0 0,.int .i64 0,.int .i64 0,.func (Fn.func 132) #[] #[]] w fun e w'=>e= .returned (.tuple #[])/\w=w':=fun w=>by
  go_enter Tryz.func244,Tryz.ntmps244
  go_wp2
  refine wp_loop_rounds 1 ?_;rw[rounds_succ]
  go_wp2
  go_end0
  exact⟨rfl,rfl⟩
 have hp: ∀w,Calls Tryz.prog 229 #[.slice none 0 0,.int .i64 0,.int .i64 0,.int .i64 0,.func (Fn.func 132) #[] #[]] w fun e w'=>e= .returned (.tuple #[])/\w=w':=fun w=>by
  have HI:=Lib.hid hi;clear hi hl
  go_enter Tryz.func229,Tryz.ntmps229
  go_wp2_with fail
  refine wp_loop_rounds 1 ?_;rw[rounds_succ]
  go_wp2_with (go_at_call 244;refine(HI.out _).mono ?_;rintro e w' ⟨rfl,rfl⟩)
  refine bodyPost_ret (results_none rfl _ _ _) rfl ?_;exact⟨rfl,rfl⟩
 have HP:=Lib.hid hp;have HLn:=Lib.hid hl;clear hp hl hi
 go_enter Tryz.func198,Tryz.ntmps198
 go_wp2_with (first|(go_at_call 127;refine(HLn.out _).mono ?_;rintro e w' ⟨rfl,rfl⟩)|(go_at_call 229;refine(HP.out _).mono ?_;rintro e w' ⟨rfl,rfl⟩))
 go_end0
 exact⟨rfl,0,rfl⟩
theorem q9 (w:World) (fv:Value):
  Calls Tryz.prog 199 #[.slice none 0 0,fv] w fun e w'=>e= .returned (.slice none 0 0)/\w=w':=by
 go_enter Tryz.func199,Tryz.ntmps199
 go_wp2_with fail
 go_ret
 exact⟨rfl,rfl⟩
theorem Ko (sx:Nat) (w:World) (hS:w.rowIs sx 173 2 (fun j=>if j=0 then .slice none 0 0 else .func (Fn.func 132) #[] #[])):
  Calls Tryz.prog 136 #[.pointer (some ⟨sx,0,none⟩)] w fun e w'=>
   e= .returned (.tuple #[])/\w'.cell? ⟨sx,0,none⟩=some (.slice none 0 0)/\
    (∀k,k<w.heap.size->k≠sx->w'.heap[k]?=w.heap[k]?)/\w.heap.size<=w'.heap.size/\w'.os=w.os/\w'.tape=w.tape/\w'.output=w.output:=by
 have HS:=Lib.hid hS;have hslt:=hS.lt;clear hS
 go_enter Tryz.func136,Tryz.ntmps136
 go_wp2_with fail
 have c0:(w.alloc (.cells #[.pointer (some ⟨sx,0,none⟩)] 237)).drew.cell? ⟨w.heap.size,0,none⟩=some (.pointer (some ⟨sx,0,none⟩)):=by go_simp
 have HE0:Hid (Ext w (w.alloc (.cells #[.pointer (some ⟨sx,0,none⟩)] 237)).drew):=Lib.hid ((Ext.refl _).alloc _).drew;generalize w.alloc (.cells #[.pointer (some ⟨sx,0,none⟩)] 237)=w1 at*
 refine cu 8 (by kernel_rfl) (by kernel_rfl) ?_;simp only[List.take_succ_cons,List.take_zero,List.drop_succ_cons,List.drop_zero];generalize w1.drew=w2 at*
 have s0:w2.cell? ⟨sx,0,none⟩=some (.slice none 0 0):=(ct HS.out HE0.out).cell (by omega);have s1:w2.cell? ⟨sx,1,none⟩=some (.func (Fn.func 132) #[] #[]):=(ct HS.out HE0.out).cell (by omega)
 iterate 8 still_step
 refine wpStill_nil ?_;have HC:=Lib.hid (x5 w2);clear s1
 go_wp2_with fail
 refine HC.out.mono ?_;rintro e w3 ⟨rfl,n,rfl⟩;have HE3:=Lib.hid (HE0.out.drewN n);have d0:(w2.drewN n).cell? ⟨w.heap.size,0,none⟩=some (.pointer (some ⟨sx,0,none⟩)):=c0;have d1:(w2.drewN n).cell? ⟨sx,0,none⟩=some (.slice none 0 0):=s0;have d2:(w2.drewN n).frozen? ⟨sx,0,none⟩=false:=(ct HS.out HE3.out).frozen 0;clear HC s0 c0 HE0;generalize w2.drewN n=w3 at*
 have HC:Hid (∀(w:World) (fv:Value),Calls Tryz.prog 199 #[.slice none 0 0,fv] w fun e w'=>e= .returned (.slice none 0 0)/\w=w'):=Lib.hid q9
 go_wp2_with fail
 go_region_law (go_simp;go_at_call 199;refine(HC.out _ _).mono ?_;rintro e w5 ⟨rfl,rfl⟩)
 all_goals
  go_wp2_with fail
  go_end0
  refine⟨rfl,?_,fun k hk hks=>?_,?_,HE3.out.os,HE3.out.tape,HE3.out.output⟩
  ·exact(((ct HS.out HE3.out).drew.set 0 (.slice none 0 0)).cell (i:=0) (by omega))
  ·show((w3.drew.setCell ⟨sx,0,none⟩ (.slice none 0 0)).heap[k]?)=_;rw[Below.heap_setCell _ _ _ _ hks];exact HE3.out.block k hk
  have:=HE3.out.size;simpa[World.setCell,World.drew] using this
theorem Tryz.infoKeyed:(Tryz.prog.info? 177).map (fun i=>(i.zero,i.size,i.bytes))=some (some (.agg #[.int .i64 0,.slice none 0 0]),2,32):=by kernel_rfl
def qJ (rows:List (List Int)) (x:List Int):Option Int:=
 if -4611686018427387904<=fz x (eF rows x) x.length/\fz x (eF rows x) x.length<=4611686018427387904 then some (fz x (eF rows x) x.length)else none
def lN (rows:List (List Int)) (x:List Int):Option (Int×List Int):=
 if uF rows.length x then(match qJ rows x,gD x with
  |some k,some y=>some (k,y)
  |_,_=>none)else none
def fi (rows:List (List Int)):List (List Int)->Option (List (Int×List Int))
 |[]=>some []
 |x::l=>match lN rows x,fi rows l with
  |some a,some b=>some (a::b)
  |_,_=>none
theorem jr {rows:List (List Int)}: ∀{l:List (List Int)} {k:Nat} {x:List Int},l[k]?=some x->lN rows x=none->fi rows l=none
 |[],_,_,h,_=>by simp at h
 |a::l,0,x,h,h'=>by simp at h;subst h;simp[fi,h']
 |a::l,k+1,x,h,h'=>by
  simp at h;have:=jr h h';simp[fi,this]
def NItem.dat (it:NItem):Int×List Int:=(it.key,it.vals)
theorem qH {rows:List (List Int)}: ∀{l:List (List Int)} {L:List NItem},L.length=l.length->(∀(j:Nat) (it:NItem),L[j]?=some it-> ∃x,l[j]?=some x/\lN rows x=some it.dat)->fi rows l=some (L.map NItem.dat)
 |[],[],_,_=>rfl
 |[],_::_,h,_=>by simp at h
 |_::_,[],h,_=>by simp at h
 |x::l,it::L,h,hh=>by
  have h1:=hh 0 it rfl;simp at h1;have h2:=qH (rows:=rows) (l:=l) (L:=L) (by simpa using h) (fun j it' hj=>by
   obtain⟨y,q1,q2⟩:=hh (j+1) it' (by simpa using hj);exact⟨y,by simpa using q1,q2⟩)
  simp[fi,h1,h2]
def iY (L:List NItem):List Value:=L.flatMap j2
theorem ze (L:List NItem) (it:NItem):iY L++j2 it=iY (L++[it]):=by simp[iY]
theorem vF: ∀{L:List NItem} {j:Nat} {it:NItem},L[j]?=some it->(iY L)[j*2]?=some (.int .i64 it.key)/\(iY L)[j*2+1]?=some it.val
 |[],_,_,h=>by simp at h
 |a::L,0,it,h=>by simp at h;subst h;simp[iY,j2,NItem.val]
 |a::L,j+1,it,h=>by
  simp at h;obtain⟨h1,h2⟩:=vF h;have e:iY (a::L)= .int .i64 a.key::a.val::iY L:=by simp[iY,j2,NItem.val]
  rw[e,show(j+1)*2=j*2+1+1 from by omega,show j*2+1+1+1=(j*2+1)+1+1 from rfl];simp only[List.getElem?_cons_succ];exact⟨h1,h2⟩
theorem Ck (it:NItem): ∀u∈j2 it,u.oneCell'=true:=by
 intro u hu;simp[j2]at hu;rcases hu with rfl|rfl<;>rfl
def RW (v:Value):Nat->Value:=fun j=>if j=0 then v else .func (Fn.func 132) #[] #[]
def Rb (w:World) (sx:Nat) (v:Value) (it:NItem):Prop:=RdI .i64 w it.at_ it.vals/\(it.vals.length<=9223372036854775807/\it.vals.length<=it.cap)/\ ∀p,it.at_=some p->v.ownBlock≠some p.block/\sx<p.block/\p.block<w.heap.size
def Lu (k:Nat) (w:World) (A:Option Addr) (M:List (List Int)):Prop:=M.length<=65536/\ ∃b,A=some ⟨b,0,none⟩/\k<=b/\b<w.heap.size/\ ∀(i:Nat) r,M[i]?=some r-> ∃A' c,w.cell? ⟨b,i,none⟩=some (.slice A' r.length c)/\r.length<=c/\r.length<=9223372036854775807/\RdI .i64 w A' r/\ ∀p,A'=some p->k<=p.block/\p.block<w.heap.size
def A7 (k0:Nat) (w':World) (r:Option (List (Int×List Int))) (e:Ending):Prop:=match r with
 |none=>e= .returned (.tuple #[.slice none 0 0,.bool false])
 |some ks=> ∃L:List NItem,(L.map NItem.dat).Perm ks/\nQ L/\ ∃A,e= .returned (.tuple #[.slice A (bA L).length (bA L).length,.bool true])/\pC .i64 w' A ((bA L).map NItem.vals)/\Lu k0 w' A ((bA L).map NItem.vals)
theorem Fe {rows:List (List Int)} {x:List Int} {k:Int} (h:qJ rows x=some k):yT (fz x (eF rows x) x.length)= .tuple #[.int .i64 k,.bool true]:=by
 unfold qJ at h;split at h
 ·cases h;unfold yT;rw[if_pos (by assumption)]
 cases h
theorem Fd {rows:List (List Int)} {x:List Int} (h:qJ rows x=none):yT (fz x (eF rows x) x.length)= .tuple #[.int .i64 0,.bool false]:=by
 unfold qJ at h;split at h
 ·cases h
 unfold yT;rw[if_neg (by assumption)]
theorem ni: ∀{l:List NItem} {p it:NItem},it∈cY p l->it∈l
 |[],_,_,h=>by simp[cY]at h
 |b::l,p,it,h=>by
  unfold cY at h;split at h
  ·exact List.mem_cons_of_mem _ (ni h)
  rcases List.mem_cons.1 h with rfl|h
  ·exact List.mem_cons_self
  exact List.mem_cons_of_mem _ (ni h)
theorem qA {L:List NItem} {it:NItem} (h:it∈bA L):it∈L:=by
 cases L with
 |nil=>simp[bA]at h
 |cons a l=>
  unfold bA at h;rcases List.mem_cons.1 h with rfl|h
  ·exact List.mem_cons_self
  exact List.mem_cons_of_mem _ (ni h)
theorem sj: ∀(l:List NItem) (p:NItem),(cY p l).length<=l.length
 |[],_=>by simp[cY]
 |b::l,p=>by
  unfold cY;have:=sj l b;split
  ·simp;omega
  simp;omega
theorem yQ (L:List NItem):(bA L).length<=L.length:=by
 cases L with
 |nil=>simp[bA]
 |cons a l=>have:=sj l a;simp[bA];omega
def JP (L:List NItem) (m:Nat):Nat->Value:=fun j=>if j<m then(match L[j]? with|some it=>it.val|none=>undef)else .slice none 0 0
theorem un (A B:Option Addr) (c d:Nat) (rows l:List (List Int)) (w:World) (hR:pC .i64 w A rows) (hl:pC .i64 w B l) (lr:rows.length<=9223372036854775807) (hc:rows.length<=c) (ll:l.length<=65536):
  Calls Tryz.prog 89 #[.slice A rows.length c,.slice B l.length d] w fun e w'=>A7 w.heap.size w' (if isReducedM rows then fi rows l else none) e/\Ext w w':=by
 have HR:=Lib.hid hR;have HL:=Lib.hid hl;clear hR hl;cases hI:isReducedM rows with
 |false=>
  have HV:Hid ((if isReducedM rows then fi rows l else none)=none):=Lib.hid (by simp[hI])
  go_enter Tryz.func89,Tryz.ntmps89
  go_wp2_with (go_at_call 36;refine(jJ A c rows _ HR.out lr hc).mono ?_;rintro e w1 ⟨rfl,he⟩)
  go_ret2
  exact⟨rfl,he⟩
 |true=>
  have HSm:=Lib.hid (gI hI);have h8:rows.length<=8:=HSm.out.2.1
  go_enter Tryz.func89,Tryz.ntmps89
  go_wp2_with (go_at_call 36;refine(jJ A c rows _ HR.out lr hc).mono ?_;rintro e w1 ⟨rfl,he⟩;have HE:=Lib.hid he;clear he)
  clear hI;obtain⟨wo,rfl⟩: ∃wo:World,wo=w1:=⟨_,rfl⟩
  go_loopw [22,8,9,10,11,12] (fun i _ _ _ _ _ wr=> ∃(k:Nat) (L:List NItem) (v:Value),k<=l.length/\i= .int .i64 k/\Hid (L.length=k/\(k=0->v= .slice none 0 0))/\Hid (∀(j:Nat) (it:NItem),L[j]?=some it-> ∃x,l[j]?=some x/\lN rows x=some it.dat)/\Hid (wr.ownsRow (wo.heap.size+1) 177 2 v k (iY L))/\Hid (wr.rowIs wo.heap.size 173 2 (RW v))/\Hid (Ext wo wr)/\Hid (∀it∈L,Rb wr wo.heap.size v it)) (fun i _ _ _ _ _ _=>l.length-(intOf i).toNat)
  case atStart=>
   refine⟨0,[],.slice none 0 0,Nat.zero_le _,rfl,Lib.hid ⟨rfl,fun _=>rfl⟩,Lib.hid (by simp),Lib.hid (World.ownsRow_nil _ _ _ _),Lib.hid ?_,Lib.hid ?_,Lib.hid (by simp)⟩
   ·refine World.rowIs_alloc wo #[.slice none 0 0,.func (Fn.func 132) #[] #[]] _ _ (fun i hi=>?_)
    match i,hi with
    |0,_=>rfl
    |1,_=>rfl
   exact(Ext.refl _).alloc _
  case round=>
   obtain⟨k,L,v,hk,rfl,HLen,HIt,HOwn,HRow,HE2,HIV⟩:=hrel;by_cases hlt:k<l.length
   ·obtain⟨x,hx⟩:=getElem?_of_lt hlt;obtain⟨b,off,BX,cx,rfl,hcx,hcxl,hlx,hrx⟩:=((HL.out.ext HE.out).ext HE2.out).at_ hx;have HX:=Lib.hid hx;have HRX:=Lib.hid hrx;clear hx hrx;cases hF:uF rows.length x with
    |false=>
     have HN:Hid (fi rows l=none):=Lib.hid (jr HX.out (by unfold lN;rw[hF];rfl))
     go_wp2_with (go_at_call 116;refine(zd rows.length BX cx x _ HRX.out hlx).mono ?_;rintro e w2 ⟨rfl,rfl⟩)
     go_ret2
     exact⟨by rw[HN.out];rfl,HE.out.trans HE2.out⟩
    |true=>
     obtain⟨hxl,hxb⟩:=nO.1 hF;have hxle:x.length<=rows.length:=by omega
     have hxge:rows.length<=x.length:=by omega
     have HXB:=Lib.hid hxb;have HF:=Lib.hid hF;have HA:=Lib.hid (EU HSm.out hxb);have HAL:=Lib.hid (uJ rows x);clear hxl hxb
     go_wp2_with (go_at_call 116;refine(zd rows.length BX cx x _ HRX.out hlx).mono ?_;rintro e w2 ⟨rfl,rfl⟩)
     clear hF;refine(EV A BX c cx rows x _ ((HR.out.ext HE.out).ext HE2.out) HRX.out (by omega) (fun i hi=>by rw[HSm.out.2.2.1 i hi];exact hxge) hlx).mono ?_;rintro e w3 ⟨rfl,hrd,he3⟩;have hcon:=L8 BX (some ⟨wr.heap.size,0,none⟩) cx rows.length x (eF rows x) w3 (HRX.out.ext he3) hrd (by rw[HAL.out];exact hxle) (by omega) (by rw[HAL.out];omega) (fun i z hz=>ko HXB.out hz) HA.out;rw[HAL.out]at hcon;have HC:=Lib.hid hcon;have HE3:=Lib.hid he3;clear hcon hrd he3
     go_wp2_with fail
     cases hN:qJ rows x with
     |none=>
      have hno:=HC.out;rw[Fd hN]at hno;have HNone:Hid (fi rows l=none):=Lib.hid (jr HX.out (by unfold lN;rw[HF.out,hN];rfl));refine hno.mono ?_;rintro e w4 ⟨rfl,he4⟩;have HE4:=Lib.hid (HE3.out.trans he4);clear he4 hno HC hN
      go_wp2_with fail
      refine(jo BX cx x _ (HRX.out.ext HE4.out) (by omega)).mono ?_;rintro e w5 ⟨hcv,he5⟩;have HE5:=Lib.hid (((HE.out.trans HE2.out).trans HE4.out).trans he5);clear he5;have hform: ∃va vb,e= .returned (.tuple #[va,.bool vb]):=by
       unfold Ik at hcv;split at hcv
       ·exact⟨_,_,hcv⟩
       obtain⟨A',c',h,_⟩:=hcv;exact⟨_,_,h⟩
      obtain⟨va,vb,rfl⟩:=hform;clear hcv
      go_wp2_with fail
      go_ret2
      exact⟨by rw[HNone.out];rfl,HE5.out⟩
     |some key=>
      have hno:=HC.out;rw[Fe hN]at hno;refine hno.mono ?_;rintro e w4 ⟨rfl,he4⟩;have HE4:=Lib.hid (HE3.out.trans he4);have HNo:=Lib.hid hN;clear he4 hno HC hN
      go_wp2_with fail
      refine(jo BX cx x _ (HRX.out.ext HE4.out) (by omega)).mono ?_;rintro e w5 ⟨hcv,he5⟩;have HE5:=Lib.hid (HE4.out.trans he5);clear he5;cases hS:gD x with
      |none=>
       have HNone:Hid (fi rows l=none):=Lib.hid (jr HX.out (by unfold lN;rw[HF.out,HNo.out,hS];rfl));rw[hS]at hcv;obtain rfl:=hcv;clear hS
       go_wp2_with fail
       go_ret2
       exact⟨by rw[HNone.out];rfl,(HE.out.trans HE2.out).trans HE5.out⟩
      |some y=>
       rw[hS]at hcv;obtain⟨AY,cy,rfl,hcy,hry,hby⟩:=hcv;have HIO:Hid (lN rows x=some (key,y)):=Lib.hid (by unfold lN;rw[HF.out,HNo.out,hS];rfl);have HRY:=Lib.hid hry;have HBY:=Lib.hid hby;have HYL:Hid (y.length=x.length):=Lib.hid (by
        unfold gD at hS;split at hS
        ·split at hS
         ·cases hS
         cases hS;split<;>simp
        cases hS)
       clear hS hry hby;have HO5:=Lib.hid (zQ HOwn.out HE5.out);have HR5:=Lib.hid (ct HRow.out HE5.out);have t0:w5.cell? ⟨wo.heap.size,0,none⟩=some v:=HR5.out.cell (by omega);have t1:w5.frozen? ⟨wo.heap.size,0,none⟩=false:=HR5.out.frozen 0;have hslt:wo.heap.size<w5.heap.size:=HR5.out.lt;have HRd:Hid (Rd (w5.alloc (.cells #[.int .i64 key,.slice AY y.length cy] 177)) (some ⟨w5.heap.size,0,none⟩) (j2 ⟨key,y,AY,cy⟩)):=Lib.hid (fun _=>⟨w5.heap.size,0,rfl,fun i u hu=>by
        match i,hu with
        |0,hu=>simp[j2]at hu;subst hu;go_simp
        |1,hu=>simp[j2]at hu;subst hu;go_simp⟩)
       go_wp2_with (at_builtin;refine gN _ rfl (.tmp 51) (.tmp 55) _ rfl (wo.heap.size+1) 177 (.agg #[.int .i64 0,.slice none 0 0]) 2 32 Tryz.underlying171 Tryz.infoKeyed rfl (by omega) v k (iY L) rfl (HO5.out.alloc _) (some ⟨w5.heap.size,0,none⟩) 1 1 _ rfl HRd.out rfl (Ck _) (by simp only[maxLen];omega) (by omega) (by simp;omega) ?_;intro v6 w6 hown6 hg6 hb6;have HO6:=Lib.hid hown6;have HG6:=Lib.hid hg6;have HB6:=Lib.hid hb6;have hz6:w5.heap.size+1<=w6.heap.size:=(by have:=hg6.size;simpa using this);have s0:w6.cell? ⟨wo.heap.size,0,none⟩=some v:=(by refine hg6.cell (a:=⟨wo.heap.size,0,none⟩) (by rw[World.cell?_alloc_lt _ _ _ hslt];exact t0) (fun e=>?_);have:=(HO5.out.lt _ e.symm).1;simp at this;omega);have s1:w6.frozen? ⟨wo.heap.size,0,none⟩=false:=(by rw[World.frozen?_of_block (hg6.block wo.heap.size (by simp;omega) (fun e=>by have:=(HO5.out.lt _ e.symm).1;omega))];rw[World.frozen?_of_block (Below.heap_alloc _ _ _ hslt)];exact t1);obtain⟨g6,cap6,f6,rfl,_,_,_,_,_⟩:=tu hown6 (by omega);clear hown6 hg6 hb6 t0 t1)
       go_roundw
       case rel=>
        have hne: ∀j,v.ownBlock=some j->wo.heap.size+1<=j:=fun j hj=>(HO5.out.lt j hj).1
        have hw5:Ext wo (w5.alloc (.cells #[.int .i64 key,.slice AY y.length cy] 177)):=(HE2.out.trans HE5.out).alloc _;have hw6:Ext wo w6:=hw5.grown HG6.out (fun j hj=>by have:=hne j hj;omega);have hr6:w6.rowIs wo.heap.size 173 2 (RW v):=(HR5.out.alloc _).of_block (HG6.out.block wo.heap.size (by simp;omega) (fun e=>by have:=hne _ e.symm;omega));refine⟨k+1,L++[⟨key,y,AY,cy⟩],.slice (some ⟨g6,0,none⟩) (k+1) cap6,by omega,by go_num,Lib.hid ⟨by simp[HLen.out.1],fun h=>by omega⟩,Lib.hid (fun j it hj=>?_),Lib.hid ?_,Lib.hid ?_,Lib.hid (hw6.setCell (ae _) _),Lib.hid (fun it hit=>?_)⟩
        ·rcases Nat.lt_or_ge j L.length with h|h
         ·rw[List.getElem?_append_left h]at hj;exact HIt.out j it hj
         rw[List.getElem?_append_right h]at hj;have hj0:j-L.length=0:=by
          rcases Nat.eq_zero_or_pos (j-L.length)with h0|h0
          ·exact h0
          rw[au (by simp;omega)]at hj;cases hj
         rw[hj0]at hj;simp at hj;subst hj;have:j=k:=by have:=HLen.out.1;omega
         subst this;exact⟨x,HX.out,HIO.out⟩
        ·rw[<- ze];exact ownsRow_setCell_below HO6.out (by show wo.heap.size<wo.heap.size+1;omega) _
        ·exact(hr6.set 0 _).congr (fun j hj=>by
          match j,hj with
          |0,_=>rfl
          |1,_=>rfl)
        rcases List.mem_append.1 hit with h|h
        ·obtain⟨q1,q2,q3⟩:=HIV.out it h;have r5:RdI .i64 (w5.alloc (.cells #[.int .i64 key,.slice AY y.length cy] 177)) it.at_ it.vals:=q1.ext (HE5.out.alloc _);have hsz:=HE5.out.size;refine⟨fun hn=>?_,q2,fun p hp=>?_⟩
         ·obtain⟨b',off',hb',hc'⟩:=r5 hn;obtain⟨q4,q5,q6⟩:=q3 _ hb';refine⟨b',off',hb',fun i u hu=>?_⟩;rw[World.cell?_setCell_other _ _ _ _ (fun e=>by have:=congrArg Addr.block e;simp at this q5;omega)];exact HG6.out.cell (hc' i u hu) (fun e=>q4 e.symm)
         obtain⟨q4,q5,q6⟩:=q3 p hp;refine⟨fun e=>?_,q5,by simp[World.setCell];omega⟩;rcases HB6.out with h6|h6
         ·rw[h6]at e;exact q4 e
         rw[h6]at e;injection e with e
         simp at e;omega
        simp at h;subst h;have r5:RdI .i64 (w5.alloc (.cells #[.int .i64 key,.slice AY y.length cy] 177)) AY y:=HRY.out.ext ((Ext.refl _).alloc _);have hsz:=HE4.out.size;have hs2:=HE2.out.size;have hrl:=HRow.out.lt;have ho:=HOwn.out;have q3: ∀p,AY=some p->v.ownBlock≠some p.block/\wo.heap.size<p.block/\p.block<w5.heap.size:=fun p hp=>by
         obtain⟨h1,h2⟩:=HBY.out p hp;refine⟨fun e=>?_,by omega,h2⟩;have:=(ho.lt _ e).2;omega
        refine⟨fun hn=>?_,⟨by show y.length<=_;rw[HYL.out];omega,hcy⟩,fun p hp=>?_⟩
        ·obtain⟨b',off',hb',hc'⟩:=r5 hn;obtain⟨q4,q5,q6⟩:=q3 _ hb';refine⟨b',off',hb',fun i u hu=>?_⟩;rw[World.cell?_setCell_other _ _ _ _ (fun e=>by have:=congrArg Addr.block e;simp at this q5;omega)];exact HG6.out.cell (hc' i u hu) (fun e=>q4 e.symm)
        obtain⟨q4,q5,q6⟩:=q3 p hp;refine⟨fun e=>?_,q5,by simp[World.setCell];omega⟩;rcases HB6.out with h6|h6
        ·rw[h6]at e;exact q4 e
        rw[h6]at e;injection e with e
        simp at e;omega
       case measure=>simp[intOf];omega
   have hkl:k=l.length:=by omega
   have HIO:Hid (fi rows l=some (L.map NItem.dat)):=Lib.hid (qH (by rw[HLen.out.1,hkl]) HIt.out);by_cases hk0:0<k
   ·obtain⟨g,cap,f,rfl,hcap,hcm,hg,hrow,hf⟩:=tu HOwn.out hk0;have HLst:Hid (qr wr g (cap*2) L):=Lib.hid ⟨f,hrow,by rw[HLen.out.1];omega,fun j it hj=>by
     obtain⟨q1,q2⟩:=vF hj;exact⟨hf _ _ q1,hf _ _ q2⟩⟩
    have HIV2:=Lib.hid HIV.out;have hcon:=Kn wo.heap.size g cap L wr HLst.out (by rw[HLen.out.1];exact hcap) (by rw[HLen.out.1];omega) (fun it hit=>by
     obtain⟨q1,q2,q3⟩:=HIV.out it hit;exact⟨q1,fun p hp e=>(q3 p hp).1 (by simp[Value.ownBlock,e]),q2.1⟩) (by rw[HLen.out.1];exact HRow.out) (by omega)
    have HC:=Lib.hid hcon;have hglt:=hrow.lt;have hslt:=HRow.out.lt;clear hcon hf hrow hkl
    go_wp2_with fail
    refine HC.out.mono ?_;rintro e w5 ⟨L',rfl,hperm,hsort,hlst,hcell,hrow5,hblk,hsz,h1,h2,h3⟩;have HP:=Lib.hid hperm;have HSo:=Lib.hid hsort;have HL5:=Lib.hid hlst;have HE5:Hid (Ext wo w5):=Lib.hid ⟨h1.trans HE2.out.os,h2.trans HE2.out.tape,h3.trans HE2.out.output,Nat.le_trans HE2.out.size hsz,fun j hj=>by
     rw[hblk j (Nat.lt_of_lt_of_le hj HE2.out.size) (by omega) (by omega)];exact HE2.out.block j hj⟩
    have HIt5:Hid (∀it∈bA L',Rh .i64 w5 it.val it.vals):=Lib.hid (fun it hit=>by
     obtain⟨q1,q2,q3⟩:=HIV.out it (hperm.subset (qA hit));refine⟨it.at_,it.cap,rfl,q2.2,q2.1,fun hn=>?_⟩;obtain⟨b',off',hb',hc'⟩:=q1 hn;obtain⟨r1,r2,r3⟩:=q3 _ hb';refine⟨b',off',hb',fun i u hu=>?_⟩;rw[World.cell?_of_block (w:=wr) (hblk b' r3 (fun e=>r1 (by simp[Value.ownBlock,e])) (Nat.ne_of_gt r2))];exact hc' i u hu)
    have HBk:Hid (∀it∈bA L',∀p,it.at_=some p->wo.heap.size<p.block/\p.block<w5.heap.size):=Lib.hid (fun it hit p hp=>by
     obtain⟨q1,q2,q3⟩:=HIV.out it (hperm.subset (qA hit));obtain⟨r1,r2,r3⟩:=q3 _ hp;exact⟨r2,Nat.lt_of_lt_of_le r3 hsz⟩)
    have hm:(bA L').length<=65536:=by
     have h1:=yQ L';have h2:=hperm.length_eq;rw[HLen.out.1]at h2;omega
    have hmk:=run_make_row' (P:=Tryz.prog) 26 35 (.slice none 0 0) 24 Tryz.underlying26 Tryz.infoSlI64 rfl .i64 .i64 (bA L').length (by omega) (by omega);have hcell2: ∀o,(w5.alloc o).cell? ⟨wo.heap.size,0,none⟩=some (.slice (some ⟨g,0,none⟩) (bA L').length cap):=fun o=>by rw[World.cell?_alloc_lt _ _ _ (by show wo.heap.size<_;omega)];exact hcell
    have HS0:=Lib.hid (World.rowIs_made w5 (.slice none 0 0) (bA L').length 35);clear hperm hsort hlst hrow5 hblk h1 h2 h3 HC
    go_wp2_with fail
    clear hmk hcell2 hcell
    go_loopw [67,14,15] (fun i _ _ wx=> ∃m:Nat,m<=(bA L').length/\i= .int .i64 m/\Hid (wx.rowIs w5.heap.size 35 (bA L').length (JP (bA L') m))/\Hid (Ext w5 wx)) (fun i _ _ _=>(bA L').length-(intOf i).toNat)
    case atStart=>exact⟨0,Nat.zero_le _,rfl,Lib.hid (HS0.out.congr (fun j _=>by simp[JP])),Lib.hid ((Ext.refl _).alloc _)⟩
    case round=>
     clear HS0;obtain⟨wp,rfl⟩: ∃wp:World,wp=wr:=⟨_,rfl⟩;obtain⟨m,hmm,rfl,HO,HX5⟩:=hrel;by_cases hml:m<(bA L').length
     ·obtain⟨it,hit⟩:=getElem?_of_lt hml;have HIT:=Lib.hid hit;have t1:=(HL5.out.ext HX5.out).cell0 hit;have t2:=(HL5.out.ext HX5.out).cell1 hit;have hlt5:=HO.out.lt;have t3: ∀o,(wp.alloc o).cell? ⟨w5.heap.size,m,none⟩=some (.slice none 0 0):=fun o=>by
       rw[(HO.out.alloc o).cell hml];simp[JP]
      have t4: ∀o,(wp.alloc o).frozen? ⟨w5.heap.size,m,none⟩=false:=fun o=>(HO.out.alloc o).frozen m
      clear hit
      go_wp2_with fail
      go_roundw
      case rel=>
       refine⟨m+1,by omega,by go_num,Lib.hid (((HO.out.set m _).congr (fun j _=>?_)).alloc _),Lib.hid ((HX5.out.setCell (ae _) _).alloc _)⟩;unfold JP;by_cases e:j=m
       ·subst e;rw[if_pos rfl,if_pos (by omega),HIT.out];rfl
       rw[if_neg e];by_cases e2:j<m
       ·rw[if_pos e2,if_pos (by omega)]
       rw[if_neg e2,if_neg (by omega)]
      case measure=>simp[intOf];omega
     go_wp2_with fail
     go_ret2
     have hmeq:m=(bA L').length:=by omega
     refine⟨?_,(HE.out.trans HE5.out).trans HX5.out⟩;rw[HIO.out];have hsw:=HE.out.size;have hs5:=HE5.out.size;have hs6:=HX5.out.size;have hnew:Lu w.heap.size wp (some ⟨w5.heap.size,0,none⟩) ((bA L').map NItem.vals):=by
      refine⟨by rw[List.length_map];exact hm,w5.heap.size,rfl,by omega,HO.out.lt,fun i r hr=>?_⟩;rw[az]at hr;cases hci:(bA L')[i]? with
      |none=>rw[hci]at hr;cases hr
      |some it=>
       rw[hci]at hr;simp at hr;subst hr;have hil:=(List.getElem?_eq_some_iff.1 hci).1;have hmem:=ax hci;obtain⟨A1,c1,e1,e2,e3,e4⟩:=(HIt5.out it hmem).ext HX5.out;refine⟨it.at_,it.cap,?_,?_,e3,?_,fun p hp=>?_⟩
       ·rw[HO.out.cell hil];unfold JP;rw[if_pos (by omega),hci];rfl
       ·unfold NItem.val at e1;cases e1;exact e2
       ·unfold NItem.val at e1;cases e1;exact e4
       have:=HBk.out it hmem p hp;omega
     refine⟨L',HP.out.map NItem.dat,HSo.out,some ⟨w5.heap.size,0,none⟩,rfl,fun _=>⟨w5.heap.size,0,rfl,fun i r hr=>?_⟩,hnew⟩;obtain⟨_,b1,e1,_,_,e2⟩:=hnew;injection e1 with e1
     injection e1 with e1
     subst e1;obtain⟨A1,c1,e3,e4,e5,e6,_⟩:=e2 i r hr;exact⟨_,by rw[Nat.zero_add];exact e3,A1,c1,rfl,e4,e5,e6⟩
   have hv:=HLen.out.2 (by omega);have hL0:L=[]:=List.eq_nil_of_length_eq_zero (by rw[HLen.out.1];omega);subst hv hL0;have HC:=Lib.hid (Ko wo.heap.size wr HRow.out);have hslt:=HRow.out.lt;clear hkl
   go_wp2_with fail
   refine HC.out.mono ?_;rintro e w5 ⟨rfl,hcell,hblk,hsz,h1,h2,h3⟩;have HE5:Hid (Ext wo w5):=Lib.hid ⟨h1.trans HE2.out.os,h2.trans HE2.out.tape,h3.trans HE2.out.output,Nat.le_trans HE2.out.size hsz,fun j hj=>by
    rw[hblk j (Nat.lt_of_lt_of_le hj HE2.out.size) (by omega)];exact HE2.out.block j hj⟩
   have hmk: ∀w:World,(Instr.makeSlice 26 (.int .i64 0) (.int .i64 0)).run Tryz.prog w= .ok (.slice (some ⟨w.heap.size,0,none⟩) 0 0) (w.alloc (.cells (madeCells #[.slice none 0 0] 0) 35)):=run_make_row' (P:=Tryz.prog) 26 35 (.slice none 0 0) 24 Tryz.underlying26 Tryz.infoSlI64 rfl .i64 .i64 0 (by omega) (by omega);have hcell2: ∀o,(w5.alloc o).cell? ⟨wo.heap.size,0,none⟩=some (.slice none 0 0):=fun o=>by rw[World.cell?_alloc_lt _ _ _ (by show wo.heap.size<_;omega)];exact hcell
   clear hblk h1 h2 h3 HC
   go_wp2_with fail
   refine wp_loop_rounds 1 ?_;rw[rounds_succ]
   go_wp2_with fail
   go_ret2
   refine⟨?_,(HE.out.trans HE5.out).alloc _⟩;rw[HIO.out];exact⟨[],.refl _,(by intro i j a b _ h;simp at h),some ⟨w5.heap.size,0,none⟩,rfl,pC.nil _ _ _,by simp[bA],w5.heap.size,rfl,by have:=HE.out.size;have:=HE5.out.size;omega,by simp,by intro i r hr;simp[bA]at hr⟩
def yj (a b:Int×List Int):Prop:=a.1<b.1\/a.1=b.1/\cB a.2 b.2<0
instance (a b:Int×List Int):Decidable (yj a b):=inferInstanceAs (Decidable (_\/_))
def l5 (x:Int×List Int):List (Int×List Int)->List (Int×List Int)
 |[]=>[x]
 |a::l=>if yj a x then a::l5 x l else if yj x a then x::a::l else a::l
def im (l:List (Int×List Int)):List (Int×List Int):=l.foldl (fun acc x=>l5 x acc) []
theorem nq (a:Int×List Int): ¬yj a a:=by
 unfold yj;rw[fF];omega
theorem vL {a b c:Int×List Int} (h1:yj a b) (h2:yj b c):yj a c:=by
 unfold yj at*
 rcases h1 with h1|⟨h1,h1'⟩<;>rcases h2 with h2|⟨h2,h2'⟩
 ·omega
 ·omega
 ·omega
 exact .inr ⟨by omega,kz h1' h2'⟩
theorem pV {a b:Int×List Int} (h1: ¬yj a b) (h2: ¬yj b a):a=b:=by
 unfold yj at*
 have ha:=jX a.2 b.2;have e1:a.1=b.1:=by omega
 have e2:cB a.2 b.2=0:=by omega
 exact Prod.ext e1 (mj e2)
def C9 (l:List (Int×List Int)):Prop:=l.Pairwise yj
theorem Du: ∀{l m:List (Int×List Int)},C9 l->C9 m->(∀x,x∈l↔x∈m)->l=m
 |[],[],_,_,_=>rfl
 |[],b::m,_,_,h=>by have:=(h b).2 List.mem_cons_self;simp at this
 |a::l,[],_,_,h=>by have:=(h a).1 List.mem_cons_self;simp at this
 |a::l,b::m,hl,hm,h=>by
  obtain⟨hl1,hl2⟩:=List.pairwise_cons.1 hl;obtain⟨hm1,hm2⟩:=List.pairwise_cons.1 hm;have e:a=b:=by
   rcases List.mem_cons.1 ((h a).1 List.mem_cons_self)with e|ha
   ·exact e
   rcases List.mem_cons.1 ((h b).2 List.mem_cons_self)with e|hb
   ·exact e.symm
   exact absurd (vL (hm1 a ha) (hl1 b hb)) (nq b)
  subst e;rw[Du hl2 hm2 (fun x=>?_)];constructor
  ·intro hx;rcases List.mem_cons.1 ((h x).1 (List.mem_cons_of_mem _ hx))with e|hx'
   ·subst e;exact absurd (hl1 x hx) (nq x)
   exact hx'
  intro hx;rcases List.mem_cons.1 ((h x).2 (List.mem_cons_of_mem _ hx))with e|hx'
  ·subst e;exact absurd (hm1 x hx) (nq x)
  exact hx'
theorem tE {x y:Int×List Int}: ∀{l:List (Int×List Int)},y∈l5 x l↔y=x\/y∈l
 |[]=>by simp[l5]
 |a::l=>by
  unfold l5;split
  ·rw[List.mem_cons,tE,List.mem_cons];constructor
   ·rintro(h|h|h)
    ·exact .inr (.inl h)
    ·exact .inl h
    exact .inr (.inr h)
   rintro(h|h|h)
   ·exact .inr (.inl h)
   ·exact .inl h
   exact .inr (.inr h)
  split
  ·rw[List.mem_cons]
  rename_i h1 h2;have e:=pV h2 h1;constructor
  ·exact .inr
  rintro(h|h)
  ·rw[h,e];exact List.mem_cons_self
  exact h
theorem zX {x:Int×List Int}: ∀{l:List (Int×List Int)},C9 l->C9 (l5 x l)
 |[],_=>by simp[l5,C9]
 |a::l,h=>by
  obtain⟨h1,h2⟩:=List.pairwise_cons.1 h;unfold l5;split
  ·rename_i hlt;refine List.pairwise_cons.2 ⟨fun y hy=>?_,zX h2⟩;rcases tE.1 hy with e|hy
   ·rw[e];exact hlt
   exact h1 y hy
  split
  ·rename_i hlt;refine List.pairwise_cons.2 ⟨fun y hy=>?_,h⟩;rcases List.mem_cons.1 hy with e|hy
   ·rw[e];exact hlt
   exact vL hlt (h1 y hy)
  exact h
theorem sI: ∀(l acc:List (Int×List Int)),C9 acc->C9 (l.foldl (fun acc x=>l5 x acc) acc)/\ ∀y,y∈l.foldl (fun acc x=>l5 x acc) acc↔y∈l\/y∈acc
 |[],acc,h=>⟨h,fun y=>by simp⟩
 |x::l,acc,h=>by
  obtain⟨h1,h2⟩:=sI l (l5 x acc) (zX h);refine⟨h1,fun y=>?_⟩;show y∈l.foldl _ (l5 x acc)↔_;rw[h2,tE,List.mem_cons];constructor
  ·rintro(h|h|h)
   ·exact .inl (.inr h)
   ·exact .inl (.inl h)
   exact .inr h
  rintro((h|h)|h)
  ·exact .inr (.inl h)
  ·exact .inl h
  exact .inr (.inr h)
theorem G4 (l:List (Int×List Int)):C9 (im l):=(sI l [] (by simp[C9])).1
theorem wD {l:List (Int×List Int)} {y:Int×List Int}:y∈im l↔y∈l:=by
 unfold im;rw[(sI l [] (by simp[C9])).2];simp
theorem sf {a b:NItem}:gm a b<0↔yj a.dat b.dat:=by unfold gm yj;rw[w8];rfl
theorem y8 {a b:NItem}:sD a b=true↔a.dat=b.dat:=by
 unfold sD gm;rw[beq_iff_eq,E8];constructor
 ·rintro⟨h1,h2⟩;exact Prod.ext h1 h2
 intro h;exact⟨congrArg Prod.fst h,congrArg Prod.snd h⟩
theorem qx: ∀{l:List NItem} {p:NItem},(∀(i j:Nat) a b,i<j->(p::l)[i]?=some a->(p::l)[j]?=some b-> ¬gm b a<0)->
  C9 ((p::cY p l).map NItem.dat)/\ ∀y,y∈(p::cY p l).map NItem.dat↔y∈(p::l).map NItem.dat
 |[],p,_=>by simp[cY,C9]
 |b::l,p,h=>by
  have hs: ∀(i j:Nat) a c,i<j->(b::l)[i]?=some a->(b::l)[j]?=some c-> ¬gm c a<0:=fun i j a c hij ha hc=>h (i+1) (j+1) a c (by omega) (by simpa using ha) (by simpa using hc)
  obtain⟨h1,h2⟩:=qx hs;have hpb: ¬gm b p<0:=h 0 1 p b (by omega) rfl rfl;unfold cY;split
  ·rename_i e;rw[y8]at e;simp only[List.map_cons]at h1 h2⊢;rw[<- e];refine⟨h1,fun y=>?_⟩;rw[h2 y]
   simp
  rename_i e;rw[y8]at e;refine⟨?_,fun y=>?_⟩
  ·rw[List.map_cons];refine List.pairwise_cons.2 ⟨fun y hy=>?_,h1⟩;rw[h2 y]at hy;obtain⟨c,hc,rfl⟩:=List.mem_map.1 hy;obtain⟨j,hj,hjc⟩:=List.getElem_of_mem hc;have q: ¬gm c p<0:=h 0 (j+1) p c (by omega) rfl (by simp;rw[List.getElem?_eq_getElem hj,hjc]);rw[sf]at q;by_cases hlt:yj p.dat c.dat
   ·exact hlt
   have e2:=pV q hlt;exfalso;have q2: ¬gm c b<0:=by
    cases j with
    |zero=>simp at hjc;subst hjc;unfold gm;rw[w8,fF];omega
    |succ j=>exact hs 0 (j+1) b c (by omega) rfl (by rw[List.getElem?_eq_getElem hj,hjc])
   rw[sf,e2]at q2;rw[sf]at hpb;exact e (pV hpb q2)
  rw[List.map_cons,List.mem_cons,h2 y]
  simp
theorem xb {L:List NItem} {ks:List (Int×List Int)} (hp:(L.map NItem.dat).Perm ks) (hs:nQ L):(bA L).map NItem.dat=im ks:=by
 have hc:C9 ((bA L).map NItem.dat)/\ ∀y,y∈(bA L).map NItem.dat↔y∈L.map NItem.dat:=by
  cases L with
  |nil=>simp[bA,C9]
  |cons a l=>exact qx hs
 refine Du hc.1 (G4 ks) (fun x=>?_);rw[hc.2 x,wD];exact hp.mem_iff
theorem oq {L:List NItem} {ks:List (Int×List Int)} (hp:(L.map NItem.dat).Perm ks) (hs:nQ L):(bA L).map NItem.vals=(im ks).map Prod.snd:=by
 rw[<- xb hp hs,List.map_map];rfl
def SX (w':World) (r:Option (List (Int×List Int))) (e:Ending):Prop:=match r with
 |none=>e= .returned (.tuple #[.slice none 0 0,.bool false])
 |some ks=> ∃A,e= .returned (.tuple #[.slice A ((im ks).map Prod.snd).length ((im ks).map Prod.snd).length,.bool true])/\pC .i64 w' A ((im ks).map Prod.snd)
def Sp (k0:Nat) (w':World) (r:Option (List (Int×List Int))) (e:Ending):Prop:=match r with
 |none=>e= .returned (.tuple #[.slice none 0 0,.bool false])
 |some ks=> ∃A,e= .returned (.tuple #[.slice A ((im ks).map Prod.snd).length ((im ks).map Prod.snd).length,.bool true])/\Lu k0 w' A ((im ks).map Prod.snd)
theorem A7.plain {k0:Nat} {w':World} {r:Option (List (Int×List Int))} {e:Ending} (h:A7 k0 w' r e):SX w' r e/\Sp k0 w' r e:=by
 cases r with
 |none=>exact⟨h,h⟩
 |some ks=>
  obtain⟨L,hp,hs,A,he,hrd,hnew⟩:=h;rw[oq hp hs]at hrd hnew;have he2:e= .returned (.tuple #[.slice A ((im ks).map Prod.snd).length ((im ks).map Prod.snd).length,.bool true]):=by
   rw[<- oq hp hs];simpa using he
  exact⟨⟨A,he2,hrd⟩,A,he2,hnew⟩
theorem uo (A B:Option Addr) (c d:Nat) (rows l:List (List Int)) (w:World) (hR:pC .i64 w A rows) (hl:pC .i64 w B l) (lr:rows.length<=9223372036854775807) (hc:rows.length<=c) (ll:l.length<=65536):
  Calls Tryz.prog 89 #[.slice A rows.length c,.slice B l.length d] w fun e w'=>Sp w.heap.size w' (if isReducedM rows then fi rows l else none) e/\Ext w w':=
 (un A B c d rows l w hR hl lr hc ll).mono fun _ _ ⟨h1,h2⟩=>⟨h1.plain.2,h2⟩
def eu (x:List Int):Int:=match x.find? (fun c=>c !=0)with|none=>0|some c=>if c<0 then -1 else 1
theorem ud (x:List Int):eu x=0\/eu x=1\/eu x= -1:=by
 unfold eu;split
 ·simp
 split<;>simp
theorem Bx {x:List Int} (h:AZ x=true):gD x=if eu x=0 then none else some (x.map fun a=>eu x*a):=by
 unfold gD eu;rw[h];cases hf:x.find? (fun c=>c !=0)with
 |none=>simp
 |some c=>
  simp only[if_true];by_cases hc:c<0
  ·simp[hc]
  simp[hc]
def G9 (x:List Int):List Int:=x.map fun a=>eu x*a
theorem ki {x:List Int}:eu x=0↔ ∀c∈x,c=0:=by
 unfold eu;split
 ·rename_i h;rw[List.find?_eq_none]at h;exact⟨fun _ c hc=>by simpa using h c hc,fun _=>rfl⟩
 rename_i c h;have h1:=List.find?_some h;have h2:=List.mem_of_find?_eq_some h;constructor
 ·intro hh;split at hh<;>cases hh
 intro hh;have:=hh c h2;simp[this]at h1
theorem ue {x:List Int} {s:Int} (hs:s=1\/s= -1):eu (x.map fun a=>s*a)=s*eu x:=by
 unfold eu;rw[List.find?_map];have e:((fun c:Int=>c !=0)∘fun a=>s*a)=fun c:Int=>c !=0:=by
  funext c;simp only[Function.comp];rw[Bool.eq_iff_iff];simp only[bne_iff_ne,ne_eq];rcases hs with rfl|rfl<;>omega
 rw[e];cases h:x.find? (fun c=>c !=0)with
 |none=>simp
 |some c=>
  have h1:=List.find?_some h;simp only[ah];have hc:c≠0:=by simpa using h1
  rcases hs with rfl|rfl
  ·simp
  by_cases h0:c<0
  ·rw[if_neg (by omega),if_pos h0];rfl
  rw[if_pos (by omega),if_neg h0];rfl
theorem LX {x:List Int} {s:Int} (hs:s=1\/s= -1):G9 (x.map fun a=>s*a)=G9 x:=by
 unfold G9;rw[ue hs,List.map_map];refine List.map_congr_left fun a _=>?_
 show s*eu x*(s*a)=_;rcases hs with rfl|rfl<;>grind
abbrev jk:TV:= .one .junk
def j4 (l:List TV):List TV:=jk::jk::jk::jk::l
def j16 (l:List TV):List TV:=j4 (j4 (j4 (j4 l)))
def rN (n:Nat):TV:= .raw (.int .i64 (n:Int))
theorem SR:Hm []=fun _=>[]:=rfl
theorem SS (k:Nat) (F:List OObj) (l:List (Nat×List OObj)):Hm ((k,F)::l)=fun a=>if a=k then F else Hm l a:=rfl
def wk:=And.intro @OC.eq_1<|And.intro @OC.eq_2<|And.intro @OC.eq_3<|And.intro @JF.eq_def<|And.intro @xz.eq_def<|And.intro @j4.eq_1<|And.intro @j16.eq_1<|And.intro @rN.eq_1<|True.intro
def kd:=And.intro @AS.ev.eq_def<|And.intro @AS.put.eq_def<|And.intro @Bool.and_false<|And.intro @Bool.and_self<|And.intro @Bool.and_true<|And.intro @Bool.false_eq_true<|And.intro @Bool.not_false<|And.intro @Bool.not_true<|And.intro @Bool.or_false<|And.intro @Bool.or_true<|And.intro @Bool.true_and<|And.intro @aH.a.eq_1<|And.intro @CallRes.plain.eq_1<|And.intro @SR<|And.intro @SS<|And.intro @Int.natCast_nonneg<|And.intro @Int.toNat_natCast<|And.intro @List.all_cons.{0}<|And.intro @List.all_nil.{0}<|And.intro @List.append_nil.{0}<|And.intro @List.cons_append.{0}<|And.intro @List.contains_cons.{0}<|And.intro @List.contains_nil.{0}<|And.intro @List.drop_succ_cons.{0}<|And.intro @List.drop_zero.{0}<|And.intro @List.find?_cons.{0}<|And.intro @List.find?_nil.{0}<|And.intro @List.getElem?_cons_succ.{0}<|And.intro @List.getElem?_cons_zero.{0}<|And.intro @List.getElem?_toArray.{0}<|And.intro @List.isEmpty_cons.{0}<|And.intro @List.isEmpty_nil.{0}<|And.intro @List.isEmpty_toArray.{0}<|And.intro @List.length_cons.{0}<|And.intro @List.length_map.{0,0}<|And.intro @List.length_nil.{0}<|And.intro @List.map_cons.{0,0}<|And.intro @List.map_nil.{0,0}<|And.intro @List.nil_append.{0}<|And.intro @List.set_cons_succ.{0}<|And.intro @List.set_cons_zero.{0}<|And.intro @List.take_succ_cons.{0}<|And.intro @List.take_zero.{0}<|And.intro @Nat.add_zero<|And.intro @ae<|And.intro @Nat.zero_add<|And.intro @Option.bind_some.{0,0}<|And.intro @Option.map_none.{0,0}<|And.intro @Option.map_some.{0,0}<|And.intro @Tryz.underlying116<|And.intro @Tryz.underlying165<|And.intro @Tryz.underlying2<|And.intro @Tryz.underlying5<|And.intro @Value.oneCell'.eq_def<|And.intro @LK<|And.intro @OX<|And.intro @and_false<|And.intro @and_self<|And.intro @and_true<|And.intro @Rp.eq_def<|And.intro @beq_self_eq_true.{0}<|And.intro @dG.eq_def<|And.intro @Bu.eq_def<|And.intro @cellsOf.eq_def<|And.intro @Sv<|And.intro @Sw<|And.intro @decide_false<|And.intro @decide_true<|And.intro @cf.eq_def<|And.intro @eY.eq_def<|And.intro @iB.eq_def<|And.intro @bQ.eq_def<|And.intro @ew.eq_1<|And.intro @ew.eq_2<|And.intro @vC.eq_def<|And.intro @Fo.eq_def<|And.intro @fI.eq_1<|And.intro @fN.eq_1<|And.intro @fU.eq_1<|And.intro @false_and<|And.intro @ic.eq_1<|And.intro @ic.eq_2<|And.intro @dI.eq_def<|And.intro @eZ.eq_def<|And.intro @Ta<|And.intro @Tb<|And.intro @if_false.{1}<|And.intro @if_true.{1}<|And.intro @B9.eq_def<|And.intro @isPure.eq_def<|And.intro @a6.eq_def<|And.intro @i4.eq_1<|And.intro @a7.eq_def<|And.intro @Mq<|And.intro @ij<|And.intro @xn<|And.intro @xo<|And.intro @jK<|And.intro @xp<|And.intro @mr<|And.intro @jL<|And.intro @gQ<|And.intro @nn.eq_1<|And.intro @nn.eq_2<|And.intro @Mv<|And.intro @fY<|And.intro @eH<|And.intro @PR<|And.intro @PS<|And.intro @Mw<|And.intro @Li.eq_def<|And.intro @FL<|And.intro @uU.eq_def<|And.intro @fA.eq_def<|And.intro @vQ.eq_def<|And.intro @tc.eq_def<|And.intro @dZ.eq_def<|And.intro @noRefTV.eq_def<|And.intro @fJ.eq_def<|And.intro @dU.eq_def<|And.intro @mz.eq_def<|And.intro @ML.eq_def<|And.intro @FU<|And.intro @Cl<|And.intro @Cm<|And.intro @MM<|And.intro @MN<|And.intro @FV<|And.intro @tp<|And.intro @JJ<|And.intro @FX<|And.intro @JK<|And.intro @zP<|And.intro @FY<|And.intro @uV<|And.intro @uW<|And.intro @MO<|And.intro @JL<|And.intro @xA<|And.intro @uX<|And.intro @MP<|And.intro @JM<|And.intro @xB<|And.intro @JN<|And.intro @FZ<|And.intro @F0<|And.intro @P5<|And.intro @kY.eq_def<|And.intro @zU.eq_1<|And.intro @bC.eq_1<|And.intro @bC.eq_2<|And.intro @putCells.eq_1<|And.intro @oZ.eq_def<|And.intro @l6.eq_def<|And.intro @cb.eq_def<|And.intro @renO.eq_1<|And.intro @renTV.eq_def<|And.intro @qc.eq_def<|And.intro @tL.eq_1<|And.intro @tL.eq_2<|And.intro @qe.eq_def<|And.intro @wj<|And.intro @Kb<|And.intro @Gt<|And.intro @true_and<|And.intro @yb.eq_def<|And.intro @Gz<|And.intro @GA<|And.intro @GC<|And.intro @GD<|And.intro @GE<|And.intro @GF<|And.intro @GG<|And.intro @GH<|And.intro @NC<|And.intro @KE<|And.intro @GI<|And.intro @KF<|And.intro @KG<|And.intro @KH<|And.intro @KI<|And.intro @ND<|And.intro @KJ<|And.intro @NE<|And.intro @KK<|And.intro @NF<|And.intro @KL<|And.intro @KM<|And.intro @KN<|And.intro @KO<|And.intro @KP<|And.intro @KQ<|And.intro @KR<|And.intro @KS<|And.intro @KT<|And.intro @QH<|And.intro @QI<|And.intro @NG<|And.intro @NH<|And.intro @NI<|And.intro @NJ<|And.intro @AF<|And.intro @AG<|And.intro @AH<|And.intro @AI<|And.intro @AJ<|And.intro @AK<|And.intro @AL<|And.intro @AM<|And.intro @AN<|And.intro @AO<|And.intro @AP<|And.intro @AQ<|And.intro @AR<|And.intro @AT<|And.intro @CI<|And.intro @CJ<|And.intro @CK<|And.intro @CL<|And.intro @CM<|And.intro @GJ<|And.intro @GK<|And.intro @NK<|And.intro @NL<|And.intro @NM<|And.intro @GL<|And.intro @GM<|And.intro @GN<|And.intro @GO<|And.intro @GP<|And.intro @GQ<|And.intro @GR<|And.intro @KU<|And.intro @CN<|And.intro @CO<|And.intro @CP<|And.intro @CQ<|And.intro @CR<|And.intro @CS<|And.intro @CT<|And.intro @CU<|And.intro @KV<|And.intro @KW<|And.intro @KX<|And.intro @KY<|And.intro @KZ<|And.intro @K0<|And.intro @K1<|And.intro @K2<|And.intro @QJ<|And.intro @NN<|And.intro @K3<|And.intro @NO<|And.intro @NP<|And.intro @NQ<|And.intro @NR<|And.intro @QK<|And.intro @NS<|And.intro @QL<|And.intro @NT<|And.intro @QM<|And.intro @NU<|And.intro @NV<|And.intro @NW<|And.intro @NX<|And.intro @NY<|And.intro @NZ<|And.intro @CV<|And.intro @CW<|And.intro @CX<|And.intro @CY<|And.intro @CZ<|And.intro @C0<|And.intro @C1<|And.intro @C2<|And.intro @C3<|And.intro @K4<|And.intro @C4<|And.intro @C5<|And.intro @GS<|And.intro @GU<|And.intro @GV<|And.intro @K5<|And.intro @GW<|And.intro @K6<|And.intro @GX<|And.intro @GY<|And.intro @GZ<|And.intro @G0<|And.intro @G3<|And.intro @ri.eq_def<|And.intro @aJ.eq_1<|And.intro @Se.eq_def<|And.intro @j4.eq_1<|And.intro @j16.eq_1<|And.intro @rN.eq_1<|True.intro
abbrev bS (l:List Nat):TV:= .one (.p (.sl (ls fU l)))
theorem ms {n:Nat} (h: ¬n=0):n/4294967296<n:=Nat.div_lt_self (by omega) (by omega)
def aY (n:Nat):List Nat:=if n=0 then[]else n%4294967296::aY (n/4294967296)
termination_by n
decreasing_by exact ms (by assumption)
theorem da:aY 0=[]:=by rw[aY];simp
theorem mt {n:Nat} (h:n≠0):aY n=n%4294967296::aY (n/4294967296):=by rw[aY];simp[h]
theorem a8 (n:Nat):natV (aY n)=n:=by
 induction n using Nat.strongRecOn with
 |_ n ih=>
  by_cases h:n=0
  ·subst h;rw[da];rfl
  rw[mt h,natV,ih _ (ms h)];omega
theorem bK (n:Nat):Lmb (aY n):=by
 induction n using Nat.strongRecOn with
 |_ n ih=>
  by_cases h:n=0
  ·subst h;rw[da];intro a ha;simp at ha
  rw[mt h];intro a ha;rcases List.mem_cons.1 ha with rfl|ha
  ·omega
  exact ih _ (ms h) a ha
theorem dD (n:Nat):nN (aY n):=by
 induction n using Nat.strongRecOn with
 |_ n ih=>
  by_cases h:n=0
  ·subst h;rw[da];simp[nN]
  rw[mt h];by_cases h2:n/4294967296=0
  ·rw[h2,da];simp[nN];omega
  have:=ih _ (ms h);rw[mt h2]at this⊢;unfold nN at*
  rw[List.getLast?_cons_cons];exact this
theorem ID {l:List Nat} (h1:Lmb l) (h2:nN l):l=aY (natV l):=
 LT h1 (bK _) h2 (dD _) (a8 _).symm
theorem ja {l:List Nat} (h1:Lmb l):eB l=aY (natV l):=by
 rw[ID (KD h1) (KC l),FO]
theorem mK (n:Nat):eB (aY n)=aY n:=qX (dD n)
theorem xr {n:Nat}:aY n=[]↔n=0:=⟨fun h=>by rw[<- a8 n,h];rfl,fun h=>by rw[h,da]⟩
theorem j3 {n k:Nat} (h:n<4294967296^k):(aY n).length<=k:=Bw (dD n) (by rw[a8];exact h)
theorem i5 {n:Nat}:(aY n).length=0↔n=0:=by rw[List.length_eq_zero_iff,xr]
def Sz (z:Int) (k:Nat):Prop:=z.natAbs<4294967296^k
theorem Sz.len {z:Int} {k:Nat} (h:Sz z k):(aY z.natAbs).length<=k:=j3 h
theorem Sz.mono {z:Int} {k l:Nat} (h:Sz z k) (hl:k<=l):Sz z l:=Nat.lt_of_lt_of_le h (aD (by omega) hl)
def fZ (z:Int):List PV:=[.raw (.bool (decide (z<0))),.sl (ls fU (aY z.natAbs))]
theorem Px (z:Int):(fZ z).length=2:=rfl
def cZ (z:Int):List AV:=[.p (.raw (.bool (decide (z<0)))),.p (.sl (ls fU (aY z.natAbs)))]
abbrev tZ (z:Int):TV:= .agg [.p (.raw (.bool (decide (z<0)))),.p (.sl (ls fU (aY z.natAbs)))]
theorem Ap (neg:Bool) (n:Nat):(iq neg n).natAbs=n:=by unfold iq;split<;>simp
theorem Nh (neg:Bool) (n:Nat):decide (iq neg n<0)=(neg&&decide (0<n)):=by
 unfold iq;cases neg with
 |true=>simp
 |false=>simp
abbrev Bg (z:Int):Prop:=Sz z 1073741824
theorem Bg.len {z:Int} (h:Bg z):(aY z.natAbs).length<=1073741824:=j3 h
theorem PU (z:Int):iq (!decide (z<0)) z.natAbs= -z:=by unfold iq;by_cases h:z<0<;>simp[h]<;>omega
theorem D8 (z:Int):iq (decide (z<0)) z.natAbs=z:=by unfold iq;by_cases h:z<0<;>simp[h]<;>omega
def sumL:List Nat->List Nat->Nat->List Nat
 |[],[],c=>[c]
 |a::m,[],c=>(c+a)%4294967296::sumL m [] ((c+a)/4294967296)
 |[],b::n,c=>(c+b)%4294967296::sumL [] n ((c+b)/4294967296)
 |a::m,b::n,c=>(c+a+b)%4294967296::sumL m n ((c+a+b)/4294967296)
theorem my: ∀(m n:List Nat) (c:Nat),natV (sumL m n c)=natV m+natV n+c
 |[],[],c=>by simp[sumL,natV]
 |a::m,[],c=>by simp only[sumL,natV,my m []];omega
 |[],b::n,c=>by simp only[sumL,natV,my [] n];omega
 |a::m,b::n,c=>by simp only[sumL,natV,my m n];omega
theorem d7 {a:Nat} {l:List Nat}:Lmb (a::l)↔a<4294967296/\Lmb l:=by simp[Lmb]
theorem oK: ∀(m n:List Nat) (c:Nat),Lmb m->Lmb n->c<=1->Lmb (sumL m n c)
 |[],[],c,_,_,hc=>by simp[sumL,Lmb];omega
 |a::m,[],c,hm,hn,hc=>by
  rw[d7]at hm;rw[sumL,d7];exact⟨Nat.mod_lt _ (by omega),oK m [] _ hm.2 hn (by omega)⟩
 |[],b::n,c,hm,hn,hc=>by
  rw[d7]at hn;rw[sumL,d7];exact⟨Nat.mod_lt _ (by omega),oK [] n _ hm hn.2 (by omega)⟩
 |a::m,b::n,c,hm,hn,hc=>by
  rw[d7]at hm hn;rw[sumL,d7];exact⟨Nat.mod_lt _ (by omega),oK m n _ hm.2 hn.2 (by omega)⟩
theorem pw: ∀(m n:List Nat) (c:Nat),(sumL m n c).length=max m.length n.length+1
 |[],[],c=>by simp[sumL]
 |a::m,[],c=>by simp[sumL,pw m []]
 |[],b::n,c=>by simp[sumL,pw [] n]
 |a::m,b::n,c=>by simp[sumL,pw m n]
theorem kA {l:List Nat} {i a:Nat} (h:l[i]?=some a):l.drop i=a::l.drop (i+1):=by
 obtain⟨h1,rfl⟩:=List.getElem?_eq_some_iff.1 h;exact List.drop_eq_getElem_cons h1
theorem lI {l:List Nat} {i:Nat} (h:l.length<=i):l.drop i=[]:=List.drop_eq_nil_iff.2 h
theorem cH {l:List Nat} {i a:Nat} (hl:Lmb l) (h:l[i]?=some a):a<4294967296:=hl a (ax h)
theorem EE (x:Nat):IntKind.u32.wrap (x:Int)=((x%4294967296:Nat):Int):=by rw[IntKind.wrap_u32];omega
theorem Ot (x:Nat):(x:Int).fdiv (2^(min 32 IntKind.u64.bits))=((x/4294967296:Nat):Int):=by
 show Int.fdiv (x:Int) 4294967296=_;rw[Int.fdiv_eq_ediv_of_nonneg _ (by omega)];omega
def diffL:List Nat->List Nat->Nat->List Nat
 |[],_,_=>[]
 |a::m,[],w=>(a+8589934592-w)%4294967296::diffL m [] (if a<w then 1 else 0)
 |a::m,b::n,w=>(a+8589934592-(w+b))%4294967296::diffL m n (if a<w+b then 1 else 0)
theorem ny: ∀(m n:List Nat) (w:Nat),Lmb m->Lmb n->w<=1->n.length<=m.length->natV n+w<=natV m->natV (diffL m n w)+(natV n+w)=natV m
 |[],[],w,_,_,_,_,h=>by simp[diffL,natV]at*;omega
 |[],b::n,w,_,_,_,h,_=>by simp at h
 |a::m,[],w,hm,hn,hw,hl,h=>by
  rw[d7]at hm;simp only[natV]at h;have:=ny m [] (if a<w then 1 else 0) hm.2 hn (by split<;>omega) (by simp) (by simp only[natV];split<;>omega);simp only[diffL,natV]at this⊢;split at this<;>rename_i hlt<;>simp only[hlt,if_true,if_false]<;>omega
 |a::m,b::n,w,hm,hn,hw,hl,h=>by
  rw[d7]at hm hn;simp only[natV]at h;have:=ny m n (if a<w+b then 1 else 0) hm.2 hn.2 (by split<;>omega) (by simpa using hl) (by split<;>omega);simp only[diffL,natV]at this⊢;split at this<;>rename_i hlt<;>simp only[hlt,if_true,if_false]<;>omega
theorem pU: ∀(m n:List Nat) (w:Nat),Lmb (diffL m n w)
 |[],n,w=>by simp[diffL,Lmb]
 |a::m,[],w=>by rw[diffL,d7];exact⟨Nat.mod_lt _ (by omega),pU m [] _⟩
 |a::m,b::n,w=>by rw[diffL,d7];exact⟨Nat.mod_lt _ (by omega),pU m n _⟩
theorem pM: ∀(m n:List Nat) (w:Nat),(diffL m n w).length=m.length
 |[],n,w=>by simp[diffL]
 |a::m,[],w=>by simp[diffL,pM m []]
 |a::m,b::n,w=>by simp[diffL,pM m n]
structure Sk (m n:List Nat) where
 i:Nat
 o:List Nat
 c:Nat
 hi:i<=m.length
 hc:c<=1
 ho:o.length=i
 h:o++diffL (m.drop i) (n.drop i) c=diffL m n 0
abbrev Bh (z:Int):Prop:=Sz z 536870912
theorem Bh.bg {z:Int} (h:Bh z):Bg z:=h.mono (by omega)
theorem Bh.len {z:Int} (h:Bh z):(aY z.natAbs).length<=536870912:=j3 h
theorem Sz.neg {z:Int} {k:Nat} (h:Sz z k):Sz (-z) k:=by unfold Sz;rw[Int.natAbs_neg];exact h
theorem Bh.neg {z:Int} (h:Bh z):Bh (-z):=Sz.neg h
theorem lU {l m:List Nat} (hl:Lmb l) (cm:nN m) (h:natV m<=natV l):m.length<=l.length:=by
 by_cases hc:m.length<=l.length
 ·exact hc
 have:=lV hl cm (by omega);omega
theorem s9: ∀(l:List Nat) (k v o:Nat),l[k]?=some o->natV (l.set k v)+o*4294967296^k=natV l+v*4294967296^k
 |[],k,v,o,h=>by simp at h
 |a::l,0,v,o,h=>by simp at h;subst h;simp[natV];omega
 |a::l,k+1,v,o,h=>by
  simp at h;have:=s9 l k v o h;simp only[List.set_cons_succ,natV,Nat.pow_succ];have e1:o*(4294967296^k*4294967296)=4294967296*(o*4294967296^k):=by rw[<- Nat.mul_assoc,Nat.mul_comm]
  have e2:v*(4294967296^k*4294967296)=4294967296*(v*4294967296^k):=by rw[<- Nat.mul_assoc,Nat.mul_comm]
  rw[e1,e2];omega
theorem D0 {l:List Nat} (h:Lmb l) {k v:Nat} (hv:v<4294967296):Lmb (l.set k v):=fun a ha=>by
 rcases List.mem_or_eq_of_mem_set ha with ha|rfl
 ·exact h a ha
 exact hv
theorem Jz (n:Nat):natV (af n 0)=0:=by induction n with
 |zero=>rfl
 |succ n ih=>simp[List.replicate_succ,natV,ih]
theorem bv {l:List Nat} {i a:Nat} (h:l[i]?=some a):natV (l.take (i+1))=natV (l.take i)+a*4294967296^i:=by
 obtain⟨h1,rfl⟩:=List.getElem?_eq_some_iff.1 h;rw[List.take_succ_eq_append_getElem h1,ik,List.length_take,Nat.min_eq_left (by omega)];simp[natV,Nat.mul_comm]
theorem oJ (n:Nat):af n [AV.p (.raw (.int .u32 0))]=lc fU (af n 0):=by simp[lc,fU]
theorem dy (l:List Nat) (k v:Nat):(lc fU l).set k [AV.p (.raw (.int .u32 (v:Int)))]=lc fU (l.set k v):=by simp[lc,fU,List.map_set]
structure Hh (A B:List Nat) where
 i:Nat
 O:List Nat
 hi:i<=A.length
 len:O.length=A.length+B.length
 lmb:Lmb O
 val:natV O=natV (A.take i)*natV B
 zero: ∀k,i+B.length<=k->k<A.length+B.length->O[k]?=some 0
structure Ls (A B:List Nat) (i a:Nat) where
 j:Nat
 O:List Nat
 c:Nat
 hj:j<=B.length
 len:O.length=A.length+B.length
 lmb:Lmb O
 hc:c<4294967296
 val:natV O+c*4294967296^(i+j)=natV (A.take i)*natV B+a*natV (B.take j)*4294967296^i
 zero: ∀k,i+B.length<=k->k<A.length+B.length->O[k]?=some 0
theorem pX {a b:Nat} (ha:a<4294967296) (hb:b<4294967296):a*b<=18446744065119617025:=by
 have:a*b<=4294967295*4294967295:=Nat.mul_le_mul (by omega) (by omega);omega
theorem FH {A B:List Nat} {i a:Nat} (g:Ls A B i a) {y o:Nat} (hy:B[g.j]?=some y) (ho:g.O[i+g.j]?=some o) (hi:i<A.length) (ha:a<4294967296) (hy':y<4294967296):
  ∃g':Ls A B i a,g'.j=g.j+1/\g'.O=g.O.set (i+g.j) ((g.c+(a*y+o))%4294967296)/\g'.c=(g.c+(a*y+o))/4294967296:=by
 have hjl:g.j<B.length:=(List.getElem?_eq_some_iff.1 hy).1;have ho':=cH g.lmb ho;have hb:=pX ha hy';have hc:=g.hc;refine⟨⟨g.j+1,g.O.set (i+g.j) ((g.c+(a*y+o))%4294967296),(g.c+(a*y+o))/4294967296,hjl,by simp[g.len],D0 g.lmb (Nat.mod_lt _ (by omega)),?_,?_,fun k h1 h2=>?_⟩,rfl,rfl,rfl⟩
 ·generalize a*y=p at*
  omega
 ·have h1:=s9 g.O (i+g.j) ((g.c+(a*y+o))%4294967296) o ho;have h2:=bv hy;have h3:=g.val;rw[h2,show i+(g.j+1)=i+g.j+1 by omega,Nat.pow_succ,Nat.mul_add a,Nat.add_mul];have e1:a*(y*4294967296^g.j)*4294967296^i=a*y*4294967296^(i+g.j):=by
   rw[<- Nat.mul_assoc,Nat.mul_assoc,<- Nat.pow_add,Nat.add_comm g.j i]
  rw[e1];generalize 4294967296^(i+g.j)=X at*
  generalize a*y=p at*
  have e2:(g.c+(p+o))=(g.c+(p+o))%4294967296+4294967296*((g.c+(p+o))/4294967296):=(Nat.mod_add_div _ _).symm;generalize hr:(g.c+(p+o))%4294967296=r at*
  generalize hq:(g.c+(p+o))/4294967296=q at*
  generalize natV (g.O.set (i+g.j) r)=N at*
  generalize natV g.O=M at*
  generalize natV (A.take i)*natV B=U at*
  generalize a*natV (B.take g.j)*4294967296^i=V at*
  -- N + o X = M + r X, M + c X = U + V, c + p + o = r + B q
  have e3:g.c*X+(p*X+o*X)=r*X+q*(X*4294967296):=by
   have:=congrArg (· *X) e2;simp only[Nat.add_mul]at this;rw[this]
   congr 1
   rw[Nat.mul_comm 4294967296 q,Nat.mul_assoc,Nat.mul_comm 4294967296 X]
  omega
 rw[List.getElem?_set_ne (by omega)];exact g.zero k h1 h2
theorem FG {A B:List Nat} {i a:Nat} (hA:A[i]?=some a) (g:Ls A B i a) (hj: ¬g.j<B.length): ∃g':Hh A B,g'.i=i+1/\g'.O=g.O.set (i+B.length) g.c:=by
 have hi:=(List.getElem?_eq_some_iff.1 hA).1;have hjl:=g.hj;have e:g.j=B.length:=by omega
 have hz:=g.zero (i+B.length) (ae _) (by omega);refine⟨⟨i+1,g.O.set (i+B.length) g.c,hi,by simp[g.len],D0 g.lmb g.hc,?_,fun k h1 h2=>?_⟩,rfl,rfl⟩
 ·have h1:=s9 g.O (i+B.length) g.c 0 hz;have h2:=g.val;rw[e,List.take_length]at h2;rw[bv hA,Nat.add_mul];have e1:a*4294967296^i*natV B=a*natV B*4294967296^i:=by rw[Nat.mul_assoc,Nat.mul_comm (4294967296^i),<- Nat.mul_assoc]
  rw[e1];omega
 rw[List.getElem?_set_ne (by omega)];exact g.zero k (by omega) h2
theorem MD (a b:Int):iq (!(decide (a<0)==decide (b<0))) (a.natAbs*b.natAbs)=a*b:=by
 have h:=Int.natAbs_mul a b;unfold iq;rcases Int.lt_or_le a 0 with ha|ha<;>rcases Int.lt_or_le b 0 with hb|hb
 ·have:0<a*b:=Int.mul_pos_of_neg_of_neg ha hb;simp[ha,hb];omega
 ·have:a*b<=0:=Int.mul_nonpos_of_nonpos_of_nonneg (by omega) hb;have hb': ¬b<0:=by omega
  simp[ha,hb'];omega
 ·have:a*b<=0:=Int.mul_nonpos_of_nonneg_of_nonpos ha (by omega);have ha': ¬a<0:=by omega
  simp[ha',hb];omega
 have:0<=a*b:=Int.mul_nonneg ha hb;have ha': ¬a<0:=by omega
 have hb': ¬b<0:=by omega
 simp[ha',hb'];omega
abbrev S4 (neg:Bool) (A:List Nat):List OObj:=[⟨65,2,[[.p (.raw (.bool neg)),.p (.sl (ls fU A))]]⟩]
abbrev S3:List OObj:=[⟨65,2,[[.raw (.bool false),.raw (.slice none 0 0)]]⟩]
theorem xD (a b n:Nat) (h:b<2^n):(a*2^n)|||b=a*2^n+b:=by
 have:=Nat.shiftLeft_add_eq_or_of_lt h a;rw[Nat.shiftLeft_eq]at this;exact this.symm
theorem xC (a b n:Nat) (h:b<2^n):b|||(a*2^n)=a*2^n+b:=by rw[Nat.or_comm,xD a b n h]
theorem Cn (a b:Nat) (ha:a<18446744073709551616) (hb:b<18446744073709551616):IntKind.u64.wrap (((BitVec.ofInt IntKind.u64.bits (a:Int)|||BitVec.ofInt IntKind.u64.bits (b:Int)).toNat:Nat):Int)=((a|||b:Nat):Int):=by
 rw[IntKind.wrap_u64];show((BitVec.ofInt 64 (a:Int)|||BitVec.ofInt 64 (b:Int)).toNat:Int)%_=_;rw[BitVec.toNat_or];have e: ∀x:Nat,x<18446744073709551616->(BitVec.ofInt 64 (x:Int)).toNat=x:=fun x hx=>by rw[BitVec.toNat_ofInt];show((x:Int)%18446744073709551616).toNat=x;omega
 rw[e a ha,e b hb];have:=Nat.or_lt_two_pow (n:=64) ha hb;generalize a|||b=c at*
 omega
structure Sl (l:List Nat) where
 i:Nat
 u:Nat
 hi:i<=l.length/\i<=2
 hu:u=natV (l.take i)
theorem fc {l:List Nat} (h:Lmb l) (k:Nat):natV (l.take k)<4294967296^k:=by
 have h1:Lmb (l.take k):=fun a ha=>h a (List.mem_of_mem_take ha)
 have h2:=f8 h1;exact Nat.lt_of_lt_of_le h2 (aD (by omega) (by rw[List.length_take];omega))
def rg (z:Int):TV:=if -9223372036854775808<=z/\z<=9223372036854775807 then .tup [(false,[.p (.raw (.int .i64 z))]),(false,[.p (.raw (.bool true))])]else .tup [(false,[.p (.raw (.int .i64 0))]),(false,[.p (.raw (.bool false))])]
theorem Ca {n:Nat} (h:2<(aY n).length):18446744073709551616<=n:=by
 have h1:=sa (dD n) (by intro h0;rw[h0]at h;simp at h);rw[a8]at h1;have h2:4294967296^2<=4294967296^((aY n).length-1):=aD (by omega) (by omega);omega
theorem lP {n:Nat} (h:(aY n).length<=2):n<18446744073709551616:=by
 have h1:=f8 (bK n);rw[a8]at h1;have h2:4294967296^(aY n).length<=4294967296^2:=aD (by omega) h;omega
theorem LW {a b:Nat} (h:b<=a):0<=mL a b:=by unfold mL;split<;>(try split)<;>omega
abbrev Fb (a b:Nat):TV:= .tup [(false,[.p (.sl (ls fU (aY (a/b))))]),(false,[.p (.sl (ls fU (aY (a%b))))])]
theorem xq {a b:Nat} (h:a<=b):(aY a).length<=(aY b).length:=lU (bK _) (dD _) (by rw[a8,a8];exact h)
def tq (a b:Int):Int:=iq (!(decide (a<0)==decide (b<0))) (a.natAbs/b.natAbs)
def tr (a b:Int):Int:=iq (decide (a<0)) (a.natAbs%b.natAbs)
theorem KA (a b:Int):tr a b+b*tq a b=a:=by
 have h:=Nat.div_add_mod a.natAbs b.natAbs;have h':(b.natAbs:Int)*((a.natAbs/b.natAbs:Nat):Int)+((a.natAbs%b.natAbs:Nat):Int)=(a.natAbs:Int):=by
  have:=congrArg (Nat.cast (R:=Int)) h;simpa using this
 unfold tq tr iq;generalize a.natAbs/b.natAbs=q at*
 generalize a.natAbs%b.natAbs=r at*
 by_cases ha:a<0<;>by_cases hb:b<0
 ·rw[decide_eq_true ha,decide_eq_true hb];show -(r:Int)+b*(q:Int)=a;rw[show(b.natAbs:Int)= -b by omega,show(a.natAbs:Int)= -a by omega,Int.neg_mul]at h';omega
 ·rw[decide_eq_true ha,decide_eq_false hb];show -(r:Int)+b* -(q:Int)=a;rw[show(b.natAbs:Int)=b by omega,show(a.natAbs:Int)= -a by omega]at h';rw[Int.mul_neg];omega
 ·rw[decide_eq_false ha,decide_eq_true hb];show(r:Int)+b* -(q:Int)=a;rw[show(b.natAbs:Int)= -b by omega,show(a.natAbs:Int)=a by omega,Int.neg_mul]at h';rw[Int.mul_neg];omega
 rw[decide_eq_false ha,decide_eq_false hb];show(r:Int)+b*(q:Int)=a;rw[show(b.natAbs:Int)=b by omega,show(a.natAbs:Int)=a by omega]at h';omega
theorem QF (a b:Int):(tr a b).natAbs=a.natAbs%b.natAbs:=Ap _ _
theorem KB {a b:Int} (hb:b≠0):(tr a b).natAbs<b.natAbs:=by rw[QF];exact Nat.mod_lt _ (by omega)
theorem Ir {a b:Int} (hb:b≠0) (h:0<=tr a b):a/b=tq a b/\a%b=tr a b:=by
 have h1:=KA a b;have h2:=KB (a:=a) hb;rcases Int.lt_or_gt_of_ne hb with hn|hp
 ·exact(Int.ediv_emod_unique' hn).2 ⟨h1,h,by omega⟩
 exact(Int.ediv_emod_unique hp).2 ⟨h1,h,by omega⟩
theorem L6 {a b:Int} (hb:b<0) (h:tr a b<0):a/b=tq a b+1/\a%b=tr a b+b.natAbs:=by
 have h1:=KA a b;have h2:=KB (a:=a) (b:=b) (by omega);refine(Int.ediv_emod_unique' hb).2 ⟨?_,by omega,by omega⟩;rw[Int.mul_add,Int.mul_one];omega
theorem L7 {a b:Int} (hb:0<b) (h:tr a b<0):a/b=tq a b-1/\a%b=tr a b+b.natAbs:=by
 have h1:=KA a b;have h2:=KB (a:=a) (b:=b) (by omega);refine(Int.ediv_emod_unique hb).2 ⟨?_,by omega,by omega⟩;rw[Int.mul_sub,Int.mul_one];omega
theorem Sz.le {x y:Int} {k:Nat} (h:Sz y k) (hx:x.natAbs<=y.natAbs):Sz x k:=Nat.lt_of_le_of_lt hx h
theorem Qx {k:Nat} (h:0<k):Sz 1 k:=by unfold Sz;exact Nat.one_lt_pow (by omega) (by decide)
def fR {α:Type} (f:α->List PV) (r:List α):List PV:=[.sl (ls f r)]
abbrev jS (M:List (List Int)):TV:= .one (.p (.sl (ls (fR fZ) M)))
abbrev SD (n:Nat) (r:List Int):Prop:=1<=r.length/\r.length<=16/\r.length=n
def G7 (M:List (List Int)):Prop:=1<=M.length/\M.length<=16/\ ∀r∈M,SD (M.headD []).length r
instance (M:List (List Int)):Decidable (G7 M):=by unfold G7;exact inferInstance
def Q2 (M:List (List Int)):TV:=if G7 M then .tup [(false,[.p (.raw (.int .i64 (M.length:Int)))]),(false,[.p (.raw (.int .i64 ((M.headD []).length:Int)))]),(false,[.p (.raw (.bool true))])]
 else .tup [(false,[.p (.raw (.int .i64 0))]),(false,[.p (.raw (.int .i64 0))]),(false,[.p (.raw (.bool false))])]
theorem jR {M:List (List Int)} (h: ¬G7 M):Q2 M= .tup [(false,[.p (.raw (.int .i64 0))]),(false,[.p (.raw (.int .i64 0))]),(false,[.p (.raw (.bool false))])]:=by unfold Q2;rw[if_neg h]
theorem pj {M:List (List Int)} (h:G7 M):Q2 M= .tup [(false,[.p (.raw (.int .i64 (M.length:Int)))]),(false,[.p (.raw (.int .i64 ((M.headD []).length:Int)))]),(false,[.p (.raw (.bool true))])]:=by unfold Q2;rw[if_pos h]
theorem oD {M:List (List Int)} (h:1<=M.length):M[0]?=some (M.headD []):=by cases M with
 |nil=>simp at h
 |cons r M=>rfl
def SL (M:List (List Int)):Prop:=G7 M/\M.length=(M.headD []).length
instance (M:List (List Int)):Decidable (SL M):=by unfold SL;exact inferInstance
def mH (d:Nat) (l:List Nat):List (List AV):=l.mapIdx fun k c=>[.sl d (k+1) 0 c]
def Af (r:List Int):OObj:=⟨65,2,lc fZ r⟩
def RL (d:Nat) (R:List (List Int)):List OObj:=⟨85,1,mH d (R.map List.length)⟩::R.map Af
theorem dA (d:Nat) (l:List Nat):(mH d l).length=l.length:=by simp[mH]
theorem At (d:Nat) (l:List Nat) (c:Nat):mH d (l++[c])=mH d l++[[.sl d (l.length+1) 0 c]]:=by simp[mH,List.mapIdx_append]
theorem RS (d:Nat) (l:List Nat):(mH d l).map (List.map Ld)=mH d l:=by
 apply List.ext_getElem?;intro k;simp only[mH,az,List.getElem?_mapIdx];cases l[k]?<;>rfl
theorem SE (r:List Int):(lc fZ r).map (List.map Ld)=lc fZ r:=by simp[lc,fZ,Ld,Ll]
theorem N6 {d n c i:Nat} (hi:i<n):(mH d (af i c)++af (n-i) [AV.p (PV.sl [])])[i]?=some [.p (.sl [])]:=by
 rw[List.getElem?_append_right (by simp[dA]),dA,List.length_replicate,Nat.sub_self,List.getElem?_replicate,if_pos (by omega)]
theorem Nl (d e:Nat) (l:List Nat):(mH d l).map (List.map (cb e))=mH e l:=by
 apply List.ext_getElem?;intro k;simp only[mH,az,List.getElem?_mapIdx];cases l[k]?<;>rfl
theorem Na (e:Nat) (r:List Int):renO e (Af r)=Af r:=by simp[renO,Af,jL]
theorem ME (d e:Nat) (R:List (List Int)):(RL d R).map (renO e)=RL e R:=by
 simp only[RL,List.map_cons,List.map_map]
 congr 1
 ·simp[renO,Nl]
 exact List.map_congr_left fun r _=>Na e r
abbrev Ju (d n c:Nat) (f:FF):List OObj:=⟨85,1,mH d (af n c)⟩::(mat n c f).map Af
theorem Jl (n c:Nat) (f:FF):(mat n c f).map List.length=af n c:=by
 apply List.ext_getElem?;intro i;rw[az,List.getElem?_replicate];by_cases h:i<n
 ·rw[b6 _ _ h,if_pos h];simp[aW]
 rw[au (by rw[bV];omega),if_neg h];rfl
theorem Jv (d n c:Nat) (f:FF):RL d (mat n c f)=Ju d n c f:=by rw[RL,Jl]
theorem mI {n i:Nat} (d c:Nat) (h:i<n):(mH d (af n c))[i]?=some [.sl d (i+1) 0 c]:=by
 simp[mH,h]
theorem xw {n i:Nat} (c:Nat) (f:FF) (h:i<n):((mat n c f).map Af)[i]?=some ⟨65,2,lc fZ (be c (f i))⟩:=by
 rw[az,b6 _ _ h];rfl
def upd (f:FF) (i j:Nat) (v:Int):Nat->Nat->Int:=fun a=>if a=i then(fun b=>if b=j then v else f i b)else f a
theorem MF {n i j:Nat} (c:Nat) (f:FF) (v:Int):((mat n c f).map Af).set i ⟨65,2,(lc fZ (be c (f i))).set j [.p (.raw (.bool (decide (v<0)))),.p (.sl (ls fU (aY v.natAbs)))]⟩=(mat n c (upd f i j v)).map Af:=by
 have e:(⟨65,2,(lc fZ (be c (f i))).set j [.p (.raw (.bool (decide (v<0)))),.p (.sl (ls fU (aY v.natAbs)))]⟩:OObj)=Af (be c fun b=>if b=j then v else f i b):=by
  rw[<- ke,Af,<- pT];rfl
 rw[e,<- List.map_set,D6];rfl
theorem pY {n c:Nat} {f g:FF} (h: ∀i j,i<n->j<c->f i j=g i j):(mat n c f).map Af=(mat n c g).map Af:=by rw[gK h]
theorem D9 (d e n c:Nat) (f:FF):(Ju d n c f).map (renO e)=Ju e n c f:=by rw[<- Jv,<- Jv,ME]
theorem Mf {H:OH} {d n c:Nat} {f:FF} (h:H d=Ju d n c f):rc H d:=fun r o ho e he x hx=>by
 rw[h]at ho;cases r with
 |succ r=>
  rw[List.getElem?_cons_succ,az]at ho;obtain⟨l,hl,rfl⟩:=Option.map_eq_some_iff.1 ho;exact .inl (bz _ _ l e he x hx)
 |zero=>
  simp at ho;subst ho;simp only at he;obtain⟨k,hk⟩:=List.mem_iff_getElem?.1 he;have hkn:k<n:=by
   have:=(List.getElem?_eq_some_iff.1 hk).1;rwa[dA,List.length_replicate]at this
  rw[mI d c hkn]at hk;injection hk with hk
  subst hk;simp at hx;subst hx;refine .inr ⟨k+1,0,c,Af (be c (f k)),rfl,?_,bz _ _ _⟩;rw[h,List.getElem?_cons_succ,az,b6 _ _ hkn];rfl
theorem S9 {H:OH} {d n c:Nat} {f:FF} (h:H d=Ju d n c f):eZ H d (.one (.sl d 0 0 n))=jS (mat n c f):=by
 have e:((mH d (af n c)).map (List.map (kV H d)))=ls (fR fZ) (mat n c f):=by
  apply List.ext_getElem?;intro i;rw[az,fY];by_cases hi:i<n
  ·rw[mI d c hi,b6 _ _ hi];simp only[ah,List.map_cons,List.map_nil,kV,h,List.getElem?_cons_succ,xw _ _ hi,fR,gQ,xm,mr];rw[List.drop_zero,List.take_of_length_le (by rw[aW];omega)]
  rw[au (by rw[dA,List.length_replicate];omega),au (by rw[bV];omega)];rfl
 simp only[eZ,dI,if_true,h,List.getElem?_cons_zero];rw[List.drop_zero,List.take_of_length_le (by rw[dA,List.length_replicate];omega),e]
abbrev ch (M:List (List Int)):TV:= .one (.p (.sl (ls (fR fI) M)))
def Rz (M:List (List Int)):TV:= .tup [(false,[.p (.sl (ls (fR fZ) M))]),(false,[.p (.raw (.bool true))])]
structure qp (n:Nat) where
 i:Nat
 hi:i<=n
def part (f:FF) (i j:Nat):Nat->Nat->Int:=fun a b=>if a<i\/(a=i/\b<j)then f a b else 0
theorem mD (f:FF) (i j a b:Nat):upd (part f i j) i j (f i j) a b=part f i (j+1) a b:=by
 unfold upd part;by_cases h1:a=i
 ·subst h1;by_cases h2:b=j
  ·subst h2;simp
  have:b<j+1↔b<j:=by omega
  simp[h2,this]
 simp[h1]
theorem oV {c:Nat} (f:FF) (i a b:Nat) (hb:b<c):part f i c a b=part f (i+1) 0 a b:=by
 unfold part;by_cases h1:a<i
 ·rw[if_pos (.inl h1),if_pos (.inl (by omega))]
 by_cases h2:a=i
 ·rw[if_pos (.inr ⟨h2,hb⟩),if_pos (.inl (by omega))]
 rw[if_neg (by omega),if_neg (by omega)]
theorem oU {n:Nat} (f:FF) (a b:Nat) (ha:a<n):part f n 0 a b=f a b:=by
 unfold part;rw[if_pos (.inl ha)]
theorem I6 (l:List Int) (v:Int):lc fZ l++[[.p (.raw (.bool (decide (v<0)))),.p (.sl (ls fU (aY v.natAbs)))]]=lc fZ (l++[v]):=by simp[lc,fZ]
abbrev zK:List AV:=[.raw (.slice none 0 0)]
theorem Jm (i c:Nat) (f:FF):mat (i+1) c f=mat i c f++[be c (f i)]:=by simp[mat,List.range_succ]
theorem kf (j:Nat) (g:Nat->Int):be (j+1) g=be j g++[g j]:=by simp[be,List.range_succ]
theorem wK {P:Program} {c z:Code} {Q:Exit->AS->Prop} {s S:AS} (h1:bu P c (mc (fun s'=>bW s' S) Q) s) (h2:bu P z Q S):bu P c (mc (bu P z Q) Q) s:=h1.mono fun e s' h=>by
 cases e with
 |normal=>exact bu.weak h h2
 |_=>exact h
theorem Sz.mul {a b:Int} {k l:Nat} (ha:Sz a k) (hb:Sz b l):Sz (a*b) (k+l):=by
 unfold Sz at*;rw[Int.natAbs_mul,Nat.pow_add];exact Nat.mul_lt_mul'' ha hb
theorem Sz.sub {a b:Int} {k:Nat} (ha:Sz a k) (hb:Sz b k):Sz (a-b) (k+1):=by
 unfold Sz at*
 have:=Int.natAbs_sub_le a b;rw[Nat.pow_succ];generalize 4294967296^k=p at*
 omega
theorem Sz.add {a b:Int} {k:Nat} (ha:Sz a k) (hb:Sz b k):Sz (a+b) (k+1):=by
 unfold Sz at*
 have:=Int.natAbs_add_le a b;rw[Nat.pow_succ];generalize 4294967296^k=p at*
 omega
theorem Sz.ediv {a:Int} {k:Nat} (ha:Sz a k) (b:Int):Sz (a/b) k:=ha.le (Int.natAbs_ediv_le_natAbs a b)
abbrev LR (v:Int):List OObj:=S4 (decide (v<0)) (aY v.natAbs)
theorem Nf:sg 0=0:=rfl
theorem RQ {z:Int} (h:z≠0):sg z≠0:=by unfold sg;split<;>simp[h]
theorem F7 {k:Nat} (h:k<=16):2^k<=65536:=aD (n:=2) (by omega) h
theorem sY {n c:Nat} (f:FF) (h:1<=n):((mat n c f).headD []).length=c:=by
 have:=oD (M:=mat n c f) (by rw[bV];omega);rw[b6 _ _ (by omega)]at this;injection this with this
 rw[<- this,aW]
theorem D4 {n c:Nat} (f:FF) (hn1:1<=n) (hn:n<=16) (hc1:1<=c) (hc:c<=16):G7 (mat n c f):=by
 refine⟨by rw[bV];omega,by rw[bV];omega,fun r hr=>?_⟩;obtain⟨i,hi⟩:=List.mem_iff_getElem?.1 hr;have hin:i<n:=by
  have:=(List.getElem?_eq_some_iff.1 hi).1;rwa[bV]at this
 rw[b6 _ _ hin]at hi;injection hi with hi
 rw[<- hi,SD,aW,sY f hn1];omega
theorem LA {M:List (List Int)} (h:G7 M):M=mat M.length (M.headD []).length (ent M):=D5 fun r hr=>(h.2.2 r hr).2.2
def I64 (z:Int):Prop:= -9223372036854775808<=z/\z<=9223372036854775807
theorem I64.sz {z:Int} (h:I64 z) {k:Nat} (hk:2<=k):Sz z k:=by
 have:Sz z 2:=by
  unfold Sz;have:=h.1;have:=h.2;rw[show(4294967296:Nat)^2=18446744073709551616 by decide];omega
 exact this.mono hk
def MI (M:List (List Int)):Prop:= ∀r∈M,∀z∈r,I64 z
theorem MI.ent {M:List (List Int)} (h:MI M) (i j:Nat):I64 (ent M i j):=by
 simp only[Go.Proofs.YtalmoejhjceflaaGreat.ent,List.getD_eq_getElem?_getD];cases hr:M[i]? with
 |none=>simp[I64]
 |some r=>
  simp only[Option.getD_some];cases hz:r[j]? with
  |none=>simp[I64]
  |some z=>exact h r (ax hr) z (ax hz)
abbrev iu (l:List Int):TV:= .one (.p (.sl (ls fI l)))
abbrev Ss (n c:Nat) (f:FF) (y:List Int):List Int:=be n fun i=>fz (be c (f i)) y c
theorem Bm {n:Nat} {f:FF} {y:List Int} (hr:isReducedM (mat n n f)=true) (hy:AZ y=true):eF (mat n n f) y=Ss n n f y:=by
 have hs:=gI hr;have h8:=hs.2.1;rw[bV]at h8;apply List.ext_getElem?;intro i;rw[eF,az];by_cases hi:i<n
 ·rw[b6 _ _ hi,aZ _ hi];simp only[ah,aW];exact congrArg some (m4 (hs.row_bd (b6 _ _ hi)) (fun i z hz=>ko hy hz) n h8).1
 rw[au (by rw[bV];omega),au (by rw[aW];omega)];rfl
def cR (n d:Int):List AV:=[.p (.raw (.bool (decide (n<0)))),.p (.sl (ls fU (aY n.natAbs))),.p (.raw (.bool (decide (d<0)))),.p (.sl (ls fU (aY d.natAbs)))]
def qF (l d:Int):Int:=(2*l+d)/(2*d)
def trF (f:FF):Nat->Nat->Int:=fun a b=>f b a
def idF:Nat->Nat->Int:=fun a b=>if a=b then 1 else 0
def zJ (k:Nat) (f g:FF):Nat->Nat->Int:=fun i j=>fz (be k (f i)) (be k (trF g j)) k
def cngF (n:Nat) (h t:FF):Nat->Nat->Int:=zJ n (zJ n (trF t) h) t
end Go.Proofs.YtalmoejhjceflaaGreat
