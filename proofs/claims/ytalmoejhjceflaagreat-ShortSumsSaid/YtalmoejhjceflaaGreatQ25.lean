/-
  Part 26 of a proof (walks and plain facts).
-/
import Derived.Test.YtalmoejhjceflaaGreatQ23
import Derived.Test.YtalmoejhjceflaaGreatQ24
import Derived.Laws.EntriesVeiled
set_option linter.all false
set_option maxRecDepth 100000
set_option maxHeartbeats 64000000
open Nat renaming reduceAdd → aa
open Nat renaming reduceEqDiff → ab
open List renaming replicate → ae
open Nat renaming reduceBEq → af
open Nat renaming reduceLeDiff → ag
open Int renaming reduceToNat → ah
namespace Go.Proofs.YtalmoejhjceflaaGreat
open Go.RowKit Go.Proofs.Tryz
variable {b:Exit->AS->Prop} {c:Exit->AS->List PV->Prop} {e f:Code} {g:List PV} {n:Nat} {h:TypeId} {j:Operand} {l:List Nat} {m:List Int} {o:List NItem} {x:Int} {p:NItem}
theorem Tryz.infoKeyed:(prog.info? 177).map (fun i=>(i.zero,i.size,i.bytes))=some (some (.agg #[.int .i64 0,.slice none 0 0]),2,32):=by kernel_rfl
def xf (b:List (List Int)) (x:List Int):Option Int:=
 if -4611686018427387904<=dt x (gR b x) x.length/\dt x (gR b x) x.length<=4611686018427387904 then some (dt x (gR b x) x.length)else none
def p8 (b:List (List Int)) (x:List Int):Option (Int×List Int):=
 if By b.length x then(match xf b x,gS x with
  |some k,some y=>some (k,y)
  |_,_=>none)else none
def iw (c:List (List Int)):List (List Int)->Option (List (Int×List Int))
 |[]=>some []
 |x::l=>match p8 c x,iw c l with
  |some a,some b=>some (a::b)
  |_,_=>none
theorem mu {b:List (List Int)}: ∀{l:List (List Int)} {k:Nat} {x:List Int},l[k]?=some x->p8 b x=none->iw b l=none
 |[],_,_,h,_=>by simp at h
 |a::l,0,x,h,c=>by grind [iw]
 |a::l,k+1,x,h,c=>by
  simp at h;have:=mu h c;simp[iw,this]
def NItem.dat (b:NItem):Int×List Int:=(b.key,b.vals)
theorem xc {rows:List (List Int)}: ∀{l:List (List Int)} {L:List NItem},L.length=l.length->(∀(j:Nat) (b:NItem),L[j]?=some b-> ∃x,l[j]?=some x/\p8 rows x=some b.dat)->iw rows l=some (L.map NItem.dat)
 |[],[],_,_=>rfl
 |[],_::_,h,_=>by simp at h
 |_::_,[],h,_=>by simp at h
 |x::l,b::L,h,e=>by
  have f:=e 0 b rfl;simp at f;have g:=xc (rows:=rows) (l:=l) (L:=L) (by grind) (fun j c m=>by
   obtain⟨y,n,o⟩:=e (j+1) c (by grind);grind)
  grind [iw]
def oG (L:List NItem):List Value:=L.flatMap pW
theorem GA (L:List NItem) (b:NItem):oG L++pW b=oG (L++[b]):=by simp[oG]
theorem Cz: ∀{L:List NItem} {j:Nat} {b:NItem},L[j]?=some b->(oG L)[j*2]?=some (.int .i64 b.key)/\(oG L)[j*2+1]?=some b.val
 |[],_,_,h=>by simp at h
 |a::L,0,b,h=>by grind [oG,pW,NItem.val]
 |a::L,j+1,b,h=>by
  simp at h;obtain⟨c,e⟩:=Cz h;grind [oG,pW]
theorem Kb (c:NItem): ∀u∈pW c,u.oneCell'=true:=by
 intro u b;simp[pW]at b;rcases b with rfl|rfl<;>rfl
def abF (v:Value):Nat->Value:=fun j=>if j=0 then v else .func (Fn.func 132) #[] #[]
def aba (w:World) (c:Nat) (v:Value) (b:NItem):Prop:=RdI .i64 w b.at_ b.vals/\(b.vals.length<=9223372036854775807/\b.vals.length<=b.cap)/\ ∀p,b.at_=some p->v.ownBlock≠some p.block/\c<p.block/\p.block<w.heap.size
def U4 (k:Nat) (w:World) (A:Option Addr) (M:List (List Int)):Prop:=M.length<=65536/\ ∃b,A=some ⟨b,0,none⟩/\k<=b/\b<w.heap.size/\ ∀(i:Nat) r,M[i]?=some r-> ∃e c,w.cell? ⟨b,i,none⟩=some (.slice e r.length c)/\r.length<=c/\r.length<=9223372036854775807/\RdI .i64 w e r/\ ∀p,e=some p->k<=p.block/\p.block<w.heap.size
def IK (c:Nat) (b:World) (r:Option (List (Int×List Int))) (e:Ending):Prop:=match r with
 |none=>e= .returned (.tuple #[.slice none 0 0,.bool false])
 |some f=> ∃L:List NItem,(L.map NItem.dat).Perm f/\tu L/\ ∃A,e= .returned (.tuple #[.slice A (bK L).length (bK L).length,.bool true])/\vy .i64 b A ((bK L).map NItem.vals)/\U4 c b A ((bK L).map NItem.vals)
theorem NY {b:List (List Int)} {k:Int} (h:xf b m=some k):Gl (dt m (gR b m) m.length)= .tuple #[.int .i64 k,.bool true]:=by
 grind [xf,Gl]
theorem NX {b:List (List Int)} (h:xf b m=none):Gl (dt m (gR b m) m.length)= .tuple #[.int .i64 0,.bool false]:=by
 grind [xf,Gl]
theorem sj: ∀{l:List NItem} {p c:NItem},c∈dS p l->c∈l
 |[],_,_,h=>by simp[dS]at h
 |b::l,p,c,h=>by
  unfold dS at h;split at h
  ·exact ac6 _ (sj h)
  rcases acR.1 h with rfl|h
  ·simp
  exact ac6 _ (sj h)
theorem wX (h:p∈bK o):p∈o:=by
 cases o with
 |nil=>simp[bK]at h
 |cons a l=>
  grind [bK,sj]
theorem zt: ∀(l:List NItem) (p:NItem),(dS p l).length<=l.length
 |[],_=>by simp[dS]
 |b::l,p=>by
  unfold dS;have:=zt l b;grind
theorem Ga (L:List NItem):(bK L).length<=L.length:=by
 cases L with
 |nil=>simp[bK]
 |cons a l=>grind [zt,bK]
def SV (L:List NItem) (m:Nat):Nat->Value:=fun j=>if j<m then(match L[j]? with|some b=>b.val|none=>undef)else .slice none 0 0
theorem Ba (A B:Option Addr) (c d:Nat) (rows l:List (List Int)) (w:World) (hR:vy .i64 w A rows) (hl:vy .i64 w B l) (lr:rows.length<=9223372036854775807) (hc:rows.length<=c) (ll:l.length<=65536):
  Calls prog 89 #[.slice A rows.length c,.slice B l.length d] w fun e w'=>IK w.heap.size w' (if isReducedM rows then iw rows l else none) e/\Ext w w':=by
 have HR:=acg hR;have HL:=acg hl;clear hR hl;cases hI:isReducedM rows with
 |false=>
  have HV:Hid ((if isReducedM rows then iw rows l else none)=none):=acg (by simp[hI])
  go_enter func89,ntmps89
  go_wp2_with (go_at_call 36;refine(mQ A c rows _ HR.out lr hc).mono ?_;rintro e w1 ⟨rfl,he⟩)
  go_ret2
  exact⟨rfl,he⟩
 |true=>
  have HSm:=acg (jX hI);have h8:rows.length<=8:=HSm.out.2.1
  go_enter func89,ntmps89
  go_wp2_with (go_at_call 36;refine(mQ A c rows _ HR.out lr hc).mono ?_;rintro e w1 ⟨rfl,he⟩;have HE:=acg he;clear he)
  clear hI;obtain⟨wo,rfl⟩: ∃wo:World,wo=w1:=⟨_,rfl⟩
  go_loopw [22,8,9,10,11,12] (fun i _ _ _ _ _ wr=> ∃(k:Nat) (L:List NItem) (v:Value),k<=l.length/\i= .int .i64 k/\Hid (L.length=k/\(k=0->v= .slice none 0 0))/\Hid (∀(j:Nat) (it:NItem),L[j]?=some it-> ∃x,l[j]?=some x/\p8 rows x=some it.dat)/\Hid (wr.ownsRow (wo.heap.size+1) 177 2 v k (oG L))/\Hid (wr.rowIs wo.heap.size 173 2 (abF v))/\Hid (Ext wo wr)/\Hid (∀it∈L,aba wr wo.heap.size v it)) (fun i _ _ _ _ _ _=>l.length-(intOf i).toNat)
  case atStart=>
   refine⟨0,[],.slice none 0 0,acL _,rfl,acg ⟨rfl,fun _=>rfl⟩,acg (by simp),acg (aeX _ _ _ _),acg ?_,acg ?_,acg (by simp)⟩
   ·refine afZ wo #[.slice none 0 0,.func (Fn.func 132) #[] #[]] _ _ (fun i hi=>?_)
    match i,hi with
    |0,_=>rfl
    |1,_=>rfl
   exact(Ext.refl _).alloc _
  case round=>
   obtain⟨k,L,v,hk,rfl,HLen,HIt,HOwn,HRow,HE2,HIV⟩:=hrel;by_cases hlt:k<l.length
   ·obtain⟨x,hx⟩:=getElem?_of_lt hlt;obtain⟨b,off,BX,cx,rfl,hcx,hcxl,hlx,hrx⟩:=((HL.out.ext HE.out).ext HE2.out).at_ hx;have HX:=acg hx;have HRX:=acg hrx;clear hx hrx;cases hF:By rows.length x with
    |false=>
     have HN:Hid (iw rows l=none):=acg (mu HX.out (by grind [p8]))
     go_wp2_with (go_at_call 116;refine(Gz rows.length BX cx x _ HRX.out hlx).mono ?_;rintro e w2 ⟨rfl,rfl⟩)
     go_ret2
     exact⟨by rw[HN.out];rfl,HE.out.trans HE2.out⟩
    |true=>
     obtain⟨hxl,hxb⟩:=tj.1 hF;have hxle:x.length<=rows.length:=by omega
     have hxge:rows.length<=x.length:=by omega
     have HXB:=acg hxb;have HF:=acg hF;have HA:=acg (NG HSm.out hxb);have HAL:=acg (BB rows x);clear hxl hxb
     go_wp2_with (go_at_call 116;refine(Gz rows.length BX cx x _ HRX.out hlx).mono ?_;rintro e w2 ⟨rfl,rfl⟩)
     clear hF;refine(NH A BX c cx rows x _ ((HR.out.ext HE.out).ext HE2.out) HRX.out (by omega) (fun i hi=>by rw[HSm.out.2.2.1 i hi];exact hxge) hlx).mono ?_;rintro e w3 ⟨rfl,hrd,he3⟩;have hcon:=VJ BX (some ⟨wr.heap.size,0,none⟩) cx rows.length x (gR rows x) w3 (HRX.out.ext he3) hrd (by rw[HAL.out];exact hxle) (by omega) (by rw[HAL.out];omega) (fun i z hz=>jN HXB.out hz) HA.out;rw[HAL.out]at hcon;have HC:=acg hcon;have HE3:=acg he3;clear hcon hrd he3
     go_wp2_with fail
     cases hN:xf rows x with
     |none=>
      have hno:=HC.out;rw[NX hN]at hno;have HNone:Hid (iw rows l=none):=acg (mu HX.out (by unfold p8;simp_all));refine hno.mono ?_;rintro e w4 ⟨rfl,he4⟩;have HE4:=acg (HE3.out.trans he4);clear he4 hno HC hN
      go_wp2_with fail
      refine(mp BX cx x _ (HRX.out.ext HE4.out) (by omega)).mono ?_;rintro e w5 ⟨hcv,he5⟩;have HE5:=acg (((HE.out.trans HE2.out).trans HE4.out).trans he5);clear he5;have hform: ∃va vb,e= .returned (.tuple #[va,.bool vb]):=by
       unfold QZ at hcv;split at hcv
       ·simp_all
       obtain⟨A',c',h,_⟩:=hcv;simp_all
      obtain⟨va,vb,rfl⟩:=hform;clear hcv
      go_wp2_with fail
      go_ret2
      exact⟨by rw[HNone.out];rfl,HE5.out⟩
     |some key=>
      have hno:=HC.out;rw[NY hN]at hno;refine hno.mono ?_;rintro e w4 ⟨rfl,he4⟩;have HE4:=acg (HE3.out.trans he4);have HNo:=acg hN;clear he4 hno HC hN
      go_wp2_with fail
      refine(mp BX cx x _ (HRX.out.ext HE4.out) (by omega)).mono ?_;rintro e w5 ⟨hcv,he5⟩;have HE5:=acg (HE4.out.trans he5);clear he5;cases hS:gS x with
      |none=>
       have HNone:Hid (iw rows l=none):=acg (mu HX.out (by unfold p8;simp_all));rw[hS]at hcv;obtain rfl:=hcv;clear hS
       go_wp2_with fail
       go_ret2
       exact⟨by rw[HNone.out];rfl,(HE.out.trans HE2.out).trans HE5.out⟩
      |some y=>
       rw[hS]at hcv;obtain⟨AY,cy,rfl,hcy,hry,hby⟩:=hcv;have HIO:Hid (p8 rows x=some (key,y)):=acg (by unfold p8;rw[HF.out,HNo.out,hS];rfl);have HRY:=acg hry;have HBY:=acg hby;have HYL:Hid (y.length=x.length):=acg (by
        unfold gS at hS;split at hS
        ·split at hS
         ·cases hS
         cases hS;split<;>simp
        cases hS)
       clear hS hry hby;have HO5:=acg (Hb HOwn.out HE5.out);have HR5:=acg (di HRow.out HE5.out);have t0:w5.cell? ⟨wo.heap.size,0,none⟩=some v:=HR5.out.cell (by omega);have t1:w5.frozen? ⟨wo.heap.size,0,none⟩=false:=HR5.out.frozen 0;have hslt:wo.heap.size<w5.heap.size:=HR5.out.lt;have HRd:Hid (Rd (w5.alloc (.cells #[.int .i64 key,.slice AY y.length cy] 177)) (some ⟨w5.heap.size,0,none⟩) (pW ⟨key,y,AY,cy⟩)):=acg (fun _=>⟨w5.heap.size,0,rfl,fun i u hu=>by
        simp_all[pW]⟩)
       go_wp2_with (at_builtin;refine j8 _ rfl (.tmp 51) (.tmp 55) _ rfl (wo.heap.size+1) 177 (.agg #[.int .i64 0,.slice none 0 0]) 2 32 underlying171 Tryz.infoKeyed rfl (by omega) v k (oG L) rfl (HO5.out.alloc _) (some ⟨w5.heap.size,0,none⟩) 1 1 _ rfl HRd.out rfl (Kb _) (by simp only[maxLen];omega) (by omega) (by simp;omega) ?_;intro v6 w6 hown6 hg6 hb6;have HO6:=acg hown6;have HG6:=acg hg6;have HB6:=acg hb6;have hz6:w5.heap.size+1<=w6.heap.size:=(by have:=hg6.size;simpa using this);have s0:w6.cell? ⟨wo.heap.size,0,none⟩=some v:=(by refine hg6.cell (a:=⟨wo.heap.size,0,none⟩) (by rw[afy _ _ _ hslt];exact t0) (fun e=>?_);have:=(HO5.out.lt _ e.symm).1;simp at this;omega);have s1:w6.frozen? ⟨wo.heap.size,0,none⟩=false:=(by rw[agc (hg6.block wo.heap.size (by simp;omega) (fun e=>by have:=(HO5.out.lt _ e.symm).1;omega))];rw[agc (ae2 _ _ _ hslt)];exact t1);obtain⟨g6,cap6,f6,rfl,_,_,_,_,_⟩:=Au hown6 (by omega);clear hown6 hg6 hb6 t0 t1)
       go_roundw
       case rel=>
        have hne: ∀j,v.ownBlock=some j->wo.heap.size+1<=j:=fun j hj=>(HO5.out.lt j hj).1
        have hw5:Ext wo (w5.alloc (.cells #[.int .i64 key,.slice AY y.length cy] 177)):=(HE2.out.trans HE5.out).alloc _;have hw6:Ext wo w6:=hw5.grown HG6.out (fun j hj=>by grind);have hr6:w6.rowIs wo.heap.size 173 2 (abF v):=(HR5.out.alloc _).of_block (HG6.out.block wo.heap.size (by simp;omega) (fun e=>by have:=hne _ e.symm;omega));refine⟨k+1,L++[⟨key,y,AY,cy⟩],.slice (some ⟨g6,0,none⟩) (k+1) cap6,by omega,by go_num,acg ⟨by simp[HLen.out.1],fun h=>by omega⟩,acg (fun j it hj=>?_),acg ?_,acg ?_,acg (hw6.setCell (acs _) _),acg (fun it hit=>?_)⟩
        ·rcases ae6 j L.length with h|h
         ·rw[acx h]at hj;exact HIt.out j it hj
         rw[acD h]at hj;have hj0:j-L.length=0:=by
          grind
         rw[hj0]at hj;simp at hj;subst hj;have:j=k:=by have:=HLen.out.1;omega
         subst this;exact⟨x,HX.out,HIO.out⟩
        ·rw[<- GA];exact ownsRow_setCell_below HO6.out (by simp) _
        ·exact(hr6.set 0 _).congr (fun j hj=>by
          match j,hj with
          |0,_=>rfl
          |1,_=>rfl)
        rcases adh.1 hit with h|h
        ·obtain⟨q1,q2,q3⟩:=HIV.out it h;have r5:RdI .i64 (w5.alloc (.cells #[.int .i64 key,.slice AY y.length cy] 177)) it.at_ it.vals:=q1.ext (HE5.out.alloc _);have hsz:=HE5.out.size;refine⟨fun hn=>?_,q2,fun p hp=>?_⟩
         ·obtain⟨b',off',hb',hc'⟩:=r5 hn;obtain⟨q4,q5,q6⟩:=q3 _ hb';refine⟨b',off',hb',fun i u hu=>?_⟩;rw[afR _ _ _ _ (fun e=>by grind)];exact HG6.out.cell (hc' i u hu) (fun e=>q4 e.symm)
         obtain⟨q4,q5,q6⟩:=q3 p hp;refine⟨fun e=>?_,q5,by grind [World.setCell]⟩;rcases HB6.out with h6|h6
         ·grind
         rw[h6]at e;injection e with e
         simp at e;omega
        simp at h;subst h;have r5:RdI .i64 (w5.alloc (.cells #[.int .i64 key,.slice AY y.length cy] 177)) AY y:=HRY.out.ext ((Ext.refl _).alloc _);have hsz:=HE4.out.size;have hs2:=HE2.out.size;have hrl:=HRow.out.lt;have ho:=HOwn.out;have q3: ∀p,AY=some p->v.ownBlock≠some p.block/\wo.heap.size<p.block/\p.block<w5.heap.size:=fun p hp=>by
         obtain⟨h1,h2⟩:=HBY.out p hp;refine⟨fun e=>?_,by omega,h2⟩;have:=(ho.lt _ e).2;omega
        refine⟨fun hn=>?_,⟨by show y.length<=_;rw[HYL.out];omega,hcy⟩,fun p hp=>?_⟩
        ·obtain⟨b',off',hb',hc'⟩:=r5 hn;obtain⟨q4,q5,q6⟩:=q3 _ hb';refine⟨b',off',hb',fun i u hu=>?_⟩;rw[afR _ _ _ _ (fun e=>by grind)];exact HG6.out.cell (hc' i u hu) (fun e=>q4 e.symm)
        obtain⟨q4,q5,q6⟩:=q3 p hp;refine⟨fun e=>?_,q5,by grind [World.setCell]⟩;rcases HB6.out with h6|h6
        ·grind
        rw[h6]at e;injection e with e
        simp at e;omega
       grind [intOf]
   have hkl:k=l.length:=by omega
   have HIO:Hid (iw rows l=some (L.map NItem.dat)):=acg (xc (by rw[HLen.out.1,hkl]) HIt.out);by_cases hk0:0<k
   ·obtain⟨g,cap,f,rfl,hcap,hcm,hg,hrow,hf⟩:=Au HOwn.out hk0;have HLst:Hid (yD wr g (cap*2) L):=acg ⟨f,hrow,by rw[HLen.out.1];omega,fun j it hj=>by
     simp_all[Cz]⟩
    have HIV2:=acg HIV.out;have hcon:=TE wo.heap.size g cap L wr HLst.out (by rw[HLen.out.1];exact hcap) (by rw[HLen.out.1];omega) (fun it hit=>by
     obtain⟨q1,q2,q3⟩:=HIV.out it hit;exact⟨q1,fun p hp e=>(q3 p hp).1 (by simp[Value.ownBlock,e]),q2.1⟩) (by rw[HLen.out.1];exact HRow.out) (by omega)
    have HC:=acg hcon;have hglt:=hrow.lt;have hslt:=HRow.out.lt;clear hcon hf hrow hkl
    go_wp2_with fail
    refine HC.out.mono ?_;rintro e w5 ⟨L',rfl,hperm,hsort,hlst,hcell,hrow5,hblk,hsz,h1,h2,h3⟩;have HP:=acg hperm;have HSo:=acg hsort;have HL5:=acg hlst;have HE5:Hid (Ext wo w5):=acg ⟨h1.trans HE2.out.os,h2.trans HE2.out.tape,h3.trans HE2.out.output,acl HE2.out.size hsz,fun j hj=>by
     rw[hblk j (acp hj HE2.out.size) (by omega) (by omega)];exact HE2.out.block j hj⟩
    have HIt5:Hid (∀it∈bK L',SlI .i64 w5 it.val it.vals):=acg (fun it hit=>by
     obtain⟨q1,q2,q3⟩:=HIV.out it (hperm.subset (wX hit));refine⟨it.at_,it.cap,rfl,q2.2,q2.1,fun hn=>?_⟩;obtain⟨b',off',hb',hc'⟩:=q1 hn;obtain⟨r1,r2,r3⟩:=q3 _ hb';refine⟨b',off',hb',fun i u hu=>?_⟩;rw[World.cell?_of_block (w:=wr) (hblk b' r3 (fun e=>r1 (by simp[Value.ownBlock,e])) (Nat.ne_of_gt r2))];exact hc' i u hu)
    have HBk:Hid (∀it∈bK L',∀p,it.at_=some p->wo.heap.size<p.block/\p.block<w5.heap.size):=acg (fun it hit p hp=>by
     obtain⟨q1,q2,q3⟩:=HIV.out it (hperm.subset (wX hit));obtain⟨r1,r2,r3⟩:=q3 _ hp;omega)
    have hm:(bK L').length<=65536:=by
     have h1:=Ga L';have h2:=hperm.length_eq;rw[HLen.out.1]at h2;omega
    have hmk:=run_make_row' (P:=prog) 26 35 (.slice none 0 0) 24 underlying26 Tryz.infoSlI64 rfl .i64 .i64 (bK L').length (by omega) (by omega);have hcell2: ∀o,(w5.alloc o).cell? ⟨wo.heap.size,0,none⟩=some (.slice (some ⟨g,0,none⟩) (bK L').length cap):=fun o=>by rw[afy _ _ _ (by show wo.heap.size<_;omega)];exact hcell
    have HS0:=acg (afu w5 (.slice none 0 0) (bK L').length 35);clear hperm hsort hlst hrow5 hblk h1 h2 h3 HC
    go_wp2_with fail
    clear hmk hcell2 hcell
    go_loopw [67,14,15] (fun i _ _ wx=> ∃m:Nat,m<=(bK L').length/\i= .int .i64 m/\Hid (wx.rowIs w5.heap.size 35 (bK L').length (SV (bK L') m))/\Hid (Ext w5 wx)) (fun i _ _ _=>(bK L').length-(intOf i).toNat)
    case atStart=>exact⟨0,acL _,rfl,acg (HS0.out.congr (fun j _=>by simp[SV])),acg ((Ext.refl _).alloc _)⟩
    case round=>
     clear HS0;obtain⟨wp,rfl⟩: ∃wp:World,wp=wr:=⟨_,rfl⟩;obtain⟨m,hmm,rfl,HO,HX5⟩:=hrel;by_cases hml:m<(bK L').length
     ·obtain⟨it,hit⟩:=getElem?_of_lt hml;have HIT:=acg hit;have t1:=(HL5.out.ext HX5.out).cell0 hit;have t2:=(HL5.out.ext HX5.out).cell1 hit;have hlt5:=HO.out.lt;have t3: ∀o,(wp.alloc o).cell? ⟨w5.heap.size,m,none⟩=some (.slice none 0 0):=fun o=>by
       rw[(HO.out.alloc o).cell hml];simp[SV]
      have t4: ∀o,(wp.alloc o).frozen? ⟨w5.heap.size,m,none⟩=false:=fun o=>(HO.out.alloc o).frozen m
      clear hit
      go_wp2_with fail
      go_roundw
      case rel=>
       refine⟨m+1,by omega,by go_num,acg (((HO.out.set m _).congr (fun j _=>?_)).alloc _),acg ((HX5.out.setCell (acs _) _).alloc _)⟩;unfold SV;by_cases e:j=m
       ·subst e;rw[if_pos rfl,if_pos (by omega),HIT.out];rfl
       rw[if_neg e];by_cases e2:j<m
       ·rw[if_pos e2,if_pos (by omega)]
       rw[if_neg e2,if_neg (by omega)]
      case measure=>simp[intOf];omega
     go_wp2_with fail
     go_ret2
     have hmeq:m=(bK L').length:=by omega
     refine⟨?_,(HE.out.trans HE5.out).trans HX5.out⟩;rw[HIO.out];have hsw:=HE.out.size;have hs5:=HE5.out.size;have hs6:=HX5.out.size;have hnew:U4 w.heap.size wp (some ⟨w5.heap.size,0,none⟩) ((bK L').map NItem.vals):=by
      refine⟨by simp_all,w5.heap.size,rfl,by omega,HO.out.lt,fun i r hr=>?_⟩;rw[ach]at hr;cases hci:(bK L')[i]? with
      |none=>simp_all
      |some it=>
       rw[hci]at hr;simp at hr;subst hr;have hil:=(aci.1 hci).1;have hmem:=acd hci;obtain⟨A1,c1,e1,e2,e3,e4⟩:=(HIt5.out it hmem).ext HX5.out;refine⟨it.at_,it.cap,?_,?_,e3,?_,fun p hp=>?_⟩
       ·rw[HO.out.cell hil];unfold SV;rw[if_pos (by omega),hci];rfl
       ·simp_all[NItem.val]
       ·simp_all[NItem.val]
       have:=HBk.out it hmem p hp;omega
     refine⟨L',HP.out.map NItem.dat,HSo.out,some ⟨w5.heap.size,0,none⟩,rfl,fun _=>⟨w5.heap.size,0,rfl,fun i r hr=>?_⟩,hnew⟩;obtain⟨_,b1,e1,_,_,e2⟩:=hnew;injection e1 with e1
     injection e1 with e1
     subst e1;obtain⟨A1,c1,e3,e4,e5,e6,_⟩:=e2 i r hr;exact⟨_,by rw[acQ];exact e3,A1,c1,rfl,e4,e5,e6⟩
   have hv:=HLen.out.2 (by omega);have hL0:L=[]:=aee (by rw[HLen.out.1];omega);subst hv hL0;have HC:=acg (TF wo.heap.size wr HRow.out);have hslt:=HRow.out.lt;clear hkl
   go_wp2_with fail
   refine HC.out.mono ?_;rintro e w5 ⟨rfl,hcell,hblk,hsz,h1,h2,h3⟩;have HE5:Hid (Ext wo w5):=acg ⟨h1.trans HE2.out.os,h2.trans HE2.out.tape,h3.trans HE2.out.output,acl HE2.out.size hsz,fun j hj=>by
    rw[hblk j (acp hj HE2.out.size) (by omega)];exact HE2.out.block j hj⟩
   have hmk: ∀w:World,(Instr.makeSlice 26 (.int .i64 0) (.int .i64 0)).run prog w= .ok (.slice (some ⟨w.heap.size,0,none⟩) 0 0) (w.alloc (.cells (madeCells #[.slice none 0 0] 0) 35)):=run_make_row' (P:=prog) 26 35 (.slice none 0 0) 24 underlying26 Tryz.infoSlI64 rfl .i64 .i64 0 (by omega) (by omega);have hcell2: ∀o,(w5.alloc o).cell? ⟨wo.heap.size,0,none⟩=some (.slice none 0 0):=fun o=>by rw[afy _ _ _ (by show wo.heap.size<_;omega)];exact hcell
   clear hblk h1 h2 h3 HC
   go_wp2_with fail
   refine wp_loop_rounds 1 ?_;rw[rounds_succ]
   go_wp2_with fail
   go_ret2
   refine⟨?_,(HE.out.trans HE5.out).alloc _⟩;rw[HIO.out];exact⟨[],.refl _,(by intro i j a b _ h;simp at h),some ⟨w5.heap.size,0,none⟩,rfl,vy.nil _ _ _,by simp[bK],w5.heap.size,rfl,by have:=HE.out.size;omega,by simp,by simp_all[bK]⟩
instance (a b:Int×List Int):Decidable (pD a b):=inferInstanceAs (Decidable (_\/_))
theorem zo {a:NItem}:kY a p<0↔pD a.dat p.dat:=by unfold kY pD;rw[LP];rfl
theorem Gv {a:NItem}:zK a p=true↔a.dat=p.dat:=by
 unfold zK kY;rw[beq_iff_eq,NR];constructor
 ·rintro⟨c,e⟩;exact Prod.ext c e
 intro h;exact⟨congrArg Prod.fst h,congrArg Prod.snd h⟩
theorem wU: ∀{l:List NItem} {p:NItem},(∀(i j:Nat) a b,i<j->(p::l)[i]?=some a->(p::l)[j]?=some b-> ¬kY b a<0)->
  BV ((p::dS p l).map NItem.dat)/\ ∀y,y∈(p::dS p l).map NItem.dat↔y∈(p::l).map NItem.dat
 |[],p,_=>by simp[dS,BV]
 |b::l,p,h=>by
  have n: ∀(i j:Nat) a c,i<j->(b::l)[i]?=some a->(b::l)[j]?=some c-> ¬kY c a<0:=fun i j a c u x m=>h (i+1) (j+1) a c (by omega) (by grind) (by grind)
  obtain⟨s,t⟩:=wU n;have g: ¬kY b p<0:=h 0 1 p b (by omega) rfl rfl;unfold dS;split
  ·grind [Gv]
  rename_i e;rw[Gv]at e;refine⟨?_,fun y=>?_⟩
  ·rw[acA];refine adX.2 ⟨fun y o=>?_,s⟩;rw[t y]at o;obtain⟨c,m,rfl⟩:=acn.1 o;obtain⟨j,z,v⟩:=adA m;have q: ¬kY c p<0:=h 0 (j+1) p c (by omega) rfl (by grind);rw[zo]at q;by_cases f:pD p.dat c.dat
   ·exact f
   have r:=wm q f;exfalso;have w: ¬kY c b<0:=by
    cases j with
    |zero=>grind
    |succ j=>exact n 0 (j+1) b c (by omega) rfl (by grind)
   rw[zo,r]at w;rw[zo]at g;grind [wm]
  grind
theorem DQ {b:List (Int×List Int)} (f:(o.map NItem.dat).Perm b) (c:tu o):(bK o).map NItem.dat=jM b:=by
 have e:BV ((bK o).map NItem.dat)/\ ∀y,y∈(bK o).map NItem.dat↔y∈o.map NItem.dat:=by
  cases o with
  |nil=>simp[bK,BV]
  |cons a l=>exact wU c
 grind [DG,Dk,Dl]
theorem tS {b:List (Int×List Int)} (c:(o.map NItem.dat).Perm b) (e:tu o):(bK o).map NItem.vals=(jM b).map Prod.snd:=by
 rw[<- DQ c e,adH];rfl
def SUV (c:World) (r:Option (List (Int×List Int))) (e:Ending):Prop:=match r with
 |none=>e= .returned (.tuple #[.slice none 0 0,.bool false])
 |some b=> ∃A,e= .returned (.tuple #[.slice A ((jM b).map Prod.snd).length ((jM b).map Prod.snd).length,.bool true])/\vy .i64 c A ((jM b).map Prod.snd)
def SUX (c:Nat) (f:World) (r:Option (List (Int×List Int))) (e:Ending):Prop:=match r with
 |none=>e= .returned (.tuple #[.slice none 0 0,.bool false])
 |some b=> ∃A,e= .returned (.tuple #[.slice A ((jM b).map Prod.snd).length ((jM b).map Prod.snd).length,.bool true])/\U4 c f A ((jM b).map Prod.snd)
theorem IK.plain {g:World} {r:Option (List (Int×List Int))} {e:Ending} (h:IK n g r e):SUV g r e/\SUX n g r e:=by
 cases r with
 |none=>exact⟨h,h⟩
 |some j=>
  obtain⟨L,l,m,A,o,f,b⟩:=h;rw[tS l m]at f b;have c:e= .returned (.tuple #[.slice A ((jM j).map Prod.snd).length ((jM j).map Prod.snd).length,.bool true]):=by
   grind [tS]
  exact⟨⟨A,c,f⟩,A,c,b⟩
theorem Bb (A B:Option Addr) (c d:Nat) (b l:List (List Int)) (w:World) (j:vy .i64 w A b) (n:vy .i64 w B l) (p:b.length<=9223372036854775807) (m:b.length<=c) (o:l.length<=65536):
  Calls prog 89 #[.slice A b.length c,.slice B l.length d] w fun e f=>SUX w.heap.size f (if isReducedM b then iw b l else none) e/\Ext w f:=
 (Ba A B c d b l w j n p m o).mono fun _ _ ⟨g,h⟩=>⟨g.plain.2,h⟩
def cQ (x:List Int):Int:=match x.find? (fun c=>c !=0)with|none=>0|some c=>if c<0 then -1 else 1
theorem C8 (x:List Int) (a:Int):cQ (x++[a])=if cQ x=0/\a≠0 then(if a<0 then -1 else 1)else cQ x:=by
 grind [cQ]
theorem iV (x:List Int):cQ x=0\/cQ x=1\/cQ x= -1:=by
 grind [cQ]
theorem Bo {k:Nat} {a:Int} (h:m[k]?=some a):m.take (k+1)=m.take k++[a]:=by
 grind [List.take_succ_eq_append_getElem]
theorem lV (h:vD m=true):gS m=if cQ m=0 then none else some (m.map fun a=>cQ m*a):=by
 unfold gS cQ;rw[h];cases e:m.find? (fun c=>c !=0)with
 |none=>simp
 |some c=>
  simp only[if_true];by_cases b:c<0
  ·simp[b]
  simp[b]
def Vw (x:List Int):List Int:=x.map fun a=>cQ x*a
theorem rj:cQ m=0↔ ∀c∈m,c=0:=by
 grind [cQ]
theorem nQ {x:List Int} {s:Int} (b:s=1\/s= -1):cQ (x.map fun a=>s*a)=s*cQ x:=by
 unfold cQ;rw[List.find?_map];have e:((fun c:Int=>c !=0)∘fun a=>s*a)=fun c:Int=>c !=0:=by
  grind
 grind
theorem Vx (b:x=1\/x= -1):Vw (m.map fun a=>x*a)=Vw m:=by
 unfold Vw;rw[nQ b,adH];grind [List.map_congr_left]
section
theorem On (h: ¬n=0):n/4294967296<n:=Nat.div_lt_self (by omega) (by omega)
def au (n:Nat):List Nat:=if n=0 then[]else n%4294967296::au (n/4294967296)
termination_by n
decreasing_by omega
def fR {b:Type} (f:b->List PV) (r:List b):List PV:=[.sl (ls f r)]
def fZ (z:Int):List PV:=[.raw (.bool (decide (z<0))),.sl (ls fU (au z.natAbs))]
def cZ (z:Int):List AV:=[.p (.raw (.bool (decide (z<0)))),.p (.sl (ls fU (au z.natAbs)))]
abbrev tZ (z:Int):TV:= .agg [.p (.raw (.bool (decide (z<0)))),.p (.sl (ls fU (au z.natAbs)))]
abbrev cW (l:List Nat):TV:= .one (.p (.sl (ls fU l)))
abbrev dr (M:List (List Int)):TV:= .one (.p (.sl (ls (fR fZ) M)))
abbrev cw (M:List (List Int)):TV:= .one (.p (.sl (ls (fR fI) M)))
abbrev eF (l:List Int):TV:= .one (.p (.sl (ls fI l)))
abbrev xr (l:List Int):TV:= .one (.p (.sl (ls fZ l)))
abbrev EW (l:List Nat):TV:= .one (.p (.sl (ls fN l)))
def Mb (a:Int×List Int):List PV:=[.raw (.int .i64 a.1),.sl (ls fI a.2)]
abbrev EX (l:List (Int×List Int)):TV:= .one (.p (.sl (ls Mb l)))
abbrev tIt (k:Int) (x:List Int):TV:= .agg [.p (.raw (.int .i64 k)),.p (.sl (ls fI x))]
abbrev tR (n d:Int):TV:= .agg [.p (.raw (.bool (decide (n<0)))),.p (.sl (ls fU (au n.natAbs))),.p (.raw (.bool (decide (d<0)))),.p (.sl (ls fU (au d.natAbs)))]
abbrev Gd (x:List Int) (b:Bool):TV:= .tup [(false,[.p (.sl (ls fI x))]),(false,[.p (.raw (.bool b))])]
abbrev jk:TV:= .one .junk
def j4 (l:List TV):List TV:=jk::jk::jk::jk::l
def j16 (l:List TV):List TV:=j4 (j4 (j4 (j4 l)))
def rN (n:Nat):TV:= .raw (.int .i64 (n:Int))
theorem HmA:Hm []=fun _=>[]:=rfl
theorem HmB (k:Nat) (F:List OObj) (l:List (Nat×List OObj)):Hm ((k,F)::l)=fun a=>if a=k then F else Hm l a:=rfl
def wk:=ace @wkL.eq_1<|ace @wkL.eq_2<|ace @wkL.eq_3<|ace @Ws.eq_def<|ace @Es.eq_def<|ace @j4.eq_1<|ace @j16.eq_1<|ace @rN.eq_1<|True.intro
def kd:=ace @AS.ev.eq_def<|ace @AS.put.eq_def<|ace @Bool.and_false<|ace @Bool.and_self<|ace @agC<|ace @ada<|ace @Bool.not_false<|ace @Bool.not_true<|ace @agD<|ace @Bool.or_true<|ace @afv<|ace @aq.a.eq_1<|ace @CallRes.plain.eq_1<|ace @HmA<|ace @HmB<|ace @agI<|ace @Int.toNat_natCast<|ace @List.all_cons.{0}<|ace @List.all_nil.{0}<|ace @List.append_nil.{0}<|ace @List.cons_append.{0}<|ace @List.contains_cons.{0}<|ace @List.contains_nil.{0}<|ace @List.drop_succ_cons.{0}<|ace @List.drop_zero.{0}<|ace @List.find?_cons.{0}<|ace @List.find?_nil.{0}<|ace @List.getElem?_cons_succ.{0}<|ace @List.getElem?_cons_zero.{0}<|ace @List.getElem?_toArray.{0}<|ace @List.isEmpty_cons.{0}<|ace @List.isEmpty_nil.{0}<|ace @List.isEmpty_toArray.{0}<|ace @List.length_cons.{0}<|ace @List.length_map.{0,0}<|ace @List.length_nil.{0}<|ace @List.map_cons.{0,0}<|ace @List.map_nil.{0,0}<|ace @List.nil_append.{0}<|ace @List.set_cons_succ.{0}<|ace @List.set_cons_zero.{0}<|ace @List.take_succ_cons.{0}<|ace @List.take_zero.{0}<|ace @ac9<|ace @acs<|ace @acQ<|ace @Option.bind_some.{0,0}<|ace @Option.map_none.{0,0}<|ace @Option.map_some.{0,0}<|ace @underlying116<|ace @underlying165<|ace @underlying2<|ace @underlying25<|ace @underlying5<|ace @Value.oneCell'.eq_def<|ace @Vj<|ace @Zm<|ace @and_false<|ace @and_self<|ace @and_true<|ace @abi.eq_def<|ace @beq_self_eq_true.{0}<|ace @eY.eq_def<|ace @Jg.eq_def<|ace @cellsOf.eq_def<|ace @abW<|ace @abX<|ace @decide_false<|ace @decide_true<|ace @cB.eq_def<|ace @iv.eq_def<|ace @jV.eq_def<|ace @bY.eq_def<|ace @fz.eq_1<|ace @fz.eq_2<|ace @Cw.eq_def<|ace @N6.eq_def<|ace @fI.eq_1<|ace @fN.eq_1<|ace @fU.eq_1<|ace @false_and<|ace @l4.eq_1<|ace @l4.eq_2<|ace @dP.eq_def<|ace @fk.eq_def<|ace @ifF<|ace @ifT<|ace @if_false.{1}<|ace @if_true.{1}<|ace @JP.eq_def<|ace @isPure.eq_def<|ace @aR.eq_def<|ace @ns.eq_1<|ace @aT.eq_def<|ace @D6<|ace @JW<|ace @gz<|ace @D8<|ace @x5<|ace @jY<|ace @D9<|ace @qP<|ace @gT<|ace @iK<|ace @sI.eq_1<|ace @sI.eq_2<|ace @Wb<|ace @gV<|ace @d8<|ace @Z6<|ace @Z7<|ace @Wc<|ace @UP.eq_def<|ace @OC<|ace @BM.eq_def<|ace @iR.eq_def<|ace @CR.eq_def<|ace @Ai.eq_def<|ace @gO.eq_def<|ace @noRefTV.eq_def<|ace @lk.eq_def<|ace @iB.eq_def<|ace @qT.eq_def<|ace @Wr.eq_def<|ace @OO<|ace @Kc<|ace @Kd<|ace @Wt<|ace @Wu<|ace @OP<|ace @At<|ace @SO<|ace @OQ<|ace @SP<|ace @Ha<|ace @OR<|ace @BN<|ace @BO<|ace @Wv<|ace @SQ<|ace @Eu<|ace @BP<|ace @Ww<|ace @SR<|ace @Ev<|ace @SS<|ace @OS<|ace @OT<|ace @aai<|ace @pw.eq_def<|ace @He.eq_1<|ace @aK.eq_1<|ace @aK.eq_2<|ace @putCells.eq_1<|ace @uI.eq_def<|ace @rJ.eq_def<|ace @b6.eq_def<|ace @renO.eq_1<|ace @renTV.eq_def<|ace @rA.eq_def<|ace @AJ.eq_1<|ace @AJ.eq_2<|ace @wy.eq_def<|ace @C6<|ace @Tm<|ace @Pn<|ace @true_and<|ace @Fb.eq_def<|ace @Ps<|ace @Pt<|ace @Pu<|ace @Pv<|ace @Pw<|ace @Px<|ace @Py<|ace @Pz<|ace @Xz<|ace @T5<|ace @PA<|ace @T6<|ace @T7<|ace @T8<|ace @T9<|ace @XA<|ace @Ua<|ace @yp<|ace @Ub<|ace @XC<|ace @vp<|ace @vq<|ace @Uc<|ace @Ud<|ace @Ue<|ace @Uf<|ace @Ug<|ace @Uh<|ace @vr<|ace @Ui<|ace @Uj<|ace @aaW<|ace @aaX<|ace @XD<|ace @XE<|ace @XF<|ace @XG<|ace @XH<|ace @Ij<|ace @Ik<|ace @Il<|ace @Im<|ace @In<|ace @Io<|ace @Ip<|ace @Iq<|ace @Ir<|ace @Is<|ace @It<|ace @Iu<|ace @Iv<|ace @Iw<|ace @KQ<|ace @KR<|ace @KS<|ace @pe<|ace @pi<|ace @KT<|ace @KU<|ace @KV<|ace @KW<|ace @KX<|ace @PB<|ace @PC<|ace @XI<|ace @XJ<|ace @XK<|ace @PE<|ace @PF<|ace @PG<|ace @PH<|ace @PI<|ace @PJ<|ace @PK<|ace @vt<|ace @Uk<|ace @Ul<|ace @KY<|ace @KZ<|ace @K0<|ace @K1<|ace @pj<|ace @K2<|ace @K3<|ace @K4<|ace @K5<|ace @Um<|ace @Un<|ace @Uo<|ace @Up<|ace @Uq<|ace @Ur<|ace @Us<|ace @Ut<|ace @aaY<|ace @XL<|ace @Uu<|ace @XM<|ace @XN<|ace @XO<|ace @XP<|ace @aaZ<|ace @XQ<|ace @Fc<|ace @XR<|ace @aa0<|ace @yq<|ace @yr<|ace @XS<|ace @XT<|ace @XU<|ace @XV<|ace @XW<|ace @XX<|ace @K6<|ace @K7<|ace @K8<|ace @K9<|ace @La<|ace @Lb<|ace @Lc<|ace @Ld<|ace @Le<|ace @Uv<|ace @Lf<|ace @Lg<|ace @PL<|ace @PM<|ace @PN<|ace @Uw<|ace @PO<|ace @Ux<|ace @PP<|ace @rq<|ace @PQ<|ace @PR<|ace @PS<|ace @PT<|ace @PU<|ace @yu.eq_def<|ace @aF.eq_1<|ace @wrS.eq_def<|ace @j4.eq_1<|ace @j16.eq_1<|ace @rN.eq_1<|True.intro
def kx:=ace @fR.eq_1<|ace @fZ.eq_1<|ace @cZ.eq_1<|ace @tZ.eq_1<|ace @cW.eq_1<|ace @dr.eq_1<|ace @cw.eq_1<|ace @eF.eq_1<|ace @xr.eq_1<|ace @EW.eq_1<|ace @Mb.eq_1<|ace @EX.eq_1<|ace @tIt.eq_1<|ace @tR.eq_1<|ace @Gd.eq_1<|True.intro
section
variable {P:Program} {s s':AS} {y:Code} {id pk:Nat} {ops:Array Oper} {α:Prop}
theorem bi (h: ∀K:AS->Prop,K s'->aY P [] [] (aK ops ops.toList 0) (some s) K:=by intro K k;simp only[kd,Nat.reduceAdd,Nat.reduceEqDiff,Nat.reduceBEq,Nat.reduceLeDiff,Int.reduceToNat,Nat.reduceMul,reduceCtorEq,Int.reduceLE,kx];exact k) (k:bA P y b s'):bA P (.seq (.region id ops false) y) b s:=aw fun K f=>h K (f s' k)
theorem dR (x:α) (h:α-> ∀K:AS->Prop,K s'->aY P [] [] (aK ops ops.toList 0) (some s) K:=by intro x K k;simp only[kd,Nat.reduceAdd,Nat.reduceEqDiff,Nat.reduceBEq,Nat.reduceLeDiff,Int.reduceToNat,Nat.reduceMul,reduceCtorEq,Int.reduceLE,kx,x];exact k) (k:bA P y b s'):bA P (.seq (.region id ops false) y) b s:=aw fun K f=>h x K (f s' k)
theorem ar (h: ∀K:AS->Prop,K s'->aY P [] [] (aK ops ops.toList 0) (some s) K:=by intro K k;simp(disch:=omega) only[kd,Nat.reduceAdd,Nat.reduceEqDiff,Nat.reduceBEq,Nat.reduceLeDiff,Int.reduceToNat,Nat.reduceMul,reduceCtorEq,Int.reduceLE,kx,aL,cJ];exact k) (k:bA P y b s'):bA P (.seq (.region id ops false) y) b s:=aw fun K f=>h K (f s' k)
theorem aA (h: ∀K:AS->Prop,K s'->aY P [] [] (aK ops ops.toList 0) (some s) K:=by intro K k;simp(disch:=omega) only[kd,Nat.reduceAdd,Nat.reduceEqDiff,Nat.reduceBEq,Nat.reduceLeDiff,Int.reduceToNat,Nat.reduceMul,reduceCtorEq,Int.reduceLE,kx,aL,cJ,List.replicate];exact k) (k:bA P y b s'):bA P (.seq (.region id ops false) y) b s:=aw fun K f=>h K (f s' k)
theorem aH (x:α) (h:α-> ∀K:AS->Prop,K s'->aY P [] [] (aK ops ops.toList 0) (some s) K:=by intro x K k;simp(disch:=omega) only[kd,Nat.reduceAdd,Nat.reduceEqDiff,Nat.reduceBEq,Nat.reduceLeDiff,Int.reduceToNat,Nat.reduceMul,reduceCtorEq,Int.reduceLE,kx,aL,cJ,x];exact k) (k:bA P y b s'):bA P (.seq (.region id ops false) y) b s:=aw fun K f=>h x K (f s' k)
theorem jS (x:α) (h:α-> ∀K:AS->Prop,K s'->aY P [] [] (aK ops ops.toList 0) (some s) K:=by intro x K k;simp(disch:=omega) only[kd,Nat.reduceAdd,Nat.reduceEqDiff,Nat.reduceBEq,Nat.reduceLeDiff,Int.reduceToNat,Nat.reduceMul,reduceCtorEq,Int.reduceLE,kx,aL,cJ,List.replicate,x];exact k) (k:bA P y b s'):bA P (.seq (.region id ops false) y) b s:=aw fun K f=>h x K (f s' k)
theorem LG (h: ∀K:AS->Prop,K s'->aY prog [] [] (aK ops ops.toList 0) (some s) K:=by intro K k;simp(disch:=omega) only[kd,Nat.reduceAdd,Nat.reduceEqDiff,Nat.reduceBEq,Nat.reduceLeDiff,Int.reduceToNat,Nat.reduceMul,reduceCtorEq,Int.reduceLE,kx,aL,cJ];exact k) (c:bZ [] ops=true:=by kernel_rfl) (k:bA prog y b s'):bA prog (.seq (.region id ops true) y) b s:=lP cu c fun K f=>h K (f s' k)
theorem gM (x:α) (h:α-> ∀K:AS->Prop,K s'->aY prog [] [] (aK ops ops.toList 0) (some s) K:=by intro x K k;simp(disch:=omega) only[kd,Nat.reduceAdd,Nat.reduceEqDiff,Nat.reduceBEq,Nat.reduceLeDiff,Int.reduceToNat,Nat.reduceMul,reduceCtorEq,Int.reduceLE,kx,aL,cJ,x];exact k) (c:bZ [] ops=true:=by kernel_rfl) (k:bA prog y b s'):bA prog (.seq (.region id ops true) y) b s:=lP cu c fun K f=>h x K (f s' k)
theorem bj (c:List (aq P)) (h: ∀K:AS->Prop,K s'->aY P (c.map aq.a) [] (aK ops ops.toList 0) (some s) K:=by intro K k;simp only[kd,Nat.reduceAdd,Nat.reduceEqDiff,Nat.reduceBEq,Nat.reduceLeDiff,Int.reduceToNat,Nat.reduceMul,reduceCtorEq,Int.reduceLE,kx];exact k) (k:bA P y b s'):bA P (.seq (.region id ops false) y) b s:=bC c [] fun K f=>h K (f s' k)
theorem dU (c:List (aq P)) (x:α) (h:α-> ∀K:AS->Prop,K s'->aY P (c.map aq.a) [] (aK ops ops.toList 0) (some s) K:=by intro x K k;simp only[kd,Nat.reduceAdd,Nat.reduceEqDiff,Nat.reduceBEq,Nat.reduceLeDiff,Int.reduceToNat,Nat.reduceMul,reduceCtorEq,Int.reduceLE,kx,x];exact k) (k:bA P y b s'):bA P (.seq (.region id ops false) y) b s:=bC c [] fun K f=>h x K (f s' k)
theorem cj (c:List (aq P)) (x:α) (h:α-> ∀K:AS->Prop,K s'->aY P (c.map aq.a) [] (aK ops ops.toList 0) (some s) K:=by intro x K k;simp(disch:=omega) only[kd,Nat.reduceAdd,Nat.reduceEqDiff,Nat.reduceBEq,Nat.reduceLeDiff,Int.reduceToNat,Nat.reduceMul,reduceCtorEq,Int.reduceLE,kx,aL,cJ,x];exact k) (k:bA P y b s'):bA P (.seq (.region id ops false) y) b s:=bC c [] fun K f=>h x K (f s' k)
theorem bE (c:List (aq P)) (h: ∀K:AS->Prop,K s'->aY P (c.map aq.a) [] (aK ops ops.toList 0) (some s) K:=by intro K k;simp(disch:=omega) only[kd,Nat.reduceAdd,Nat.reduceEqDiff,Nat.reduceBEq,Nat.reduceLeDiff,Int.reduceToNat,Nat.reduceMul,reduceCtorEq,Int.reduceLE,kx,aL,cJ];exact k) (k:bA P y b s'):bA P (.seq (.region id ops false) y) b s:=bC c [] fun K f=>h K (f s' k)
theorem da (c:List (aq prog)) (h: ∀K:AS->Prop,K s'->aY prog (c.map aq.a) [] (aK ops ops.toList 0) (some s) K:=by intro K k;simp(disch:=omega) only[kd,Nat.reduceAdd,Nat.reduceEqDiff,Nat.reduceBEq,Nat.reduceLeDiff,Int.reduceToNat,Nat.reduceMul,reduceCtorEq,Int.reduceLE,kx,aL,cJ];exact k) (e:bZ [] ops=true:=by kernel_rfl) (k:bA prog y b s'):bA prog (.seq (.region id ops true) y) b s:=vI cu c [] e fun K f=>h K (f s' k)
theorem ch (c:List (aq prog)) (x:α) (h:α-> ∀K:AS->Prop,K s'->aY prog (c.map aq.a) [] (aK ops ops.toList 0) (some s) K:=by intro x K k;simp(disch:=omega) only[kd,Nat.reduceAdd,Nat.reduceEqDiff,Nat.reduceBEq,Nat.reduceLeDiff,Int.reduceToNat,Nat.reduceMul,reduceCtorEq,Int.reduceLE,kx,aL,cJ,x];exact k) (e:bZ [] ops=true:=by kernel_rfl) (k:bA prog y b s'):bA prog (.seq (.region id ops true) y) b s:=vI cu c [] e fun K f=>h x K (f s' k)
theorem aAl (h: ∀K:AS->Prop,K s'->aY P [] [] (aK ops ops.toList 0) (some s) K:=by intro K k;simp only[kd,Nat.reduceAdd,Nat.reduceEqDiff,Nat.reduceBEq,Nat.reduceLeDiff,Int.reduceToNat,Nat.reduceMul,reduceCtorEq,Int.reduceLE,kx];exact k) (k:b .normal s'):bA P (.region id ops false) b s:=g9 fun K f=>h K (f s' k)
theorem gL (x:α) (h:α-> ∀K:AS->Prop,K s'->aY P [] [] (aK ops ops.toList 0) (some s) K:=by intro x K k;simp only[kd,Nat.reduceAdd,Nat.reduceEqDiff,Nat.reduceBEq,Nat.reduceLeDiff,Int.reduceToNat,Nat.reduceMul,reduceCtorEq,Int.reduceLE,kx,x];exact k) (k:b .normal s'):bA P (.region id ops false) b s:=g9 fun K f=>h x K (f s' k)
theorem bu (h: ∀K:AS->Prop,K s'->aY P [] [] (aK ops ops.toList 0) (some s) K:=by intro K k;simp(disch:=omega) only[kd,Nat.reduceAdd,Nat.reduceEqDiff,Nat.reduceBEq,Nat.reduceLeDiff,Int.reduceToNat,Nat.reduceMul,reduceCtorEq,Int.reduceLE,kx,aL,cJ];exact k) (k:b .normal s'):bA P (.region id ops false) b s:=g9 fun K f=>h K (f s' k)
theorem Yc (h: ∀K:AS->Prop,K s'->aY P [] [] (aK ops ops.toList 0) (some s) K:=by intro K k;simp(disch:=omega) only[kd,Nat.reduceAdd,Nat.reduceEqDiff,Nat.reduceBEq,Nat.reduceLeDiff,Int.reduceToNat,Nat.reduceMul,reduceCtorEq,Int.reduceLE,kx,aL,cJ,List.replicate];exact k) (k:b .normal s'):bA P (.region id ops false) b s:=g9 fun K f=>h K (f s' k)
theorem dF (x:α) (h:α-> ∀K:AS->Prop,K s'->aY P [] [] (aK ops ops.toList 0) (some s) K:=by intro x K k;simp(disch:=omega) only[kd,Nat.reduceAdd,Nat.reduceEqDiff,Nat.reduceBEq,Nat.reduceLeDiff,Int.reduceToNat,Nat.reduceMul,reduceCtorEq,Int.reduceLE,kx,aL,cJ,x];exact k) (k:b .normal s'):bA P (.region id ops false) b s:=g9 fun K f=>h x K (f s' k)
theorem pQ (x:α) (h:α-> ∀K:AS->Prop,K s'->aY prog [] [] (aK ops ops.toList 0) (some s) K:=by intro x K k;simp(disch:=omega) only[kd,Nat.reduceAdd,Nat.reduceEqDiff,Nat.reduceBEq,Nat.reduceLeDiff,Int.reduceToNat,Nat.reduceMul,reduceCtorEq,Int.reduceLE,kx,aL,cJ,x];exact k) (c:bZ [] ops=true:=by kernel_rfl) (k:b .normal s'):bA prog (.region id ops true) b s:=IP cu c fun K f=>h x K (f s' k)
theorem abf (c:List (aq P)) (h: ∀K:AS->Prop,K s'->aY P (c.map aq.a) [] (aK ops ops.toList 0) (some s) K:=by intro K k;simp only[kd,Nat.reduceAdd,Nat.reduceEqDiff,Nat.reduceBEq,Nat.reduceLeDiff,Int.reduceToNat,Nat.reduceMul,reduceCtorEq,Int.reduceLE,kx];exact k) (k:b .normal s'):bA P (.region id ops false) b s:=pL c [] fun K f=>h K (f s' k)
theorem Yd (c:List (aq P)) (h: ∀K:AS->Prop,K s'->aY P (c.map aq.a) [] (aK ops ops.toList 0) (some s) K:=by intro K k;simp(disch:=omega) only[kd,Nat.reduceAdd,Nat.reduceEqDiff,Nat.reduceBEq,Nat.reduceLeDiff,Int.reduceToNat,Nat.reduceMul,reduceCtorEq,Int.reduceLE,kx,aL,cJ];exact k) (k:b .normal s'):bA P (.region id ops false) b s:=pL c [] fun K f=>h K (f s' k)
theorem vU (c:List (aq P)) (x:α) (h:α-> ∀K:AS->Prop,K s'->aY P (c.map aq.a) [] (aK ops ops.toList 0) (some s) K:=by intro x K k;simp(disch:=omega) only[kd,Nat.reduceAdd,Nat.reduceEqDiff,Nat.reduceBEq,Nat.reduceLeDiff,Int.reduceToNat,Nat.reduceMul,reduceCtorEq,Int.reduceLE,kx,aL,cJ,x];exact k) (k:b .normal s'):bA P (.region id ops false) b s:=pL c [] fun K f=>h x K (f s' k)
theorem Zh (c:List (aq prog)) (h: ∀K:AS->Prop,K s'->aY prog (c.map aq.a) [] (aK ops ops.toList 0) (some s) K:=by intro K k;simp(disch:=omega) only[kd,Nat.reduceAdd,Nat.reduceEqDiff,Nat.reduceBEq,Nat.reduceLeDiff,Int.reduceToNat,Nat.reduceMul,reduceCtorEq,Int.reduceLE,kx,aL,cJ];exact k) (e:bZ [] ops=true:=by kernel_rfl) (k:b .normal s'):bA prog (.region id ops true) b s:=vH cu c [] e fun K f=>h K (f s' k)
theorem eQ (c:List (aq prog)) (x:α) (h:α-> ∀K:AS->Prop,K s'->aY prog (c.map aq.a) [] (aK ops ops.toList 0) (some s) K:=by intro x K k;simp(disch:=omega) only[kd,Nat.reduceAdd,Nat.reduceEqDiff,Nat.reduceBEq,Nat.reduceLeDiff,Int.reduceToNat,Nat.reduceMul,reduceCtorEq,Int.reduceLE,kx,aL,cJ,x];exact k) (e:bZ [] ops=true:=by kernel_rfl) (k:b .normal s'):bA prog (.region id ops true) b s:=vH cu c [] e fun K f=>h x K (f s' k)
theorem Ye (e: ∀K:AS->Prop,K s'->aY P [] [] (aK ops ops.toList 0) (some s) K:=by intro K k;simp(disch:=omega) only[kd,Nat.reduceAdd,Nat.reduceEqDiff,Nat.reduceBEq,Nat.reduceLeDiff,Int.reduceToNat,Nat.reduceMul,reduceCtorEq,Int.reduceLE,kx,aL,cJ,List.replicate];exact k) (k:WpG P n h y c s' g):WpG P n h (.seq (.region id ops false) y) c s g:=WpG_sreg0 fun K f=>e K (f s' k)
theorem abg (e: ∀K:AS->Prop,K s'->aY P [] [] (aK ops ops.toList 0) (some s) K:=by intro K k;simp(disch:=omega) only[kd,Nat.reduceAdd,Nat.reduceEqDiff,Nat.reduceBEq,Nat.reduceLeDiff,Int.reduceToNat,Nat.reduceMul,reduceCtorEq,Int.reduceLE,kx,aL,cJ];exact k) (k:WpG P n h y c s' g):WpG P n h (.seq (.region id ops false) y) c s g:=WpG_sreg0 fun K f=>e K (f s' k)
theorem dy (e: ∀K:AS->Prop,K s'->aY P [] [] (aK ops ops.toList 0) (some s) K:=by intro K k;simp(disch:=omega) only[kd,Nat.reduceAdd,Nat.reduceEqDiff,Nat.reduceBEq,Nat.reduceLeDiff,Int.reduceToNat,Nat.reduceMul,reduceCtorEq,Int.reduceLE,kx,aL,cJ];exact k) (k:eH P n h y c s' g):eH P n h (.seq (.region id ops false) y) c s g:=qE fun K f=>e K (f s' k)
theorem mm (x:α) (e:α-> ∀K:AS->Prop,K s'->aY P [] [] (aK ops ops.toList 0) (some s) K:=by intro x K k;simp(disch:=omega) only[kd,Nat.reduceAdd,Nat.reduceEqDiff,Nat.reduceBEq,Nat.reduceLeDiff,Int.reduceToNat,Nat.reduceMul,reduceCtorEq,Int.reduceLE,kx,aL,cJ,x];exact k) (k:eH P n h y c s' g):eH P n h (.seq (.region id ops false) y) c s g:=qE fun K f=>e x K (f s' k)
theorem I3 (x:α) (e:α-> ∀K:AS->Prop,K s'->aY P [] [] (aK ops ops.toList 0) (some s) K:=by intro x K k;simp(disch:=omega) only[kd,Nat.reduceAdd,Nat.reduceEqDiff,Nat.reduceBEq,Nat.reduceLeDiff,Int.reduceToNat,Nat.reduceMul,reduceCtorEq,Int.reduceLE,kx,aL,cJ,List.replicate,x];exact k) (k:eH P n h y c s' g):eH P n h (.seq (.region id ops false) y) c s g:=qE fun K f=>e x K (f s' k)
theorem Yg (e: ∀K:AS->Prop,K s'->aY P [] [] (aK ops ops.toList 0) (some s) K:=by intro K k;simp(disch:=omega) only[kd,Nat.reduceAdd,Nat.reduceEqDiff,Nat.reduceBEq,Nat.reduceLeDiff,Int.reduceToNat,Nat.reduceMul,reduceCtorEq,Int.reduceLE,kx,aL,cJ,List.replicate];exact k) (k:eH P n h y c s' g):eH P n h (.seq (.region id ops false) y) c s g:=qE fun K f=>e K (f s' k)
theorem Yh (j:List (aq P)) (e: ∀K:AS->Prop,K s'->aY P (j.map aq.a) [] (aK ops ops.toList 0) (some s) K:=by intro K k;simp(disch:=omega) only[kd,Nat.reduceAdd,Nat.reduceEqDiff,Nat.reduceBEq,Nat.reduceLeDiff,Int.reduceToNat,Nat.reduceMul,reduceCtorEq,Int.reduceLE,kx,aL,cJ];exact k) (k:eH P n h y c s' g):eH P n h (.seq (.region id ops false) y) c s g:=yV j [] fun K f=>e K (f s' k)
theorem QG (j:List (aq P)) (x:α) (e:α-> ∀K:AS->Prop,K s'->aY P (j.map aq.a) [] (aK ops ops.toList 0) (some s) K:=by intro x K k;simp(disch:=omega) only[kd,Nat.reduceAdd,Nat.reduceEqDiff,Nat.reduceBEq,Nat.reduceLeDiff,Int.reduceToNat,Nat.reduceMul,reduceCtorEq,Int.reduceLE,kx,aL,cJ,x];exact k) (k:eH P n h y c s' g):eH P n h (.seq (.region id ops false) y) c s g:=yV j [] fun K f=>e x K (f s' k)
theorem xB (e: ∀K:AS->Prop,K s'->aY P [] [] (aK ops ops.toList 0) (some s) K:=by intro K k;simp(disch:=omega) only[kd,Nat.reduceAdd,Nat.reduceEqDiff,Nat.reduceBEq,Nat.reduceLeDiff,Int.reduceToNat,Nat.reduceMul,reduceCtorEq,Int.reduceLE,kx,aL,cJ];exact k) (k:c .normal s' g):eH P n h (.region id ops false) c s g:=NE fun K f=>e K (f s' k)
theorem Zj (x:α) (e:α-> ∀K:AS->Prop,K s'->aY prog [] [] (aK ops ops.toList 0) (some s) K:=by intro x K k;simp(disch:=omega) only[kd,Nat.reduceAdd,Nat.reduceEqDiff,Nat.reduceBEq,Nat.reduceLeDiff,Int.reduceToNat,Nat.reduceMul,reduceCtorEq,Int.reduceLE,kx,aL,cJ,x];exact k) (j:bZ [] ops=true:=by kernel_rfl) (k:c .normal s' g):eH prog n h (.region id ops true) c s g:=IZ cu j fun K f=>e x K (f s' k)
theorem QE (h: ∀K:AS->Prop,K s'->aY P [] [] (aK ops ops.toList 0) (some s) K:=by intro K k;simp(disch:=omega) only[kd,Nat.reduceAdd,Nat.reduceEqDiff,Nat.reduceBEq,Nat.reduceLeDiff,Int.reduceToNat,Nat.reduceMul,reduceCtorEq,Int.reduceLE,kx,aL,cJ,List.replicate];exact k) (c:f5 pk ops=true:=by kernel_rfl) (k:fX P pk y b s'):fX P pk (.seq (.region id ops false) y) b s:=vM c fun K f=>h K (f s' k)
theorem dc (x:α) (h:α-> ∀K:AS->Prop,K s'->aY P [] [] (aK ops ops.toList 0) (some s) K:=by intro x K k;simp(disch:=omega) only[kd,Nat.reduceAdd,Nat.reduceEqDiff,Nat.reduceBEq,Nat.reduceLeDiff,Int.reduceToNat,Nat.reduceMul,reduceCtorEq,Int.reduceLE,kx,aL,cJ,x];exact k) (c:f5 pk ops=true:=by kernel_rfl) (k:fX P pk y b s'):fX P pk (.seq (.region id ops false) y) b s:=vM c fun K f=>h x K (f s' k)
theorem dm (h: ∀K:AS->Prop,K s'->aY P [] [] (aK ops ops.toList 0) (some s) K:=by intro K k;simp(disch:=omega) only[kd,Nat.reduceAdd,Nat.reduceEqDiff,Nat.reduceBEq,Nat.reduceLeDiff,Int.reduceToNat,Nat.reduceMul,reduceCtorEq,Int.reduceLE,kx,aL,cJ];exact k) (c:f5 pk ops=true:=by kernel_rfl) (k:fX P pk y b s'):fX P pk (.seq (.region id ops false) y) b s:=vM c fun K f=>h K (f s' k)
theorem vV (x:α) (h:α-> ∀K:AS->Prop,K s'->aY prog [] [] (aK ops ops.toList 0) (some s) K:=by intro x K k;simp(disch:=omega) only[kd,Nat.reduceAdd,Nat.reduceEqDiff,Nat.reduceBEq,Nat.reduceLeDiff,Int.reduceToNat,Nat.reduceMul,reduceCtorEq,Int.reduceLE,kx,aL,cJ,x];exact k) (c:bZ [] ops=true:=by kernel_rfl) (e:f5 pk ops=true:=by kernel_rfl) (k:fX prog pk y b s'):fX prog pk (.seq (.region id ops true) y) b s:=IS cu c e fun K f=>h x K (f s' k)
theorem Yf (c:List (aq P)) (h: ∀K:AS->Prop,K s'->aY P (c.map aq.a) [] (aK ops ops.toList 0) (some s) K:=by intro K k;simp(disch:=omega) only[kd,Nat.reduceAdd,Nat.reduceEqDiff,Nat.reduceBEq,Nat.reduceLeDiff,Int.reduceToNat,Nat.reduceMul,reduceCtorEq,Int.reduceLE,kx,aL,cJ];exact k) (e:f5 pk ops=true:=by kernel_rfl) (k:fX P pk y b s'):fX P pk (.seq (.region id ops false) y) b s:=yR c [] e fun K f=>h K (f s' k)
theorem Zi (c:List (aq P)) (x:α) (h:α-> ∀K:AS->Prop,K s'->aY P (c.map aq.a) [] (aK ops ops.toList 0) (some s) K:=by intro x K k;simp(disch:=omega) only[kd,Nat.reduceAdd,Nat.reduceEqDiff,Nat.reduceBEq,Nat.reduceLeDiff,Int.reduceToNat,Nat.reduceMul,reduceCtorEq,Int.reduceLE,kx,aL,cJ,x];exact k) (e:f5 pk ops=true:=by kernel_rfl) (k:fX P pk y b s'):fX P pk (.seq (.region id ops false) y) b s:=yR c [] e fun K f=>h x K (f s' k)
theorem Vf (c:List (aq prog)) (x:α) (h:α-> ∀K:AS->Prop,K s'->aY prog (c.map aq.a) [] (aK ops ops.toList 0) (some s) K:=by intro x K k;simp(disch:=omega) only[kd,Nat.reduceAdd,Nat.reduceEqDiff,Nat.reduceBEq,Nat.reduceLeDiff,Int.reduceToNat,Nat.reduceMul,reduceCtorEq,Int.reduceLE,kx,aL,cJ,x];exact k) (e:bZ [] ops=true:=by kernel_rfl) (g:f5 pk ops=true:=by kernel_rfl) (k:fX prog pk y b s'):fX prog pk (.seq (.region id ops true) y) b s:=B8 cu c [] e g fun K f=>h x K (f s' k)
theorem I2 (h: ∀K:AS->Prop,K s'->aY P [] [] (aK ops ops.toList 0) (some s) K:=by intro K k;simp(disch:=omega) only[kd,Nat.reduceAdd,Nat.reduceEqDiff,Nat.reduceBEq,Nat.reduceLeDiff,Int.reduceToNat,Nat.reduceMul,reduceCtorEq,Int.reduceLE,kx,aL,cJ];exact k) (c:f5 pk ops=true:=by kernel_rfl) (k:b .normal s'):fX P pk (.region id ops false) b s:=B7 c fun K f=>h K (f s' k)
theorem rF (x:α) (h:α-> ∀K:AS->Prop,K s'->aY P [] [] (aK ops ops.toList 0) (some s) K:=by intro x K k;simp(disch:=omega) only[kd,Nat.reduceAdd,Nat.reduceEqDiff,Nat.reduceBEq,Nat.reduceLeDiff,Int.reduceToNat,Nat.reduceMul,reduceCtorEq,Int.reduceLE,kx,aL,cJ,x];exact k) (c:f5 pk ops=true:=by kernel_rfl) (k:b .normal s'):fX P pk (.region id ops false) b s:=B7 c fun K f=>h x K (f s' k)
theorem iu {b:Type} {L:jd b} {g:b} {Q:Exit->AS->b->Prop} (h: ∀K:AS->Prop,K s'->aY P [] [] (aK ops ops.toList 0) (some s) K:=by intro K k;simp(disch:=omega) only[kd,Nat.reduceAdd,Nat.reduceEqDiff,Nat.reduceBEq,Nat.reduceLeDiff,Int.reduceToNat,Nat.reduceMul,reduceCtorEq,Int.reduceLE,kx,aL,cJ];exact k) (c:dK l ops=true:=by kernel_rfl) (k:fw P L l y Q s' g):fw P L l (.seq (.region id ops false) y) Q s g:=Cb c fun K f=>h K (f s' k)
theorem eR {b:Type} {L:jd b} {g:b} {Q:Exit->AS->b->Prop} (x:α) (h:α-> ∀K:AS->Prop,K s'->aY P [] [] (aK ops ops.toList 0) (some s) K:=by intro x K k;simp(disch:=omega) only[kd,Nat.reduceAdd,Nat.reduceEqDiff,Nat.reduceBEq,Nat.reduceLeDiff,Int.reduceToNat,Nat.reduceMul,reduceCtorEq,Int.reduceLE,kx,aL,cJ,x];exact k) (c:dK l ops=true:=by kernel_rfl) (k:fw P L l y Q s' g):fw P L l (.seq (.region id ops false) y) Q s g:=Cb c fun K f=>h x K (f s' k)
theorem QF {c:Type} {L:jd c} {g:c} {Q:Exit->AS->c->Prop} (b:List (aq P)) (h: ∀K:AS->Prop,K s'->aY P (b.map aq.a) [] (aK ops ops.toList 0) (some s) K:=by intro K k;simp(disch:=omega) only[kd,Nat.reduceAdd,Nat.reduceEqDiff,Nat.reduceBEq,Nat.reduceLeDiff,Int.reduceToNat,Nat.reduceMul,reduceCtorEq,Int.reduceLE,kx,aL,cJ];exact k) (e:dK l ops=true:=by kernel_rfl) (k:fw P L l y Q s' g):fw P L l (.seq (.region id ops false) y) Q s g:=pP b [] e fun K f=>h K (f s' k)
theorem xA {b:Type} {L:jd b} {g:b} {Q:Exit->AS->b->Prop} (h: ∀K:AS->Prop,K s'->aY P [] [] (aK ops ops.toList 0) (some s) K:=by intro K k;simp(disch:=omega) only[kd,Nat.reduceAdd,Nat.reduceEqDiff,Nat.reduceBEq,Nat.reduceLeDiff,Int.reduceToNat,Nat.reduceMul,reduceCtorEq,Int.reduceLE,kx,aL,cJ];exact k) (c:dK l ops=true:=by kernel_rfl) (k:Q .normal s' g):fw P L l (.region id ops false) Q s g:=Ca c fun K f=>h K (f s' k)
theorem tC {b:Type} {L:jd b} {g:b} {Q:Exit->AS->b->Prop} (x:α) (h:α-> ∀K:AS->Prop,K s'->aY P [] [] (aK ops ops.toList 0) (some s) K:=by intro x K k;simp(disch:=omega) only[kd,Nat.reduceAdd,Nat.reduceEqDiff,Nat.reduceBEq,Nat.reduceLeDiff,Int.reduceToNat,Nat.reduceMul,reduceCtorEq,Int.reduceLE,kx,aL,cJ,x];exact k) (c:dK l ops=true:=by kernel_rfl) (k:Q .normal s' g):fw P L l (.region id ops false) Q s g:=Ca c fun K f=>h x K (f s' k)
theorem aC {p q:Prop} (a:p) (b:q):p/\q:=⟨a,b⟩
theorem aE {c:Func} {r:TV} (x:α) (e:b .ret s=((Exit.ret= .normal\/Exit.ret= .ret)/\ ∃s',bJ s s'/\nd P c ⟨[],r⟩ s'):=by rfl) (h:α->rA P s c.results.toList=some r:=by intro x;simp(disch:=omega) only[kd,Nat.reduceAdd,Nat.reduceEqDiff,Nat.reduceBEq,Nat.reduceLeDiff,Int.reduceToNat,Nat.reduceMul,reduceCtorEq,Int.reduceLE,kx,aL,cJ,x]) (f:s.H 1000=[]:=by rfl) (g:noRefTV r=true:=by rfl):bA P .ret b s:=aQ (e.mpr ⟨.inr rfl,b8 f (h x) g⟩)
theorem ax {f:FuncId} {g:Func} {args:List TV} {res:CallRes} (l:P.funcs[f]?=some g) (j:g.body=some e) (o:g.ntmps=n) (h:bA P e (fun b s=>(b= .normal\/b= .ret)/\ ∃s',bJ s s'/\nd P g res s') ⟨args++ae (n-args.length) .undef,fun _=>[]⟩) (p:callable P f=true:=by kernel_rfl):CallC P f args res:=fL l j p (by rw[o];exact h)
theorem ab2 (g:s.ev j=some (.raw (.bool false))) (h:bA P f b s):bA P (.cond j e .skip) (iH (bA P f b) b) s:=ao g (ak h)
theorem ab3 (g:s.ev j=some (.raw (.bool true))) (h:bA P f b s):bA P (.cond j .skip e) (iH (bA P f b) b) s:=az g (ak h)
theorem ab4 (m:s.ev j=some (.raw (.bool false))) (l:WpG P n h f c s g):WpG P n h (.cond j e .skip) (qz (WpG P n h f c) c) s g:=WpG_cF m (WpG_skip l)
theorem ab5 (m:s.ev j=some (.raw (.bool true))) (l:WpG P n h f c s g):WpG P n h (.cond j .skip e) (qz (WpG P n h f c) c) s g:=WpG_cT m (WpG_skip l)
theorem aca (m:s.ev j=some (.raw (.bool false))) (l:eH P n h f c s g):eH P n h (.cond j e .skip) (qz (eH P n h f c) c) s g:=cK m (kh l)
theorem acb (m:s.ev j=some (.raw (.bool true))) (l:eH P n h f c s g):eH P n h (.cond j .skip e) (qz (eH P n h f c) c) s g:=jf m (kh l)
theorem ab6 {k:Nat} (g:s.ev j=some (.raw (.bool false))) (h:fX P k f b s):fX P k (.cond j e .skip) (iH (fX P k f b) b) s:=fK g (db h)
theorem ab7 {k:Nat} (g:s.ev j=some (.raw (.bool true))) (h:fX P k f b s):fX P k (.cond j .skip e) (iH (fX P k f b) b) s:=f9 g (db h)
theorem ab8 {b:Type} {L:jd b} {g:b} {Q:Exit->AS->b->Prop} (m:s.ev j=some (.raw (.bool false))) (h:fw P L l f Q s g):fw P L l (.cond j e .skip) (vo (fw P L l f Q) Q) s g:=ir m (eP h)
theorem ab9 {b:Type} {L:jd b} {g:b} {Q:Exit->AS->b->Prop} (m:s.ev j=some (.raw (.bool true))) (h:fw P L l f Q s g):fw P L l (.cond j .skip e) (vo (fw P L l f Q) Q) s g:=iN m (eP h)
end
end
theorem jE (l:List Nat) (s:l.length<=1073741824):CallC prog 72 [cW l] ⟨[],cW (co l)⟩:=by
 refine ax func72 rfl ntmps72 (aA (k:=bi (k:=?_)));refine Dy (G:={n:Nat//n<=l.length/\co l=co (l.take n)}) (fun n=>⟨(cW l::jk::.raw (.slice none 0 0)::.raw (.int .i64 n.1)::j16 (jk::jk::[])),Hm []⟩) (fun n=>n.1) ⟨l.length,acs _,by simp⟩ ?_ ?_
 ·refine aj trivial ?_;simp[wk]
 rintro⟨n,t,r⟩;simp only;by_cases q:0<n
 ·obtain⟨a,o⟩:=getElem?_of_lt (l:=l) (k:=n-1) (by omega);have m:((n:Int)-1).toNat=n-1:=by omega
  refine ai (aH (aC m o) (k:=?_));have p:l.take n=l.take (n-1)++[a]:=by
   have:=ad4 (i:=n-1) (l:=l) (by omega);grind
  refine bs rfl (fun g=>ak ?_) (fun g=>aX ?_)
  ·have j:a=0:=by grind
   refine am (bu (k:=?_));refine⟨⟨n-1,by omega,?_⟩,by simp only;omega,aj trivial ?_⟩
   ·simp_all[jG]
   have e:((n-1:Nat):Int)=(n:Int)-1:=by omega
   simp[wk,e]
  have j:a≠0:=by grind
  have b:co l=l.take n:=by grind [rp]
  show bA _ _ _ _;have c:(l.take n).length=n:=by simp;omega
  refine aH (aC @acL (aC (dW mP) (aC c (iz mP)))) (k:=?_);refine aQ ⟨.inr rfl,dp 21 (bf rfl) ?_ rfl⟩;simp(disch:=omega) only[kd,results72,b];grind
 have h:n=0:=by omega
 subst h;have b:co l=[]:=by grind [co]
 refine ai (ar (k:=bs rfl (fun g=>by cases g) (fun g=>aX (aH (aC @acL (dW mP)) (k:=?_)))));refine aQ ⟨.inr rfl,dp 21 (bf (f:=fU) (l:=[]) rfl) ?_ rfl⟩;simp(disch:=omega) only[kd,results72,b];simp[ls]
theorem cn:au 0=[]:=by rw[au];simp
theorem wl (h:n≠0):au n=n%4294967296::au (n/4294967296):=by grind [au]
theorem aG (n:Nat):natV (au n)=n:=by
 induction n using Nat.strongRecOn with
 |_ n b=>
  grind [cn,wl,natV]
theorem aI (n:Nat):Lmb (au n):=by
 induction n using Nat.strongRecOn with
 |_ n c=>
  by_cases h:n=0
  ·subst h;rw[cn];intro a b;simp at b
  rw[wl h];intro a b;rcases acR.1 b with rfl|b
  ·omega
  exact c _ (On h) a b
theorem cb (n:Nat):xO (au n):=by
 induction n using Nat.strongRecOn with
 |_ n b=>
  grind [cn,xO,wl]
theorem RB (b:Lmb l) (c:xO l):l=au (natV l):=
 Vp b (aI _) c (cb _) (aG _).symm
theorem dw (b:Lmb l):co l=au (natV l):=by
 grind [RB,T4,TZ,OF]
theorem jF (n:Nat):co (au n)=au n:=xw (cb n)
theorem Ea:au n=[]↔n=0:=⟨fun h=>by rw[<- aG n,h];rfl,fun h=>by rw[h,cn]⟩
theorem lI {n k:Nat} (h:n<4294967296^k):(au n).length<=k:=Jh (cb n) (by grind [aG])
theorem gU {n:Nat}:(au n).length=0↔n=0:=by simp_all[Ea]
def Sz (z:Int) (k:Nat):Prop:=z.natAbs<4294967296^k
theorem Sz.len {k:Nat} (h:Sz x k):(au x.natAbs).length<=k:=lI h
theorem Sz.mono {k l:Nat} (h:Sz x k) (b:k<=l):Sz x l:=acp h (acF (by omega) b)
theorem oF (z:Int):(fZ z).length=2:=rfl
theorem uW (neg:Bool) (n:Nat):(iq neg n).natAbs=n:=by grind [iq]
theorem MS (neg:Bool) (n:Nat):decide (iq neg n<0)=(neg&&decide (0<n)):=by
 grind [iq]
theorem jZ (neg:Bool) (l:List Nat) (h:Lmb l) (b:l.length<=1073741824):CallC prog 105 [.raw (.bool neg),cW l] ⟨[],tZ (iq neg (natV l))⟩:=by
 have e:=jE l b;rw[dw h]at e;have c:(au (natV l)).length<=1073741824:=by rw[<- dw h];exact acl (T0 l) b
 refine ax func105 rfl ntmps105 (aA (k:=bj [⟨1,_,_,_,e⟩] (k:=?_)));cases neg with
 |false=>
  refine ar (k:=?_);refine aQ ⟨.inr rfl,b8 rfl ?_ rfl⟩;simp(disch:=omega) only[kd,results105,aa,tZ];rfl
 |true=>
  refine ar (k:=?_);refine aQ ⟨.inr rfl,b8 rfl ?_ rfl⟩;simp(disch:=omega) only[kd,results105,aa,tZ];have:(0<(au (natV l)).length)↔0<natV l:=by
   grind [gU]
  grind [uW,MS]
abbrev Bg (z:Int):Prop:=Sz z 1073741824
theorem Bg.len (h:Bg x):(au x.natAbs).length<=1073741824:=lI h
theorem Sx (z:Int):iq (!decide (z<0)) z.natAbs= -z:=by grind [iq]
theorem Eh (z:Int):iq (decide (z<0)) z.natAbs=z:=by grind [iq]
theorem G5 (z:Int) (h:Bg z):CallC prog 79 [tZ z] ⟨[],tZ (-z)⟩:=by
 have b:=jZ (!decide (z<0)) (au z.natAbs) (aI _) h.len;rw[aG,Sx]at b;refine ax func79 rfl ntmps79 (aA (k:=bE [⟨5,_,_,_,b⟩] (k:=aE @results79)))
theorem QH (z:Int) (h:Bg z):CallC prog 158 [tZ z] ⟨[],tZ z.natAbs⟩:=by
 have b:=jZ false (au z.natAbs) (aI _) h.len;rw[aG,show iq false z.natAbs=z.natAbs from rfl]at b;refine ax func158 rfl ntmps158 (aA (k:=bE [⟨2,_,_,_,b⟩] (k:=aE @results158)))
theorem Er (z:Int) (h:Bg z):CallC prog 52 [tZ z] ⟨[],tZ z⟩:=by
 have b:=jZ (decide (z<0)) (au z.natAbs) (aI _) h.len;rw[aG,Eh]at b;refine ax func52 rfl ntmps52 (aA (k:=bE [⟨4,_,_,_,b⟩] (k:=aE @results52)))
theorem Fg (neg:Bool) (u:Nat) (g:u<18446744073709551616):CallC prog 128 [.raw (.bool neg),.raw (.int .u64 u)] ⟨[],tZ (iq neg u)⟩:=by
 have c:=jZ neg [u%4294967296,u/4294967296] (by intro a f;grind) (by simp);rw[Dj]at c;have e:IntKind.u32.wrap (u:Int)=((u%4294967296:Nat):Int):=by rfl
 have b:IntKind.u32.wrap ((u:Int).fdiv (2^(min (32:Int).toNat IntKind.u64.bits)))=((u/4294967296:Nat):Int):=by
  rw[ad8];show(Int.fdiv (u:Int) 4294967296)%4294967296=_;grind
 simp only[ah]at b;refine ax func128 rfl ntmps128 (aA (k:=cj [⟨7,_,_,_,c⟩] (aC @Mr (aC e b)) (k:=aE @results128)))
theorem fh (n:Int) (e: -9223372036854775808<=n) (f:n<=9223372036854775807):CallC prog 74 [.raw (.int .i64 n)] ⟨[],tZ n⟩:=by
 by_cases g:n<0
 ·have b:=Fg true n.natAbs (by omega);have c:IntKind.u64.wrap (0-IntKind.u64.wrap n)=((n.natAbs:Nat):Int):=by grind [IntKind.wrap_u64]
  rw[show iq true n.natAbs=n by grind [iq]]at b;refine ax func74 rfl ntmps74 (aA (k:=ai (ar (k:=az rfl (cj [⟨3,_,_,_,b⟩] c (k:=aE @results74))))))
 have b:=Fg false n.natAbs (by omega);have c:IntKind.u64.wrap n=((n.natAbs:Nat):Int):=by rw[adb];omega
 rw[show iq false n.natAbs=n by grind [iq]]at b;refine ax func74 rfl ntmps74 (aA (k:=ai (ar (k:=ao rfl (ak (cj [⟨2,_,_,_,b⟩] c (k:=aE @results74)))))))
theorem kW (z:Int) (h:Bg z):CallC prog 75 [tZ z] ⟨[],.raw (.int .i64 (sg z))⟩:=by
 have b:=jE (au z.natAbs) h.len;rw[jF]at b;have g:=gU (n:=z.natAbs);rcases Int.lt_trichotomy z 0 with c|c|c
 ·have e:sg z= -1:=by simp[sg,c]
  have f:(au z.natAbs).length≠0:=by omega
  rw[e];refine ax func75 rfl ntmps75 (aA (k:=ai (am (bE [⟨2,_,_,_,b⟩] (k:=ao rfl (bi (k:=az rfl (bi (k:=aE @results75)))))))))
 ·subst c;rw[show sg 0=0 from rfl];rw[Int.natAbs_zero,cn]at b;rw[show tZ 0= .agg [.p (.raw (.bool false)),.p (.sl (ls fU []))]from by grind];refine ax func75 rfl ntmps75 (aA (k:=ai (am (bE [⟨2,_,_,_,b⟩] (k:=az rfl (bi (k:=aE @results75)))))))
 have e:sg z=1:=by grind [sg]
 have f:(au z.natAbs).length≠0:=by omega
 rw[e];refine ax func75 rfl ntmps75 (aA (k:=ai (am (bE [⟨2,_,_,_,b⟩] (k:=ao rfl (bi (k:=ao rfl (ak (bi (k:=aE @results75))))))))))
end Go.Proofs.YtalmoejhjceflaaGreat
