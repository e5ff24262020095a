/-
  Part 24 of a proof (walks and plain facts).
-/
import Derived.Test.YtalmoejhjceflaaGreatR22
import Derived.Laws.EntriesVeiled
set_option linter.all false
set_option maxRecDepth 100000
set_option maxHeartbeats 64000000
open Nat renaming reduceAdd → aa
open Nat renaming reduceEqDiff → ab
open List renaming replicate → ae
open Nat renaming reduceBEq → af
open Nat renaming reduceLeDiff → ag
open Int renaming reduceToNat → ah
namespace Go.Proofs.YtalmoejhjceflaaGreat
open Go.RowKit Go.Proofs.Tryz
variable {b:Exit->AS->Prop} {c:Exit->AS->List PV->Prop} {e f:Code} {g:List PV} {n:Nat} {h:TypeId} {j:List Nat} {l:Operand} {m:List NItem} {x:Int} {o:NItem}
theorem Tryz.infoKeyed:(prog.info? 177).map (fun i=>(i.zero,i.size,i.bytes))=some (some (.agg #[.int .i64 0,.slice none 0 0]),2,32):=by kernel_rfl
def tO (b:List (List Int)) (x:List Int):Option Int:=
 if -4611686018427387904<=fo x (fz b x) x.length/\fo x (fz b x) x.length<=4611686018427387904 then some (fo x (fz b x) x.length)else none
def nF (b:List (List Int)) (x:List Int):Option (Int×List Int):=
 if FitB b.length x then(match tO b x,iy x with
  |some k,some y=>some (k,y)
  |_,_=>none)else none
def fW (c:List (List Int)):List (List Int)->Option (List (Int×List Int))
 |[]=>some []
 |x::l=>match nF c x,fW c l with
  |some a,some b=>some (a::b)
  |_,_=>none
theorem kH {b:List (List Int)}: ∀{l:List (List Int)} {k:Nat} {x:List Int},l[k]?=some x->nF b x=none->fW b l=none
 |[],_,_,h,_=>by simp at h
 |a::l,0,x,h,c=>by grind [fW]
 |a::l,k+1,x,h,c=>by
  simp at h;have:=kH h c;simp[fW,this]
def NItem.dat (b:NItem):Int×List Int:=(b.key,b.vals)
theorem tM {rows:List (List Int)}: ∀{l:List (List Int)} {L:List NItem},L.length=l.length->(∀(j:Nat) (b:NItem),L[j]?=some b-> ∃x,l[j]?=some x/\nF rows x=some b.dat)->fW rows l=some (L.map NItem.dat)
 |[],[],_,_=>rfl
 |[],_::_,h,_=>by simp at h
 |_::_,[],h,_=>by simp at h
 |x::l,b::L,h,e=>by
  have f:=e 0 b rfl;simp at f;have g:=tM (rows:=rows) (l:=l) (L:=L) (by grind) (fun j c m=>by
   obtain⟨y,n,o⟩:=e (j+1) c (by grind);grind)
  grind [fW]
def ms (L:List NItem):List Value:=L.flatMap nA
theorem Dz (L:List NItem) (b:NItem):ms L++nA b=ms (L++[b]):=by simp[ms]
theorem zm: ∀{L:List NItem} {j:Nat} {b:NItem},L[j]?=some b->(ms L)[j*2]?=some (.int .i64 b.key)/\(ms L)[j*2+1]?=some b.val
 |[],_,_,h=>by simp at h
 |a::L,0,b,h=>by grind [ms,nA,NItem.val]
 |a::L,j+1,b,h=>by
  simp at h;obtain⟨c,e⟩:=zm h;grind [ms,nA]
theorem GR (c:NItem): ∀u∈nA c,u.oneCell'=true:=by
 intro u b;simp[nA]at b;rcases b with rfl|rfl<;>rfl
def Y8 (v:Value):Nat->Value:=fun j=>if j=0 then v else .func (Fn.func 132) #[] #[]
def Ym (w:World) (c:Nat) (v:Value) (b:NItem):Prop:=RdI .i64 w b.at_ b.vals/\(b.vals.length<=9223372036854775807/\b.vals.length<=b.cap)/\ ∀p,b.at_=some p->v.ownBlock≠some p.block/\c<p.block/\p.block<w.heap.size
def RM (k:Nat) (w:World) (A:Option Addr) (M:List (List Int)):Prop:=M.length<=65536/\ ∃b,A=some ⟨b,0,none⟩/\k<=b/\b<w.heap.size/\ ∀(i:Nat) r,M[i]?=some r-> ∃e c,w.cell? ⟨b,i,none⟩=some (.slice e r.length c)/\r.length<=c/\r.length<=9223372036854775807/\RdI .i64 w e r/\ ∀p,e=some p->k<=p.block/\p.block<w.heap.size
def Ft (c:Nat) (b:World) (r:Option (List (Int×List Int))) (e:Ending):Prop:=match r with
 |none=>e= .returned (.tuple #[.slice none 0 0,.bool false])
 |some f=> ∃L:List NItem,(L.map NItem.dat).Perm f/\qf L/\ ∃A,e= .returned (.tuple #[.slice A (bu L).length (bu L).length,.bool true])/\oP .i64 b A ((bu L).map NItem.vals)/\RM c b A ((bu L).map NItem.vals)
theorem KO {b:List (List Int)} {x:List Int} {k:Int} (h:tO b x=some k):Dl (fo x (fz b x) x.length)= .tuple #[.int .i64 k,.bool true]:=by
 grind [tO,Dl]
theorem KN {b:List (List Int)} {x:List Int} (h:tO b x=none):Dl (fo x (fz b x) x.length)= .tuple #[.int .i64 0,.bool false]:=by
 grind [tO,Dl]
theorem pz: ∀{l:List NItem} {p c:NItem},c∈dA p l->c∈l
 |[],_,_,h=>by simp[dA]at h
 |b::l,p,c,h=>by
  unfold dA at h;split at h
  ·exact aa0 _ (pz h)
  rcases aaR.1 h with rfl|h
  ·simp
  exact aa0 _ (pz h)
theorem tE (h:o∈bu m):o∈m:=by
 cases m with
 |nil=>simp[bu]at h
 |cons a l=>
  grind [bu,pz]
theorem v7: ∀(l:List NItem) (p:NItem),(dA p l).length<=l.length
 |[],_=>by simp[dA]
 |b::l,p=>by
  unfold dA;have:=v7 l b;grind
theorem Df (L:List NItem):(bu L).length<=L.length:=by
 cases L with
 |nil=>simp[bu]
 |cons a l=>grind [v7,bu]
def Pq (L:List NItem) (m:Nat):Nat->Value:=fun j=>if j<m then(match L[j]? with|some b=>b.val|none=>undef)else .slice none 0 0
theorem xU (A B:Option Addr) (c d:Nat) (rows l:List (List Int)) (w:World) (hR:oP .i64 w A rows) (hl:oP .i64 w B l) (lr:rows.length<=9223372036854775807) (hc:rows.length<=c) (ll:l.length<=65536):
  Calls prog 89 #[.slice A rows.length c,.slice B l.length d] w fun e w'=>Ft w.heap.size w' (if isReducedM rows then fW rows l else none) e/\Ext w w':=by
 have HR:=aal hR;have HL:=aal hl;clear hR hl;cases hI:isReducedM rows with
 |false=>
  have HV:Hid ((if isReducedM rows then fW rows l else none)=none):=aal (by simp[hI])
  go_enter func89,ntmps89
  go_wp2_with (go_at_call 36;refine(gf A c rows _ HR.out lr hc).mono ?_;rintro e w1 ⟨rfl,he⟩)
  go_ret2
  exact⟨rfl,he⟩
 |true=>
  have HSm:=aal (iB hI);have h8:rows.length<=8:=HSm.out.2.1
  go_enter func89,ntmps89
  go_wp2_with (go_at_call 36;refine(gf A c rows _ HR.out lr hc).mono ?_;rintro e w1 ⟨rfl,he⟩;have HE:=aal he;clear he)
  clear hI;obtain⟨wo,rfl⟩: ∃wo:World,wo=w1:=⟨_,rfl⟩
  go_loopw [22,8,9,10,11,12] (fun i _ _ _ _ _ wr=> ∃(k:Nat) (L:List NItem) (v:Value),k<=l.length/\i= .int .i64 k/\Hid (L.length=k/\(k=0->v= .slice none 0 0))/\Hid (∀(j:Nat) (it:NItem),L[j]?=some it-> ∃x,l[j]?=some x/\nF rows x=some it.dat)/\Hid (wr.ownsRow (wo.heap.size+1) 177 2 v k (ms L))/\Hid (wr.rowIs wo.heap.size 173 2 (Y8 v))/\Hid (Ext wo wr)/\Hid (∀it∈L,Ym wr wo.heap.size v it)) (fun i _ _ _ _ _ _=>l.length-(intOf i).toNat)
  case atStart=>
   refine⟨0,[],.slice none 0 0,aaW _,rfl,aal ⟨rfl,fun _=>rfl⟩,aal (by simp),aal (acH _ _ _ _),aal ?_,aal ?_,aal (by simp)⟩
   ·refine adB wo #[.slice none 0 0,.func (Fn.func 132) #[] #[]] _ _ (fun i hi=>?_)
    match i,hi with
    |0,_=>rfl
    |1,_=>rfl
   exact(Ext.refl _).alloc _
  case round=>
   obtain⟨k,L,v,hk,rfl,HLen,HIt,HOwn,HRow,HE2,HIV⟩:=hrel;by_cases hlt:k<l.length
   ·obtain⟨x,hx⟩:=getElem?_of_lt hlt;obtain⟨b,off,BX,cx,rfl,hcx,hcxl,hlx,hrx⟩:=((HL.out.ext HE.out).ext HE2.out).at_ hx;have HX:=aal hx;have HRX:=aal hrx;clear hx hrx;cases hF:FitB rows.length x with
    |false=>
     have HN:Hid (fW rows l=none):=aal (kH HX.out (by grind [nF]))
     go_wp2_with (go_at_call 116;refine(wv rows.length BX cx x _ HRX.out hlx).mono ?_;rintro e w2 ⟨rfl,rfl⟩)
     go_ret2
     exact⟨by rw[HN.out];rfl,HE.out.trans HE2.out⟩
    |true=>
     obtain⟨hxl,hxb⟩:=jX.1 hF;have hxle:x.length<=rows.length:=by omega
     have hxge:rows.length<=x.length:=by omega
     have HXB:=aal hxb;have HF:=aal hF;have HA:=aal (Kr HSm.out hxb);have HAL:=aal (yl rows x);clear hxl hxb
     go_wp2_with (go_at_call 116;refine(wv rows.length BX cx x _ HRX.out hlx).mono ?_;rintro e w2 ⟨rfl,rfl⟩)
     clear hF;refine(Ks A BX c cx rows x _ ((HR.out.ext HE.out).ext HE2.out) HRX.out (by omega) (fun i hi=>by rw[HSm.out.2.2.1 i hi];exact hxge) hlx).mono ?_;rintro e w3 ⟨rfl,hrd,he3⟩;have hcon:=SH BX (some ⟨wr.heap.size,0,none⟩) cx rows.length x (fz rows x) w3 (HRX.out.ext he3) hrd (by rw[HAL.out];exact hxle) (by omega) (by rw[HAL.out];omega) (fun i z hz=>l6 HXB.out hz) HA.out;rw[HAL.out]at hcon;have HC:=aal hcon;have HE3:=aal he3;clear hcon hrd he3
     go_wp2_with fail
     cases hN:tO rows x with
     |none=>
      have hno:=HC.out;rw[KN hN]at hno;have HNone:Hid (fW rows l=none):=aal (kH HX.out (by unfold nF;simp_all));refine hno.mono ?_;rintro e w4 ⟨rfl,he4⟩;have HE4:=aal (HE3.out.trans he4);clear he4 hno HC hN
      go_wp2_with fail
      refine(kB BX cx x _ (HRX.out.ext HE4.out) (by omega)).mono ?_;rintro e w5 ⟨hcv,he5⟩;have HE5:=aal (((HE.out.trans HE2.out).trans HE4.out).trans he5);clear he5;have hform: ∃va vb,e= .returned (.tuple #[va,.bool vb]):=by
       unfold NE at hcv;split at hcv
       ·simp_all
       obtain⟨A',c',h,_⟩:=hcv;simp_all
      obtain⟨va,vb,rfl⟩:=hform;clear hcv
      go_wp2_with fail
      go_ret2
      exact⟨by rw[HNone.out];rfl,HE5.out⟩
     |some key=>
      have hno:=HC.out;rw[KO hN]at hno;refine hno.mono ?_;rintro e w4 ⟨rfl,he4⟩;have HE4:=aal (HE3.out.trans he4);have HNo:=aal hN;clear he4 hno HC hN
      go_wp2_with fail
      refine(kB BX cx x _ (HRX.out.ext HE4.out) (by omega)).mono ?_;rintro e w5 ⟨hcv,he5⟩;have HE5:=aal (HE4.out.trans he5);clear he5;cases hS:iy x with
      |none=>
       have HNone:Hid (fW rows l=none):=aal (kH HX.out (by unfold nF;simp_all));rw[hS]at hcv;obtain rfl:=hcv;clear hS
       go_wp2_with fail
       go_ret2
       exact⟨by rw[HNone.out];rfl,(HE.out.trans HE2.out).trans HE5.out⟩
      |some y=>
       rw[hS]at hcv;obtain⟨AY,cy,rfl,hcy,hry,hby⟩:=hcv;have HIO:Hid (nF rows x=some (key,y)):=aal (by unfold nF;rw[HF.out,HNo.out,hS];rfl);have HRY:=aal hry;have HBY:=aal hby;have HYL:Hid (y.length=x.length):=aal (by
        unfold iy at hS;split at hS
        ·split at hS
         ·cases hS
         cases hS;split<;>simp
        cases hS)
       clear hS hry hby;have HO5:=aal (D3 HOwn.out HE5.out);have HR5:=aal (cB HRow.out HE5.out);have t0:w5.cell? ⟨wo.heap.size,0,none⟩=some v:=HR5.out.cell (by omega);have t1:w5.frozen? ⟨wo.heap.size,0,none⟩=false:=HR5.out.frozen 0;have hslt:wo.heap.size<w5.heap.size:=HR5.out.lt;have HRd:Hid (Rd (w5.alloc (.cells #[.int .i64 key,.slice AY y.length cy] 177)) (some ⟨w5.heap.size,0,none⟩) (nA ⟨key,y,AY,cy⟩)):=aal (fun _=>⟨w5.heap.size,0,rfl,fun i u hu=>by
        simp_all[nA]⟩)
       go_wp2_with (at_builtin;refine iI _ rfl (.tmp 51) (.tmp 55) _ rfl (wo.heap.size+1) 177 (.agg #[.int .i64 0,.slice none 0 0]) 2 32 underlying171 Tryz.infoKeyed rfl (by omega) v k (ms L) rfl (HO5.out.alloc _) (some ⟨w5.heap.size,0,none⟩) 1 1 _ rfl HRd.out rfl (GR _) (by simp only[maxLen];omega) (by omega) (by simp;omega) ?_;intro v6 w6 hown6 hg6 hb6;have HO6:=aal hown6;have HG6:=aal hg6;have HB6:=aal hb6;have hz6:w5.heap.size+1<=w6.heap.size:=(by have:=hg6.size;simpa using this);have s0:w6.cell? ⟨wo.heap.size,0,none⟩=some v:=(by refine hg6.cell (a:=⟨wo.heap.size,0,none⟩) (by rw[adc _ _ _ hslt];exact t0) (fun e=>?_);have:=(HO5.out.lt _ e.symm).1;simp at this;omega);have s1:w6.frozen? ⟨wo.heap.size,0,none⟩=false:=(by rw[adQ (hg6.block wo.heap.size (by simp;omega) (fun e=>by have:=(HO5.out.lt _ e.symm).1;omega))];rw[adQ (acJ _ _ _ hslt)];exact t1);obtain⟨g6,cap6,f6,rfl,_,_,_,_,_⟩:=xe hown6 (by omega);clear hown6 hg6 hb6 t0 t1)
       go_roundw
       case rel=>
        have hne: ∀j,v.ownBlock=some j->wo.heap.size+1<=j:=fun j hj=>(HO5.out.lt j hj).1
        have hw5:Ext wo (w5.alloc (.cells #[.int .i64 key,.slice AY y.length cy] 177)):=(HE2.out.trans HE5.out).alloc _;have hw6:Ext wo w6:=hw5.grown HG6.out (fun j hj=>by grind);have hr6:w6.rowIs wo.heap.size 173 2 (Y8 v):=(HR5.out.alloc _).of_block (HG6.out.block wo.heap.size (by simp;omega) (fun e=>by have:=hne _ e.symm;omega));refine⟨k+1,L++[⟨key,y,AY,cy⟩],.slice (some ⟨g6,0,none⟩) (k+1) cap6,by omega,by go_num,aal ⟨by simp[HLen.out.1],fun h=>by omega⟩,aal (fun j it hj=>?_),aal ?_,aal ?_,aal (hw6.setCell (aar _) _),aal (fun it hit=>?_)⟩
        ·rcases acQ j L.length with h|h
         ·rw[aaB h]at hj;exact HIt.out j it hj
         rw[aaE h]at hj;have hj0:j-L.length=0:=by
          grind
         rw[hj0]at hj;simp at hj;subst hj;have:j=k:=by have:=HLen.out.1;omega
         subst this;exact⟨x,HX.out,HIO.out⟩
        ·rw[<- Dz];exact ownsRow_setCell_below HO6.out (by simp) _
        ·exact(hr6.set 0 _).congr (fun j hj=>by
          match j,hj with
          |0,_=>rfl
          |1,_=>rfl)
        rcases abf.1 hit with h|h
        ·obtain⟨q1,q2,q3⟩:=HIV.out it h;have r5:RdI .i64 (w5.alloc (.cells #[.int .i64 key,.slice AY y.length cy] 177)) it.at_ it.vals:=q1.ext (HE5.out.alloc _);have hsz:=HE5.out.size;refine⟨fun hn=>?_,q2,fun p hp=>?_⟩
         ·obtain⟨b',off',hb',hc'⟩:=r5 hn;obtain⟨q4,q5,q6⟩:=q3 _ hb';refine⟨b',off',hb',fun i u hu=>?_⟩;rw[ads _ _ _ _ (fun e=>by grind)];exact HG6.out.cell (hc' i u hu) (fun e=>q4 e.symm)
         obtain⟨q4,q5,q6⟩:=q3 p hp;refine⟨fun e=>?_,q5,by grind [World.setCell]⟩;rcases HB6.out with h6|h6
         ·grind
         rw[h6]at e;injection e with e
         simp at e;omega
        simp at h;subst h;have r5:RdI .i64 (w5.alloc (.cells #[.int .i64 key,.slice AY y.length cy] 177)) AY y:=HRY.out.ext ((Ext.refl _).alloc _);have hsz:=HE4.out.size;have hs2:=HE2.out.size;have hrl:=HRow.out.lt;have ho:=HOwn.out;have q3: ∀p,AY=some p->v.ownBlock≠some p.block/\wo.heap.size<p.block/\p.block<w5.heap.size:=fun p hp=>by
         obtain⟨h1,h2⟩:=HBY.out p hp;refine⟨fun e=>?_,by omega,h2⟩;have:=(ho.lt _ e).2;omega
        refine⟨fun hn=>?_,⟨by show y.length<=_;rw[HYL.out];omega,hcy⟩,fun p hp=>?_⟩
        ·obtain⟨b',off',hb',hc'⟩:=r5 hn;obtain⟨q4,q5,q6⟩:=q3 _ hb';refine⟨b',off',hb',fun i u hu=>?_⟩;rw[ads _ _ _ _ (fun e=>by grind)];exact HG6.out.cell (hc' i u hu) (fun e=>q4 e.symm)
        obtain⟨q4,q5,q6⟩:=q3 p hp;refine⟨fun e=>?_,q5,by grind [World.setCell]⟩;rcases HB6.out with h6|h6
        ·grind
        rw[h6]at e;injection e with e
        simp at e;omega
       grind [intOf]
   have hkl:k=l.length:=by omega
   have HIO:Hid (fW rows l=some (L.map NItem.dat)):=aal (tM (by rw[HLen.out.1,hkl]) HIt.out);by_cases hk0:0<k
   ·obtain⟨g,cap,f,rfl,hcap,hcm,hg,hrow,hf⟩:=xe HOwn.out hk0;have HLst:Hid (vm wr g (cap*2) L):=aal ⟨f,hrow,by rw[HLen.out.1];omega,fun j it hj=>by
     simp_all[zm]⟩
    have HIV2:=aal HIV.out;have hcon:=Qh wo.heap.size g cap L wr HLst.out (by rw[HLen.out.1];exact hcap) (by rw[HLen.out.1];omega) (fun it hit=>by
     obtain⟨q1,q2,q3⟩:=HIV.out it hit;exact⟨q1,fun p hp e=>(q3 p hp).1 (by simp[Value.ownBlock,e]),q2.1⟩) (by rw[HLen.out.1];exact HRow.out) (by omega)
    have HC:=aal hcon;have hglt:=hrow.lt;have hslt:=HRow.out.lt;clear hcon hf hrow hkl
    go_wp2_with fail
    refine HC.out.mono ?_;rintro e w5 ⟨L',rfl,hperm,hsort,hlst,hcell,hrow5,hblk,hsz,h1,h2,h3⟩;have HP:=aal hperm;have HSo:=aal hsort;have HL5:=aal hlst;have HE5:Hid (Ext wo w5):=aal ⟨h1.trans HE2.out.os,h2.trans HE2.out.tape,h3.trans HE2.out.output,aap HE2.out.size hsz,fun j hj=>by
     rw[hblk j (aaA hj HE2.out.size) (by omega) (by omega)];exact HE2.out.block j hj⟩
    have HIt5:Hid (∀it∈bu L',VK .i64 w5 it.val it.vals):=aal (fun it hit=>by
     obtain⟨q1,q2,q3⟩:=HIV.out it (hperm.subset (tE hit));refine⟨it.at_,it.cap,rfl,q2.2,q2.1,fun hn=>?_⟩;obtain⟨b',off',hb',hc'⟩:=q1 hn;obtain⟨r1,r2,r3⟩:=q3 _ hb';refine⟨b',off',hb',fun i u hu=>?_⟩;rw[World.cell?_of_block (w:=wr) (hblk b' r3 (fun e=>r1 (by simp[Value.ownBlock,e])) (Nat.ne_of_gt r2))];exact hc' i u hu)
    have HBk:Hid (∀it∈bu L',∀p,it.at_=some p->wo.heap.size<p.block/\p.block<w5.heap.size):=aal (fun it hit p hp=>by
     obtain⟨q1,q2,q3⟩:=HIV.out it (hperm.subset (tE hit));obtain⟨r1,r2,r3⟩:=q3 _ hp;omega)
    have hm:(bu L').length<=65536:=by
     have h1:=Df L';have h2:=hperm.length_eq;rw[HLen.out.1]at h2;omega
    have hmk:=run_make_row' (P:=prog) 26 35 (.slice none 0 0) 24 underlying26 Tryz.infoSlI64 rfl .i64 .i64 (bu L').length (by omega) (by omega);have hcell2: ∀o,(w5.alloc o).cell? ⟨wo.heap.size,0,none⟩=some (.slice (some ⟨g,0,none⟩) (bu L').length cap):=fun o=>by rw[adc _ _ _ (by show wo.heap.size<_;omega)];exact hcell
    have HS0:=aal (ac8 w5 (.slice none 0 0) (bu L').length 35);clear hperm hsort hlst hrow5 hblk h1 h2 h3 HC
    go_wp2_with fail
    clear hmk hcell2 hcell
    go_loopw [67,14,15] (fun i _ _ wx=> ∃m:Nat,m<=(bu L').length/\i= .int .i64 m/\Hid (wx.rowIs w5.heap.size 35 (bu L').length (Pq (bu L') m))/\Hid (Ext w5 wx)) (fun i _ _ _=>(bu L').length-(intOf i).toNat)
    case atStart=>exact⟨0,aaW _,rfl,aal (HS0.out.congr (fun j _=>by simp[Pq])),aal ((Ext.refl _).alloc _)⟩
    case round=>
     clear HS0;obtain⟨wp,rfl⟩: ∃wp:World,wp=wr:=⟨_,rfl⟩;obtain⟨m,hmm,rfl,HO,HX5⟩:=hrel;by_cases hml:m<(bu L').length
     ·obtain⟨it,hit⟩:=getElem?_of_lt hml;have HIT:=aal hit;have t1:=(HL5.out.ext HX5.out).cell0 hit;have t2:=(HL5.out.ext HX5.out).cell1 hit;have hlt5:=HO.out.lt;have t3: ∀o,(wp.alloc o).cell? ⟨w5.heap.size,m,none⟩=some (.slice none 0 0):=fun o=>by
       rw[(HO.out.alloc o).cell hml];simp[Pq]
      have t4: ∀o,(wp.alloc o).frozen? ⟨w5.heap.size,m,none⟩=false:=fun o=>(HO.out.alloc o).frozen m
      clear hit
      go_wp2_with fail
      go_roundw
      case rel=>
       refine⟨m+1,by omega,by go_num,aal (((HO.out.set m _).congr (fun j _=>?_)).alloc _),aal ((HX5.out.setCell (aar _) _).alloc _)⟩;unfold Pq;by_cases e:j=m
       ·subst e;rw[if_pos rfl,if_pos (by omega),HIT.out];rfl
       rw[if_neg e];by_cases e2:j<m
       ·rw[if_pos e2,if_pos (by omega)]
       rw[if_neg e2,if_neg (by omega)]
      case measure=>simp[intOf];omega
     go_wp2_with fail
     go_ret2
     have hmeq:m=(bu L').length:=by omega
     refine⟨?_,(HE.out.trans HE5.out).trans HX5.out⟩;rw[HIO.out];have hsw:=HE.out.size;have hs5:=HE5.out.size;have hs6:=HX5.out.size;have hnew:RM w.heap.size wp (some ⟨w5.heap.size,0,none⟩) ((bu L').map NItem.vals):=by
      refine⟨by simp_all,w5.heap.size,rfl,by omega,HO.out.lt,fun i r hr=>?_⟩;rw[aam]at hr;cases hci:(bu L')[i]? with
      |none=>simp_all
      |some it=>
       rw[hci]at hr;simp at hr;subst hr;have hil:=(aao.1 hci).1;have hmem:=aai hci;obtain⟨A1,c1,e1,e2,e3,e4⟩:=(HIt5.out it hmem).ext HX5.out;refine⟨it.at_,it.cap,?_,?_,e3,?_,fun p hp=>?_⟩
       ·rw[HO.out.cell hil];unfold Pq;rw[if_pos (by omega),hci];rfl
       ·simp_all[NItem.val]
       ·simp_all[NItem.val]
       have:=HBk.out it hmem p hp;omega
     refine⟨L',HP.out.map NItem.dat,HSo.out,some ⟨w5.heap.size,0,none⟩,rfl,fun _=>⟨w5.heap.size,0,rfl,fun i r hr=>?_⟩,hnew⟩;obtain⟨_,b1,e1,_,_,e2⟩:=hnew;injection e1 with e1
     injection e1 with e1
     subst e1;obtain⟨A1,c1,e3,e4,e5,e6,_⟩:=e2 i r hr;exact⟨_,by rw[aa6];exact e3,A1,c1,rfl,e4,e5,e6⟩
   have hv:=HLen.out.2 (by omega);have hL0:L=[]:=abW (by rw[HLen.out.1];omega);subst hv hL0;have HC:=aal (Qi wo.heap.size wr HRow.out);have hslt:=HRow.out.lt;clear hkl
   go_wp2_with fail
   refine HC.out.mono ?_;rintro e w5 ⟨rfl,hcell,hblk,hsz,h1,h2,h3⟩;have HE5:Hid (Ext wo w5):=aal ⟨h1.trans HE2.out.os,h2.trans HE2.out.tape,h3.trans HE2.out.output,aap HE2.out.size hsz,fun j hj=>by
    rw[hblk j (aaA hj HE2.out.size) (by omega)];exact HE2.out.block j hj⟩
   have hmk: ∀w:World,(Instr.makeSlice 26 (.int .i64 0) (.int .i64 0)).run prog w= .ok (.slice (some ⟨w.heap.size,0,none⟩) 0 0) (w.alloc (.cells (madeCells #[.slice none 0 0] 0) 35)):=run_make_row' (P:=prog) 26 35 (.slice none 0 0) 24 underlying26 Tryz.infoSlI64 rfl .i64 .i64 0 (by omega) (by omega);have hcell2: ∀o,(w5.alloc o).cell? ⟨wo.heap.size,0,none⟩=some (.slice none 0 0):=fun o=>by rw[adc _ _ _ (by show wo.heap.size<_;omega)];exact hcell
   clear hblk h1 h2 h3 HC
   go_wp2_with fail
   refine wp_loop_rounds 1 ?_;rw[rounds_succ]
   go_wp2_with fail
   go_ret2
   refine⟨?_,(HE.out.trans HE5.out).alloc _⟩;rw[HIO.out];exact⟨[],.refl _,(by intro i j a b _ h;simp at h),some ⟨w5.heap.size,0,none⟩,rfl,oP.nil _ _ _,by simp[bu],w5.heap.size,rfl,by have:=HE.out.size;omega,by simp,by simp_all[bu]⟩
instance (a b:Int×List Int):Decidable (Bk a b):=inferInstanceAs (Decidable (_\/_))
theorem vX {a:NItem}:jy a o<0↔Bk a.dat o.dat:=by unfold jy Bk;rw[IE];rfl
theorem Du {a:NItem}:wq a o=true↔a.dat=o.dat:=by
 unfold wq jy;rw[beq_iff_eq,KF];constructor
 ·rintro⟨c,e⟩;exact Prod.ext c e
 intro h;exact⟨congrArg Prod.fst h,congrArg Prod.snd h⟩
theorem tB: ∀{l:List NItem} {p:NItem},(∀(i j:Nat) a b,i<j->(p::l)[i]?=some a->(p::l)[j]?=some b-> ¬jy b a<0)->
  Ik ((p::dA p l).map NItem.dat)/\ ∀y,y∈(p::dA p l).map NItem.dat↔y∈(p::l).map NItem.dat
 |[],p,_=>by simp[dA,Ik]
 |b::l,p,h=>by
  have n: ∀(i j:Nat) a c,i<j->(b::l)[i]?=some a->(b::l)[j]?=some c-> ¬jy c a<0:=fun i j a c u x m=>h (i+1) (j+1) a c (by omega) (by grind) (by grind)
  obtain⟨s,t⟩:=tB n;have g: ¬jy b p<0:=h 0 1 p b (by omega) rfl rfl;unfold dA;split
  ·grind [Du]
  rename_i e;rw[Du]at e;refine⟨?_,fun y=>?_⟩
  ·rw[aaI];refine aci.2 ⟨fun y o=>?_,s⟩;rw[t y]at o;obtain⟨c,m,rfl⟩:=aau.1 o;obtain⟨j,z,v⟩:=abo m;have q: ¬jy c p<0:=h 0 (j+1) p c (by omega) rfl (by grind);rw[vX]at q;by_cases f:Bk p.dat c.dat
   ·exact f
   have r:=sP q f;exfalso;have w: ¬jy c b<0:=by
    cases j with
    |zero=>grind
    |succ j=>exact n 0 (j+1) b c (by omega) rfl (by grind)
   rw[vX,r]at w;rw[vX]at g;grind [sP]
  grind
theorem AW {b:List (Int×List Int)} (f:(m.map NItem.dat).Perm b) (c:qf m):(bu m).map NItem.dat=ji b:=by
 have e:Ik ((bu m).map NItem.dat)/\ ∀y,y∈(bu m).map NItem.dat↔y∈m.map NItem.dat:=by
  cases m with
  |nil=>simp[bu,Ik]
  |cons a l=>exact tB c
 grind [Iy,MA,As]
theorem qv {b:List (Int×List Int)} (c:(m.map NItem.dat).Perm b) (e:qf m):(bu m).map NItem.vals=(ji b).map Prod.snd:=by
 rw[<- AW c e,abV];rfl
def SUV (c:World) (r:Option (List (Int×List Int))) (e:Ending):Prop:=match r with
 |none=>e= .returned (.tuple #[.slice none 0 0,.bool false])
 |some b=> ∃A,e= .returned (.tuple #[.slice A ((ji b).map Prod.snd).length ((ji b).map Prod.snd).length,.bool true])/\oP .i64 c A ((ji b).map Prod.snd)
def ZB (c:Nat) (f:World) (r:Option (List (Int×List Int))) (e:Ending):Prop:=match r with
 |none=>e= .returned (.tuple #[.slice none 0 0,.bool false])
 |some b=> ∃A,e= .returned (.tuple #[.slice A ((ji b).map Prod.snd).length ((ji b).map Prod.snd).length,.bool true])/\RM c f A ((ji b).map Prod.snd)
theorem Ft.plain {g:World} {r:Option (List (Int×List Int))} {e:Ending} (h:Ft n g r e):SUV g r e/\ZB n g r e:=by
 cases r with
 |none=>exact⟨h,h⟩
 |some j=>
  obtain⟨L,l,m,A,o,f,b⟩:=h;rw[qv l m]at f b;have c:e= .returned (.tuple #[.slice A ((ji j).map Prod.snd).length ((ji j).map Prod.snd).length,.bool true]):=by
   grind [qv]
  exact⟨⟨A,c,f⟩,A,c,b⟩
theorem xV (A B:Option Addr) (c d:Nat) (b l:List (List Int)) (w:World) (j:oP .i64 w A b) (n:oP .i64 w B l) (p:b.length<=9223372036854775807) (m:b.length<=c) (o:l.length<=65536):
  Calls prog 89 #[.slice A b.length c,.slice B l.length d] w fun e f=>ZB w.heap.size f (if isReducedM b then fW b l else none) e/\Ext w f:=
 (xU A B c d b l w j n p m o).mono fun _ _ ⟨g,h⟩=>⟨g.plain.2,h⟩
section
theorem K9 (h: ¬n=0):n/4294967296<n:=Nat.div_lt_self (by omega) (by omega)
def au (n:Nat):List Nat:=if n=0 then[]else n%4294967296::au (n/4294967296)
termination_by n
decreasing_by omega
def fR {b:Type} (f:b->List PV) (r:List b):List PV:=[.sl (ls f r)]
def fZ (z:Int):List PV:=[.raw (.bool (decide (z<0))),.sl (ls fU (au z.natAbs))]
def cZ (z:Int):List AV:=[.p (.raw (.bool (decide (z<0)))),.p (.sl (ls fU (au z.natAbs)))]
abbrev tZ (z:Int):TV:= .agg [.p (.raw (.bool (decide (z<0)))),.p (.sl (ls fU (au z.natAbs)))]
abbrev cY (l:List Nat):TV:= .one (.p (.sl (ls fU l)))
abbrev da (M:List (List Int)):TV:= .one (.p (.sl (ls (fR fZ) M)))
abbrev cq (M:List (List Int)):TV:= .one (.p (.sl (ls (fR fI) M)))
abbrev mY (l:List Int):TV:= .one (.p (.sl (ls fI l)))
abbrev yg (l:List Int):TV:= .one (.p (.sl (ls fZ l)))
abbrev B5 (l:List Nat):TV:= .one (.p (.sl (ls fN l)))
def fIt (a:Int×List Int):List PV:=[.raw (.int .i64 a.1),.sl (ls fI a.2)]
abbrev slT (l:List (Int×List Int)):TV:= .one (.p (.sl (ls fIt l)))
abbrev tIt (k:Int) (x:List Int):TV:= .agg [.p (.raw (.int .i64 k)),.p (.sl (ls fI x))]
abbrev tR (n d:Int):TV:= .agg [.p (.raw (.bool (decide (n<0)))),.p (.sl (ls fU (au n.natAbs))),.p (.raw (.bool (decide (d<0)))),.p (.sl (ls fU (au d.natAbs)))]
abbrev csT (x:List Int) (b:Bool):TV:= .tup [(false,[.p (.sl (ls fI x))]),(false,[.p (.raw (.bool b))])]
abbrev jk:TV:= .one .junk
def j4 (l:List TV):List TV:=jk::jk::jk::jk::l
def j16 (l:List TV):List TV:=j4 (j4 (j4 (j4 l)))
def rN (n:Nat):TV:= .raw (.int .i64 (n:Int))
theorem HmA:Hm []=fun _=>[]:=rfl
theorem HmB (k:Nat) (F:List OObj) (l:List (Nat×List OObj)):Hm ((k,F)::l)=fun a=>if a=k then F else Hm l a:=rfl
def wk:=aaj @XQ.eq_1<|aaj @XQ.eq_2<|aaj @XQ.eq_3<|aaj @Tl.eq_def<|aaj @D0.eq_def<|aaj @j4.eq_1<|aaj @j16.eq_1<|aaj @rN.eq_1<|True.intro
def kd:=aaj @AS.ev.eq_def<|aaj @AS.put.eq_def<|aaj @Bool.and_false<|aaj @Bool.and_self<|aaj @Bool.and_true<|aaj @aaZ<|aaj @Bool.not_false<|aaj @Bool.not_true<|aaj @ad9<|aaj @Bool.or_true<|aaj @aea<|aaj @ao.a.eq_1<|aaj @CallRes.plain.eq_1<|aaj @HmA<|aaj @HmB<|aaj @Int.natCast_nonneg<|aaj @Int.toNat_natCast<|aaj @List.all_cons.{0}<|aaj @List.all_nil.{0}<|aaj @List.append_nil.{0}<|aaj @List.cons_append.{0}<|aaj @List.contains_cons.{0}<|aaj @List.contains_nil.{0}<|aaj @List.drop_succ_cons.{0}<|aaj @List.drop_zero.{0}<|aaj @List.find?_cons.{0}<|aaj @List.find?_nil.{0}<|aaj @List.getElem?_cons_succ.{0}<|aaj @List.getElem?_cons_zero.{0}<|aaj @List.getElem?_toArray.{0}<|aaj @List.isEmpty_cons.{0}<|aaj @List.isEmpty_nil.{0}<|aaj @List.isEmpty_toArray.{0}<|aaj @List.length_cons.{0}<|aaj @List.length_map.{0,0}<|aaj @List.length_nil.{0}<|aaj @List.map_cons.{0,0}<|aaj @List.map_nil.{0,0}<|aaj @List.nil_append.{0}<|aaj @List.set_cons_succ.{0}<|aaj @List.set_cons_zero.{0}<|aaj @List.take_succ_cons.{0}<|aaj @List.take_zero.{0}<|aaj @aa5<|aaj @aar<|aaj @aa6<|aaj @Option.bind_some.{0,0}<|aaj @Option.map_none.{0,0}<|aaj @Option.map_some.{0,0}<|aaj @underlying116<|aaj @underlying165<|aaj @underlying2<|aaj @underlying5<|aaj @Value.oneCell'.eq_def<|aaj @R9<|aaj @V0<|aaj @and_false<|aaj @and_self<|aaj @and_true<|aaj @YA.eq_def<|aaj @beq_self_eq_true.{0}<|aaj @d7.eq_def<|aaj @FU.eq_def<|aaj @cellsOf.eq_def<|aaj @ZM<|aaj @ZN<|aaj @decide_false<|aaj @decide_true<|aaj @cn.eq_def<|aaj @fP.eq_def<|aaj @jE.eq_def<|aaj @bT.eq_def<|aaj @fA.eq_1<|aaj @fA.eq_2<|aaj @zj.eq_def<|aaj @KW.eq_def<|aaj @fI.eq_1<|aaj @fN.eq_1<|aaj @fU.eq_1<|aaj @false_and<|aaj @j6.eq_1<|aaj @j6.eq_2<|aaj @dF.eq_def<|aaj @ew.eq_def<|aaj @ifF<|aaj @ifT<|aaj @if_false.{1}<|aaj @if_true.{1}<|aaj @Gv.eq_def<|aaj @isPure.eq_def<|aaj @aO.eq_def<|aaj @lL.eq_1<|aaj @aP.eq_def<|aaj @S2<|aaj @GD<|aaj @eG<|aaj @wL<|aaj @uH<|aaj @my<|aaj @Bf<|aaj @oA<|aaj @iC<|aaj @eY<|aaj @pE.eq_1<|aaj @pE.eq_2<|aaj @S6<|aaj @dO<|aaj @co<|aaj @WR<|aaj @WS<|aaj @S7<|aaj @Rz.eq_def<|aaj @Ll<|aaj @yw.eq_def<|aaj @gH.eq_def<|aaj @zI.eq_def<|aaj @wS.eq_def<|aaj @fm.eq_def<|aaj @noRefTV.eq_def<|aaj @j9.eq_def<|aaj @g9.eq_def<|aaj @kM.eq_def<|aaj @Tk.eq_def<|aaj @Lw<|aaj @GS<|aaj @GU<|aaj @Tm<|aaj @Tn<|aaj @Lx<|aaj @w9<|aaj @Pk<|aaj @Ly<|aaj @Pl<|aaj @D1<|aaj @Lz<|aaj @yx<|aaj @yy<|aaj @To<|aaj @Pm<|aaj @By<|aaj @yz<|aaj @Tp<|aaj @Pn<|aaj @Bz<|aaj @Po<|aaj @LA<|aaj @LB<|aaj @WZ<|aaj @kO.eq_def<|aaj @D7.eq_1<|aaj @aJ.eq_1<|aaj @aJ.eq_2<|aaj @putCells.eq_1<|aaj @ri.eq_def<|aaj @oW.eq_def<|aaj @cb.eq_def<|aaj @renO.eq_1<|aaj @renTV.eq_def<|aaj @pS.eq_def<|aaj @xw.eq_1<|aaj @xw.eq_2<|aaj @s7.eq_def<|aaj @Ab<|aaj @P3<|aaj @L5<|aaj @true_and<|aaj @Cf.eq_def<|aaj @L9<|aaj @Ma<|aaj @Mb<|aaj @Mc<|aaj @Md<|aaj @Me<|aaj @Mf<|aaj @Mg<|aaj @JX<|aaj @QF<|aaj @Mh<|aaj @QG<|aaj @QH<|aaj @EM<|aaj @QI<|aaj @JY<|aaj @QJ<|aaj @uZ<|aaj @EN<|aaj @Ul<|aaj @rR<|aaj @n7<|aaj @QK<|aaj @QL<|aaj @QM<|aaj @QN<|aaj @EO<|aaj @QO<|aaj @rT<|aaj @QP<|aaj @QQ<|aaj @XJ<|aaj @QR<|aaj @Um<|aaj @Un<|aaj @JZ<|aaj @Uo<|aaj @J0<|aaj @ud<|aaj @ue<|aaj @EP<|aaj @EQ<|aaj @ER<|aaj @ES<|aaj @ET<|aaj @EU<|aaj @EV<|aaj @EW<|aaj @EX<|aaj @EY<|aaj @EZ<|aaj @E3<|aaj @E4<|aaj @E5<|aaj @Ho<|aaj @Hp<|aaj @Hq<|aaj @mM<|aaj @mN<|aaj @Hr<|aaj @Hs<|aaj @Ht<|aaj @Hu<|aaj @Hv<|aaj @Mi<|aaj @Mj<|aaj @Up<|aaj @Uq<|aaj @Ur<|aaj @Mk<|aaj @Ml<|aaj @Mm<|aaj @Mn<|aaj @Mo<|aaj @Mp<|aaj @Mq<|aaj @rU<|aaj @QS<|aaj @QT<|aaj @Hw<|aaj @x8<|aaj @x9<|aaj @ya<|aaj @Hx<|aaj @mO<|aaj @Hy<|aaj @Hz<|aaj @HJ<|aaj @yb<|aaj @QU<|aaj @QV<|aaj @QW<|aaj @QX<|aaj @QY<|aaj @QZ<|aaj @Q2<|aaj @Q3<|aaj @Q4<|aaj @Us<|aaj @Q5<|aaj @Ut<|aaj @Uu<|aaj @J1<|aaj @Uv<|aaj @Q6<|aaj @Uw<|aaj @Cg<|aaj @J2<|aaj @XK<|aaj @vd<|aaj @rV<|aaj @Ux<|aaj @Uy<|aaj @Uz<|aaj @UA<|aaj @J3<|aaj @UB<|aaj @HU<|aaj @HW<|aaj @H4<|aaj @H5<|aaj @H6<|aaj @H7<|aaj @H8<|aaj @H9<|aaj @Ia<|aaj @Ib<|aaj @Q7<|aaj @Ic<|aaj @Id<|aaj @Mr<|aaj @Ms<|aaj @Mt<|aaj @E6<|aaj @Mu<|aaj @Q8<|aaj @Mv<|aaj @lZ<|aaj @Mw<|aaj @Mx<|aaj @My<|aaj @Ar<|aaj @Mz<|aaj @uq.eq_def<|aaj @ax.eq_1<|aaj @Zt.eq_def<|aaj @j4.eq_1<|aaj @j16.eq_1<|aaj @rN.eq_1<|True.intro
def kx:=aaj @fR.eq_1<|aaj @fZ.eq_1<|aaj @cZ.eq_1<|aaj @tZ.eq_1<|aaj @cY.eq_1<|aaj @da.eq_1<|aaj @cq.eq_1<|aaj @mY.eq_1<|aaj @yg.eq_1<|aaj @B5.eq_1<|aaj @fIt.eq_1<|aaj @slT.eq_1<|aaj @tIt.eq_1<|aaj @tR.eq_1<|aaj @csT.eq_1<|True.intro
section
variable {P:Program} {s s':AS} {y:Code} {id pk:Nat} {ops:Array Oper} {α:Prop}
theorem bC (h: ∀K:AS->Prop,K s'->aS P [] [] (aJ ops ops.toList 0) (some s) K:=by intro K k;simp only[kd,Nat.reduceAdd,Nat.reduceEqDiff,Nat.reduceBEq,Nat.reduceLeDiff,Int.reduceToNat,Nat.reduceMul,reduceCtorEq,Int.reduceLE,kx];exact k) (k:bf P y b s'):bf P (.seq (.region id ops false) y) b s:=an fun K f=>h K (f s' k)
theorem ar (h: ∀K:AS->Prop,K s'->aS P [] [] (aJ ops ops.toList 0) (some s) K:=by intro K k;simp(disch:=omega) only[kd,Nat.reduceAdd,Nat.reduceEqDiff,Nat.reduceBEq,Nat.reduceLeDiff,Int.reduceToNat,Nat.reduceMul,reduceCtorEq,Int.reduceLE,kx,aK,ce];exact k) (k:bf P y b s'):bf P (.seq (.region id ops false) y) b s:=an fun K f=>h K (f s' k)
theorem aL (x:α) (h:α-> ∀K:AS->Prop,K s'->aS P [] [] (aJ ops ops.toList 0) (some s) K:=by intro x K k;simp(disch:=omega) only[kd,Nat.reduceAdd,Nat.reduceEqDiff,Nat.reduceBEq,Nat.reduceLeDiff,Int.reduceToNat,Nat.reduceMul,reduceCtorEq,Int.reduceLE,kx,aK,ce,x];exact k) (k:bf P y b s'):bf P (.seq (.region id ops false) y) b s:=an fun K f=>h x K (f s' k)
theorem aC (h: ∀K:AS->Prop,K s'->aS P [] [] (aJ ops ops.toList 0) (some s) K:=by intro K k;simp(disch:=omega) only[kd,Nat.reduceAdd,Nat.reduceEqDiff,Nat.reduceBEq,Nat.reduceLeDiff,Int.reduceToNat,Nat.reduceMul,reduceCtorEq,Int.reduceLE,kx,aK,ce,List.replicate];exact k) (k:bf P y b s'):bf P (.seq (.region id ops false) y) b s:=an fun K f=>h K (f s' k)
theorem pf (x:α) (h:α-> ∀K:AS->Prop,K s'->aS P [] [] (aJ ops ops.toList 0) (some s) K:=by intro x K k;simp(disch:=omega) only[kd,Nat.reduceAdd,Nat.reduceEqDiff,Nat.reduceBEq,Nat.reduceLeDiff,Int.reduceToNat,Nat.reduceMul,reduceCtorEq,Int.reduceLE,kx,aK,ce,List.replicate,x];exact k) (k:bf P y b s'):bf P (.seq (.region id ops false) y) b s:=an fun K f=>h x K (f s' k)
theorem f9 (x:α) (h:α-> ∀K:AS->Prop,K s'->aS P [] [] (aJ ops ops.toList 0) (some s) K:=by intro x K k;simp only[kd,Nat.reduceAdd,Nat.reduceEqDiff,Nat.reduceBEq,Nat.reduceLeDiff,Int.reduceToNat,Nat.reduceMul,reduceCtorEq,Int.reduceLE,kx,x];exact k) (k:bf P y b s'):bf P (.seq (.region id ops false) y) b s:=an fun K f=>h x K (f s' k)
theorem Z4 (h: ∀K:AS->Prop,K s'->aS prog [] [] (aJ ops ops.toList 0) (some s) K:=by intro K k;simp(disch:=omega) only[kd,Nat.reduceAdd,Nat.reduceEqDiff,Nat.reduceBEq,Nat.reduceLeDiff,Int.reduceToNat,Nat.reduceMul,reduceCtorEq,Int.reduceLE,kx,aK,ce];exact k) (c:bY [] ops=true:=by kernel_rfl) (k:bf prog y b s'):bf prog (.seq (.region id ops true) y) b s:=ip b8 c fun K f=>h K (f s' k)
theorem iu (x:α) (h:α-> ∀K:AS->Prop,K s'->aS prog [] [] (aJ ops ops.toList 0) (some s) K:=by intro x K k;simp(disch:=omega) only[kd,Nat.reduceAdd,Nat.reduceEqDiff,Nat.reduceBEq,Nat.reduceLeDiff,Int.reduceToNat,Nat.reduceMul,reduceCtorEq,Int.reduceLE,kx,aK,ce,x];exact k) (c:bY [] ops=true:=by kernel_rfl) (k:bf prog y b s'):bf prog (.seq (.region id ops true) y) b s:=ip b8 c fun K f=>h x K (f s' k)
theorem bK (c:List (ao P)) (h: ∀K:AS->Prop,K s'->aS P (c.map ao.a) [] (aJ ops ops.toList 0) (some s) K:=by intro K k;simp only[kd,Nat.reduceAdd,Nat.reduceEqDiff,Nat.reduceBEq,Nat.reduceLeDiff,Int.reduceToNat,Nat.reduceMul,reduceCtorEq,Int.reduceLE,kx];exact k) (k:bf P y b s'):bf P (.seq (.region id ops false) y) b s:=aQ c [] fun K f=>h K (f s' k)
theorem bL (c:List (ao P)) (h: ∀K:AS->Prop,K s'->aS P (c.map ao.a) [] (aJ ops ops.toList 0) (some s) K:=by intro K k;simp(disch:=omega) only[kd,Nat.reduceAdd,Nat.reduceEqDiff,Nat.reduceBEq,Nat.reduceLeDiff,Int.reduceToNat,Nat.reduceMul,reduceCtorEq,Int.reduceLE,kx,aK,ce];exact k) (k:bf P y b s'):bf P (.seq (.region id ops false) y) b s:=aQ c [] fun K f=>h K (f s' k)
theorem cO (c:List (ao P)) (x:α) (h:α-> ∀K:AS->Prop,K s'->aS P (c.map ao.a) [] (aJ ops ops.toList 0) (some s) K:=by intro x K k;simp(disch:=omega) only[kd,Nat.reduceAdd,Nat.reduceEqDiff,Nat.reduceBEq,Nat.reduceLeDiff,Int.reduceToNat,Nat.reduceMul,reduceCtorEq,Int.reduceLE,kx,aK,ce,x];exact k) (k:bf P y b s'):bf P (.seq (.region id ops false) y) b s:=aQ c [] fun K f=>h x K (f s' k)
theorem im (c:List (ao P)) (x:α) (h:α-> ∀K:AS->Prop,K s'->aS P (c.map ao.a) [] (aJ ops ops.toList 0) (some s) K:=by intro x K k;simp only[kd,Nat.reduceAdd,Nat.reduceEqDiff,Nat.reduceBEq,Nat.reduceLeDiff,Int.reduceToNat,Nat.reduceMul,reduceCtorEq,Int.reduceLE,kx,x];exact k) (k:bf P y b s'):bf P (.seq (.region id ops false) y) b s:=aQ c [] fun K f=>h x K (f s' k)
theorem di (c:List (ao prog)) (h: ∀K:AS->Prop,K s'->aS prog (c.map ao.a) [] (aJ ops ops.toList 0) (some s) K:=by intro K k;simp(disch:=omega) only[kd,Nat.reduceAdd,Nat.reduceEqDiff,Nat.reduceBEq,Nat.reduceLeDiff,Int.reduceToNat,Nat.reduceMul,reduceCtorEq,Int.reduceLE,kx,aK,ce];exact k) (e:bY [] ops=true:=by kernel_rfl) (k:bf prog y b s'):bf prog (.seq (.region id ops true) y) b s:=oh b8 c [] e fun K f=>h K (f s' k)
theorem mb (c:List (ao prog)) (x:α) (h:α-> ∀K:AS->Prop,K s'->aS prog (c.map ao.a) [] (aJ ops ops.toList 0) (some s) K:=by intro x K k;simp(disch:=omega) only[kd,Nat.reduceAdd,Nat.reduceEqDiff,Nat.reduceBEq,Nat.reduceLeDiff,Int.reduceToNat,Nat.reduceMul,reduceCtorEq,Int.reduceLE,kx,aK,ce,x];exact k) (e:bY [] ops=true:=by kernel_rfl) (k:bf prog y b s'):bf prog (.seq (.region id ops true) y) b s:=oh b8 c [] e fun K f=>h x K (f s' k)
theorem ZG (h: ∀K:AS->Prop,K s'->aS P [] [] (aJ ops ops.toList 0) (some s) K:=by intro K k;simp only[kd,Nat.reduceAdd,Nat.reduceEqDiff,Nat.reduceBEq,Nat.reduceLeDiff,Int.reduceToNat,Nat.reduceMul,reduceCtorEq,Int.reduceLE,kx];exact k) (k:b .normal s'):bf P (.region id ops false) b s:=cz fun K f=>h K (f s' k)
theorem bS (h: ∀K:AS->Prop,K s'->aS P [] [] (aJ ops ops.toList 0) (some s) K:=by intro K k;simp(disch:=omega) only[kd,Nat.reduceAdd,Nat.reduceEqDiff,Nat.reduceBEq,Nat.reduceLeDiff,Int.reduceToNat,Nat.reduceMul,reduceCtorEq,Int.reduceLE,kx,aK,ce];exact k) (k:b .normal s'):bf P (.region id ops false) b s:=cz fun K f=>h K (f s' k)
theorem eK (x:α) (h:α-> ∀K:AS->Prop,K s'->aS P [] [] (aJ ops ops.toList 0) (some s) K:=by intro x K k;simp(disch:=omega) only[kd,Nat.reduceAdd,Nat.reduceEqDiff,Nat.reduceBEq,Nat.reduceLeDiff,Int.reduceToNat,Nat.reduceMul,reduceCtorEq,Int.reduceLE,kx,aK,ce,x];exact k) (k:b .normal s'):bf P (.region id ops false) b s:=cz fun K f=>h x K (f s' k)
theorem US (h: ∀K:AS->Prop,K s'->aS P [] [] (aJ ops ops.toList 0) (some s) K:=by intro K k;simp(disch:=omega) only[kd,Nat.reduceAdd,Nat.reduceEqDiff,Nat.reduceBEq,Nat.reduceLeDiff,Int.reduceToNat,Nat.reduceMul,reduceCtorEq,Int.reduceLE,kx,aK,ce,List.replicate];exact k) (k:b .normal s'):bf P (.region id ops false) b s:=cz fun K f=>h K (f s' k)
theorem jm (x:α) (h:α-> ∀K:AS->Prop,K s'->aS P [] [] (aJ ops ops.toList 0) (some s) K:=by intro x K k;simp only[kd,Nat.reduceAdd,Nat.reduceEqDiff,Nat.reduceBEq,Nat.reduceLeDiff,Int.reduceToNat,Nat.reduceMul,reduceCtorEq,Int.reduceLE,kx,x];exact k) (k:b .normal s'):bf P (.region id ops false) b s:=cz fun K f=>h x K (f s' k)
theorem nn (x:α) (h:α-> ∀K:AS->Prop,K s'->aS prog [] [] (aJ ops ops.toList 0) (some s) K:=by intro x K k;simp(disch:=omega) only[kd,Nat.reduceAdd,Nat.reduceEqDiff,Nat.reduceBEq,Nat.reduceLeDiff,Int.reduceToNat,Nat.reduceMul,reduceCtorEq,Int.reduceLE,kx,aK,ce,x];exact k) (c:bY [] ops=true:=by kernel_rfl) (k:b .normal s'):bf prog (.region id ops true) b s:=Fw b8 c fun K f=>h x K (f s' k)
theorem Yw (c:List (ao P)) (h: ∀K:AS->Prop,K s'->aS P (c.map ao.a) [] (aJ ops ops.toList 0) (some s) K:=by intro K k;simp only[kd,Nat.reduceAdd,Nat.reduceEqDiff,Nat.reduceBEq,Nat.reduceLeDiff,Int.reduceToNat,Nat.reduceMul,reduceCtorEq,Int.reduceLE,kx];exact k) (k:b .normal s'):bf P (.region id ops false) b s:=m9 c [] fun K f=>h K (f s' k)
theorem Yx (c:List (ao P)) (h: ∀K:AS->Prop,K s'->aS P (c.map ao.a) [] (aJ ops ops.toList 0) (some s) K:=by intro K k;simp(disch:=omega) only[kd,Nat.reduceAdd,Nat.reduceEqDiff,Nat.reduceBEq,Nat.reduceLeDiff,Int.reduceToNat,Nat.reduceMul,reduceCtorEq,Int.reduceLE,kx,aK,ce];exact k) (k:b .normal s'):bf P (.region id ops false) b s:=m9 c [] fun K f=>h K (f s' k)
theorem Nj (c:List (ao P)) (x:α) (h:α-> ∀K:AS->Prop,K s'->aS P (c.map ao.a) [] (aJ ops ops.toList 0) (some s) K:=by intro x K k;simp(disch:=omega) only[kd,Nat.reduceAdd,Nat.reduceEqDiff,Nat.reduceBEq,Nat.reduceLeDiff,Int.reduceToNat,Nat.reduceMul,reduceCtorEq,Int.reduceLE,kx,aK,ce,x];exact k) (k:b .normal s'):bf P (.region id ops false) b s:=m9 c [] fun K f=>h x K (f s' k)
theorem VU (c:List (ao prog)) (h: ∀K:AS->Prop,K s'->aS prog (c.map ao.a) [] (aJ ops ops.toList 0) (some s) K:=by intro K k;simp(disch:=omega) only[kd,Nat.reduceAdd,Nat.reduceEqDiff,Nat.reduceBEq,Nat.reduceLeDiff,Int.reduceToNat,Nat.reduceMul,reduceCtorEq,Int.reduceLE,kx,aK,ce];exact k) (e:bY [] ops=true:=by kernel_rfl) (k:b .normal s'):bf prog (.region id ops true) b s:=lw b8 c [] e fun K f=>h K (f s' k)
theorem gX (c:List (ao prog)) (x:α) (h:α-> ∀K:AS->Prop,K s'->aS prog (c.map ao.a) [] (aJ ops ops.toList 0) (some s) K:=by intro x K k;simp(disch:=omega) only[kd,Nat.reduceAdd,Nat.reduceEqDiff,Nat.reduceBEq,Nat.reduceLeDiff,Int.reduceToNat,Nat.reduceMul,reduceCtorEq,Int.reduceLE,kx,aK,ce,x];exact k) (e:bY [] ops=true:=by kernel_rfl) (k:b .normal s'):bf prog (.region id ops true) b s:=lw b8 c [] e fun K f=>h x K (f s' k)
theorem aah (e: ∀K:AS->Prop,K s'->aS P [] [] (aJ ops ops.toList 0) (some s) K:=by intro K k;simp(disch:=omega) only[kd,Nat.reduceAdd,Nat.reduceEqDiff,Nat.reduceBEq,Nat.reduceLeDiff,Int.reduceToNat,Nat.reduceMul,reduceCtorEq,Int.reduceLE,kx,aK,ce];exact k) (k:tz P n h y c s' g):tz P n h (.seq (.region id ops false) y) c s g:=yH fun K f=>e K (f s' k)
theorem Z5 (e: ∀K:AS->Prop,K s'->aS P [] [] (aJ ops ops.toList 0) (some s) K:=by intro K k;simp(disch:=omega) only[kd,Nat.reduceAdd,Nat.reduceEqDiff,Nat.reduceBEq,Nat.reduceLeDiff,Int.reduceToNat,Nat.reduceMul,reduceCtorEq,Int.reduceLE,kx,aK,ce,List.replicate];exact k) (k:tz P n h y c s' g):tz P n h (.seq (.region id ops false) y) c s g:=yH fun K f=>e K (f s' k)
theorem cQ (e: ∀K:AS->Prop,K s'->aS P [] [] (aJ ops ops.toList 0) (some s) K:=by intro K k;simp(disch:=omega) only[kd,Nat.reduceAdd,Nat.reduceEqDiff,Nat.reduceBEq,Nat.reduceLeDiff,Int.reduceToNat,Nat.reduceMul,reduceCtorEq,Int.reduceLE,kx,aK,ce];exact k) (k:dV P n h y c s' g):dV P n h (.seq (.region id ops false) y) c s g:=oo fun K f=>e K (f s' k)
theorem iQ (x:α) (e:α-> ∀K:AS->Prop,K s'->aS P [] [] (aJ ops ops.toList 0) (some s) K:=by intro x K k;simp(disch:=omega) only[kd,Nat.reduceAdd,Nat.reduceEqDiff,Nat.reduceBEq,Nat.reduceLeDiff,Int.reduceToNat,Nat.reduceMul,reduceCtorEq,Int.reduceLE,kx,aK,ce,x];exact k) (k:dV P n h y c s' g):dV P n h (.seq (.region id ops false) y) c s g:=oo fun K f=>e x K (f s' k)
theorem UT (e: ∀K:AS->Prop,K s'->aS P [] [] (aJ ops ops.toList 0) (some s) K:=by intro K k;simp(disch:=omega) only[kd,Nat.reduceAdd,Nat.reduceEqDiff,Nat.reduceBEq,Nat.reduceLeDiff,Int.reduceToNat,Nat.reduceMul,reduceCtorEq,Int.reduceLE,kx,aK,ce,List.replicate];exact k) (k:dV P n h y c s' g):dV P n h (.seq (.region id ops false) y) c s g:=oo fun K f=>e K (f s' k)
theorem FH (x:α) (e:α-> ∀K:AS->Prop,K s'->aS P [] [] (aJ ops ops.toList 0) (some s) K:=by intro x K k;simp(disch:=omega) only[kd,Nat.reduceAdd,Nat.reduceEqDiff,Nat.reduceBEq,Nat.reduceLeDiff,Int.reduceToNat,Nat.reduceMul,reduceCtorEq,Int.reduceLE,kx,aK,ce,List.replicate,x];exact k) (k:dV P n h y c s' g):dV P n h (.seq (.region id ops false) y) c s g:=oo fun K f=>e x K (f s' k)
theorem UU (j:List (ao P)) (e: ∀K:AS->Prop,K s'->aS P (j.map ao.a) [] (aJ ops ops.toList 0) (some s) K:=by intro K k;simp(disch:=omega) only[kd,Nat.reduceAdd,Nat.reduceEqDiff,Nat.reduceBEq,Nat.reduceLeDiff,Int.reduceToNat,Nat.reduceMul,reduceCtorEq,Int.reduceLE,kx,aK,ce];exact k) (k:dV P n h y c s' g):dV P n h (.seq (.region id ops false) y) c s g:=vF j [] fun K f=>e K (f s' k)
theorem Nn (j:List (ao P)) (x:α) (e:α-> ∀K:AS->Prop,K s'->aS P (j.map ao.a) [] (aJ ops ops.toList 0) (some s) K:=by intro x K k;simp(disch:=omega) only[kd,Nat.reduceAdd,Nat.reduceEqDiff,Nat.reduceBEq,Nat.reduceLeDiff,Int.reduceToNat,Nat.reduceMul,reduceCtorEq,Int.reduceLE,kx,aK,ce,x];exact k) (k:dV P n h y c s' g):dV P n h (.seq (.region id ops false) y) c s g:=vF j [] fun K f=>e x K (f s' k)
theorem ss (e: ∀K:AS->Prop,K s'->aS P [] [] (aJ ops ops.toList 0) (some s) K:=by intro K k;simp(disch:=omega) only[kd,Nat.reduceAdd,Nat.reduceEqDiff,Nat.reduceBEq,Nat.reduceLeDiff,Int.reduceToNat,Nat.reduceMul,reduceCtorEq,Int.reduceLE,kx,aK,ce];exact k) (k:c .normal s' g):dV P n h (.region id ops false) c s g:=Kp fun K f=>e K (f s' k)
theorem VX (x:α) (e:α-> ∀K:AS->Prop,K s'->aS prog [] [] (aJ ops ops.toList 0) (some s) K:=by intro x K k;simp(disch:=omega) only[kd,Nat.reduceAdd,Nat.reduceEqDiff,Nat.reduceBEq,Nat.reduceLeDiff,Int.reduceToNat,Nat.reduceMul,reduceCtorEq,Int.reduceLE,kx,aK,ce,x];exact k) (j:bY [] ops=true:=by kernel_rfl) (k:c .normal s' g):dV prog n h (.region id ops true) c s g:=FD b8 j fun K f=>e x K (f s' k)
theorem j1 (h: ∀K:AS->Prop,K s'->aS P [] [] (aJ ops ops.toList 0) (some s) K:=by intro K k;simp(disch:=omega) only[kd,Nat.reduceAdd,Nat.reduceEqDiff,Nat.reduceBEq,Nat.reduceLeDiff,Int.reduceToNat,Nat.reduceMul,reduceCtorEq,Int.reduceLE,kx,aK,ce];exact k) (c:gk pk ops=true:=by kernel_rfl) (k:fH P pk y b s'):fH P pk (.seq (.region id ops false) y) b s:=r8 c fun K f=>h K (f s' k)
theorem dN (x:α) (h:α-> ∀K:AS->Prop,K s'->aS P [] [] (aJ ops ops.toList 0) (some s) K:=by intro x K k;simp(disch:=omega) only[kd,Nat.reduceAdd,Nat.reduceEqDiff,Nat.reduceBEq,Nat.reduceLeDiff,Int.reduceToNat,Nat.reduceMul,reduceCtorEq,Int.reduceLE,kx,aK,ce,x];exact k) (c:gk pk ops=true:=by kernel_rfl) (k:fH P pk y b s'):fH P pk (.seq (.region id ops false) y) b s:=r8 c fun K f=>h x K (f s' k)
theorem Nl (h: ∀K:AS->Prop,K s'->aS P [] [] (aJ ops ops.toList 0) (some s) K:=by intro K k;simp(disch:=omega) only[kd,Nat.reduceAdd,Nat.reduceEqDiff,Nat.reduceBEq,Nat.reduceLeDiff,Int.reduceToNat,Nat.reduceMul,reduceCtorEq,Int.reduceLE,kx,aK,ce,List.replicate];exact k) (c:gk pk ops=true:=by kernel_rfl) (k:fH P pk y b s'):fH P pk (.seq (.region id ops false) y) b s:=r8 c fun K f=>h K (f s' k)
theorem sk (x:α) (h:α-> ∀K:AS->Prop,K s'->aS prog [] [] (aJ ops ops.toList 0) (some s) K:=by intro x K k;simp(disch:=omega) only[kd,Nat.reduceAdd,Nat.reduceEqDiff,Nat.reduceBEq,Nat.reduceLeDiff,Int.reduceToNat,Nat.reduceMul,reduceCtorEq,Int.reduceLE,kx,aK,ce,x];exact k) (c:bY [] ops=true:=by kernel_rfl) (e:gk pk ops=true:=by kernel_rfl) (k:fH prog pk y b s'):fH prog pk (.seq (.region id ops true) y) b s:=Fy b8 c e fun K f=>h x K (f s' k)
theorem Z6 (c:List (ao P)) (h: ∀K:AS->Prop,K s'->aS P (c.map ao.a) [] (aJ ops ops.toList 0) (some s) K:=by intro K k;simp(disch:=omega) only[kd,Nat.reduceAdd,Nat.reduceEqDiff,Nat.reduceBEq,Nat.reduceLeDiff,Int.reduceToNat,Nat.reduceMul,reduceCtorEq,Int.reduceLE,kx,aK,ce];exact k) (e:gk pk ops=true:=by kernel_rfl) (k:fH P pk y b s'):fH P pk (.seq (.region id ops false) y) b s:=vC c [] e fun K f=>h K (f s' k)
theorem VV (c:List (ao P)) (x:α) (h:α-> ∀K:AS->Prop,K s'->aS P (c.map ao.a) [] (aJ ops ops.toList 0) (some s) K:=by intro x K k;simp(disch:=omega) only[kd,Nat.reduceAdd,Nat.reduceEqDiff,Nat.reduceBEq,Nat.reduceLeDiff,Int.reduceToNat,Nat.reduceMul,reduceCtorEq,Int.reduceLE,kx,aK,ce,x];exact k) (e:gk pk ops=true:=by kernel_rfl) (k:fH P pk y b s'):fH P pk (.seq (.region id ops false) y) b s:=vC c [] e fun K f=>h x K (f s' k)
theorem R5 (c:List (ao prog)) (x:α) (h:α-> ∀K:AS->Prop,K s'->aS prog (c.map ao.a) [] (aJ ops ops.toList 0) (some s) K:=by intro x K k;simp(disch:=omega) only[kd,Nat.reduceAdd,Nat.reduceEqDiff,Nat.reduceBEq,Nat.reduceLeDiff,Int.reduceToNat,Nat.reduceMul,reduceCtorEq,Int.reduceLE,kx,aK,ce,x];exact k) (e:bY [] ops=true:=by kernel_rfl) (g:gk pk ops=true:=by kernel_rfl) (k:fH prog pk y b s'):fH prog pk (.seq (.region id ops true) y) b s:=yJ b8 c [] e g fun K f=>h x K (f s' k)
theorem Nk (h: ∀K:AS->Prop,K s'->aS P [] [] (aJ ops ops.toList 0) (some s) K:=by intro K k;simp(disch:=omega) only[kd,Nat.reduceAdd,Nat.reduceEqDiff,Nat.reduceBEq,Nat.reduceLeDiff,Int.reduceToNat,Nat.reduceMul,reduceCtorEq,Int.reduceLE,kx,aK,ce];exact k) (c:gk pk ops=true:=by kernel_rfl) (k:b .normal s'):fH P pk (.region id ops false) b s:=yI c fun K f=>h K (f s' k)
theorem yT (x:α) (h:α-> ∀K:AS->Prop,K s'->aS P [] [] (aJ ops ops.toList 0) (some s) K:=by intro x K k;simp(disch:=omega) only[kd,Nat.reduceAdd,Nat.reduceEqDiff,Nat.reduceBEq,Nat.reduceLeDiff,Int.reduceToNat,Nat.reduceMul,reduceCtorEq,Int.reduceLE,kx,aK,ce,x];exact k) (c:gk pk ops=true:=by kernel_rfl) (k:b .normal s'):fH P pk (.region id ops false) b s:=yI c fun K f=>h x K (f s' k)
theorem dE {b:Type} {L:f5 b} {g:b} {Q:Exit->AS->b->Prop} (h: ∀K:AS->Prop,K s'->aS P [] [] (aJ ops ops.toList 0) (some s) K:=by intro K k;simp(disch:=omega) only[kd,Nat.reduceAdd,Nat.reduceEqDiff,Nat.reduceBEq,Nat.reduceLeDiff,Int.reduceToNat,Nat.reduceMul,reduceCtorEq,Int.reduceLE,kx,aK,ce];exact k) (c:cW j ops=true:=by kernel_rfl) (k:dW P L j y Q s' g):dW P L j (.seq (.region id ops false) y) Q s g:=yO c fun K f=>h K (f s' k)
theorem de {b:Type} {L:f5 b} {g:b} {Q:Exit->AS->b->Prop} (x:α) (h:α-> ∀K:AS->Prop,K s'->aS P [] [] (aJ ops ops.toList 0) (some s) K:=by intro x K k;simp(disch:=omega) only[kd,Nat.reduceAdd,Nat.reduceEqDiff,Nat.reduceBEq,Nat.reduceLeDiff,Int.reduceToNat,Nat.reduceMul,reduceCtorEq,Int.reduceLE,kx,aK,ce,x];exact k) (c:cW j ops=true:=by kernel_rfl) (k:dW P L j y Q s' g):dW P L j (.seq (.region id ops false) y) Q s g:=yO c fun K f=>h x K (f s' k)
theorem CY {c:Type} {L:f5 c} {g:c} {Q:Exit->AS->c->Prop} (b:List (ao P)) (h: ∀K:AS->Prop,K s'->aS P (b.map ao.a) [] (aJ ops ops.toList 0) (some s) K:=by intro K k;simp(disch:=omega) only[kd,Nat.reduceAdd,Nat.reduceEqDiff,Nat.reduceBEq,Nat.reduceLeDiff,Int.reduceToNat,Nat.reduceMul,reduceCtorEq,Int.reduceLE,kx,aK,ce];exact k) (e:cW j ops=true:=by kernel_rfl) (k:dW P L j y Q s' g):dW P L j (.seq (.region id ops false) y) Q s g:=lA b [] e fun K f=>h K (f s' k)
theorem VW {c:Type} {L:f5 c} {g:c} {Q:Exit->AS->c->Prop} (b:List (ao P)) (x:α) (h:α-> ∀K:AS->Prop,K s'->aS P (b.map ao.a) [] (aJ ops ops.toList 0) (some s) K:=by intro x K k;simp(disch:=omega) only[kd,Nat.reduceAdd,Nat.reduceEqDiff,Nat.reduceBEq,Nat.reduceLeDiff,Int.reduceToNat,Nat.reduceMul,reduceCtorEq,Int.reduceLE,kx,aK,ce,x];exact k) (e:cW j ops=true:=by kernel_rfl) (k:dW P L j y Q s' g):dW P L j (.seq (.region id ops false) y) Q s g:=lA b [] e fun K f=>h x K (f s' k)
theorem sn {b:Type} {L:f5 b} {g:b} {Q:Exit->AS->b->Prop} (h: ∀K:AS->Prop,K s'->aS P [] [] (aJ ops ops.toList 0) (some s) K:=by intro K k;simp(disch:=omega) only[kd,Nat.reduceAdd,Nat.reduceEqDiff,Nat.reduceBEq,Nat.reduceLeDiff,Int.reduceToNat,Nat.reduceMul,reduceCtorEq,Int.reduceLE,kx,aK,ce];exact k) (c:cW j ops=true:=by kernel_rfl) (k:Q .normal s' g):dW P L j (.region id ops false) Q s g:=yM c fun K f=>h K (f s' k)
theorem lB {b:Type} {L:f5 b} {g:b} {Q:Exit->AS->b->Prop} (x:α) (h:α-> ∀K:AS->Prop,K s'->aS P [] [] (aJ ops ops.toList 0) (some s) K:=by intro x K k;simp(disch:=omega) only[kd,Nat.reduceAdd,Nat.reduceEqDiff,Nat.reduceBEq,Nat.reduceLeDiff,Int.reduceToNat,Nat.reduceMul,reduceCtorEq,Int.reduceLE,kx,aK,ce,x];exact k) (c:cW j ops=true:=by kernel_rfl) (k:Q .normal s' g):dW P L j (.region id ops false) Q s g:=yM c fun K f=>h x K (f s' k)
theorem Nm {c:Type} {L:f5 c} {g:c} {Q:Exit->AS->c->Prop} (b:List (ao P)) (x:α) (h:α-> ∀K:AS->Prop,K s'->aS P (b.map ao.a) [] (aJ ops ops.toList 0) (some s) K:=by intro x K k;simp(disch:=omega) only[kd,Nat.reduceAdd,Nat.reduceEqDiff,Nat.reduceBEq,Nat.reduceLeDiff,Int.reduceToNat,Nat.reduceMul,reduceCtorEq,Int.reduceLE,kx,aK,ce,x];exact k) (e:cW j ops=true:=by kernel_rfl) (k:Q .normal s' g):dW P L j (.region id ops false) Q s g:=CS b [] e fun K f=>h x K (f s' k)
theorem aH {p q:Prop} (a:p) (b:q):p/\q:=⟨a,b⟩
theorem aD {c:Func} {r:TV} (x:α) (e:b .ret s=((Exit.ret= .normal\/Exit.ret= .ret)/\ ∃s',bG s s'/\mZ P c ⟨[],r⟩ s'):=by rfl) (h:α->pS P s c.results.toList=some r:=by intro x;simp(disch:=omega) only[kd,Nat.reduceAdd,Nat.reduceEqDiff,Nat.reduceBEq,Nat.reduceLeDiff,Int.reduceToNat,Nat.reduceMul,reduceCtorEq,Int.reduceLE,kx,aK,ce,x]) (f:s.H 1000=[]:=by rfl) (g:noRefTV r=true:=by rfl):bf P .ret b s:=aW (e.mpr ⟨.inr rfl,bW f (h x) g⟩)
theorem aA {f:FuncId} {g:Func} {args:List TV} {res:CallRes} (l:P.funcs[f]?=some g) (j:g.body=some e) (o:g.ntmps=n) (h:bf P e (fun b s=>(b= .normal\/b= .ret)/\ ∃s',bG s s'/\mZ P g res s') ⟨args++ae (n-args.length) .undef,fun _=>[]⟩) (p:callable P f=true:=by kernel_rfl):CallC P f args res:=dr l j p (by rw[o];exact h)
theorem Z7 (g:s.ev l=some (.raw (.bool false))) (h:bf P f b s):bf P (.cond l e .skip) (jh (bf P f b) b) s:=aq g (ak h)
theorem Z8 (g:s.ev l=some (.raw (.bool true))) (h:bf P f b s):bf P (.cond l .skip e) (jh (bf P f b) b) s:=ay g (ak h)
theorem Z9 (m:s.ev l=some (.raw (.bool false))) (j:tz P n h f c s g):tz P n h (.cond l e .skip) (oX (tz P n h f c) c) s g:=VN m (CM j)
theorem aaa (m:s.ev l=some (.raw (.bool true))) (j:tz P n h f c s g):tz P n h (.cond l .skip e) (oX (tz P n h f c) c) s g:=VO m (CM j)
theorem aaf (m:s.ev l=some (.raw (.bool false))) (j:dV P n h f c s g):dV P n h (.cond l e .skip) (oX (dV P n h f c) c) s g:=ck m (iP j)
theorem aag (m:s.ev l=some (.raw (.bool true))) (j:dV P n h f c s g):dV P n h (.cond l .skip e) (oX (dV P n h f c) c) s g:=gW m (iP j)
theorem aab {k:Nat} (g:s.ev l=some (.raw (.bool false))) (h:fH P k f b s):fH P k (.cond l e .skip) (jh (fH P k f b) b) s:=nd g (f7 h)
theorem aac {k:Nat} (g:s.ev l=some (.raw (.bool true))) (h:fH P k f b s):fH P k (.cond l .skip e) (jh (fH P k f b) b) s:=ma g (f7 h)
theorem aad {b:Type} {L:f5 b} {g:b} {Q:Exit->AS->b->Prop} (m:s.ev l=some (.raw (.bool false))) (h:dW P L j f Q s g):dW P L j (.cond l e .skip) (rP (dW P L j f Q) Q) s g:=fq m (dM h)
theorem aae {b:Type} {L:f5 b} {g:b} {Q:Exit->AS->b->Prop} (m:s.ev l=some (.raw (.bool true))) (h:dW P L j f Q s g):dW P L j (.cond l .skip e) (rP (dW P L j f Q) Q) s g:=fO m (dM h)
end
end
theorem jv (l:List Nat) (s:l.length<=1073741824):CallC prog 72 [cY l] ⟨[],cY (dD l)⟩:=by
 refine aA func72 rfl ntmps72 (aC (k:=bC (k:=?_)));refine RY (G:={n:Nat//n<=l.length/\dD l=dD (l.take n)}) (fun n=>⟨(cY l::jk::.raw (.slice none 0 0)::.raw (.int .i64 n.1)::j16 (jk::jk::[])),Hm []⟩) (fun n=>n.1) ⟨l.length,aar _,by simp⟩ ?_ ?_
 ·refine aj trivial ?_;simp[wk]
 rintro⟨n,t,r⟩;simp only;by_cases q:0<n
 ·obtain⟨a,o⟩:=getElem?_of_lt (l:=l) (k:=n-1) (by omega);have m:((n:Int)-1).toNat=n-1:=by omega
  refine ai (aL (aH m o) (k:=?_));have p:l.take n=l.take (n-1)++[a]:=by
   have:=ac3 (i:=n-1) (l:=l) (by omega);grind
  refine bi rfl (fun g=>ak ?_) (fun g=>aZ ?_)
  ·have j:a=0:=by grind
   refine am (bS (k:=?_));refine⟨⟨n-1,by omega,?_⟩,by simp only;omega,aj trivial ?_⟩
   ·simp_all[n5]
   have e:((n-1:Nat):Int)=(n:Int)-1:=by omega
   simp[wk,e]
  have j:a≠0:=by grind
  have b:dD l=l.take n:=by grind [Ao]
  show bf _ _ _ _;have c:(l.take n).length=n:=by simp;omega
  refine aL (aH @aaW (aH (sO A2) (aH c (OJ A2)))) (k:=?_);refine aW ⟨.inr rfl,jt 21 (bO rfl) ?_ rfl⟩;simp(disch:=omega) only[kd,results72,b];grind
 have h:n=0:=by omega
 subst h;have b:dD l=[]:=by grind [dD]
 refine ai (ar (k:=bi rfl (fun g=>by cases g) (fun g=>aZ (aL (aH @aaW (sO A2)) (k:=?_)))));refine aW ⟨.inr rfl,jt 21 (bO (f:=fU) (l:=[]) rfl) ?_ rfl⟩;simp(disch:=omega) only[kd,results72,b];simp[ls]
theorem cj:au 0=[]:=by rw[au];simp
theorem sM (h:n≠0):au n=n%4294967296::au (n/4294967296):=by grind [au]
theorem az (n:Nat):natV (au n)=n:=by
 induction n using Nat.strongRecOn with
 |_ n b=>
  grind [cj,sM,natV]
theorem aE (n:Nat):Lmb (au n):=by
 induction n using Nat.strongRecOn with
 |_ n c=>
  by_cases h:n=0
  ·subst h;rw[cj];intro a b;simp at b
  rw[sM h];intro a b;rcases aaR.1 b with rfl|b
  ·omega
  exact c _ (K9 h) a b
theorem b9 (n:Nat):uw (au n):=by
 induction n using Nat.strongRecOn with
 |_ n b=>
  grind [cj,uw,sM]
theorem N5 (b:Lmb j) (c:uw j):j=au (natV j):=
 Sg b (aE _) c (b9 _) (az _).symm
theorem ee (b:Lmb j):dD j=au (natV j):=by
 grind [N5,QE,QC,Lo]
theorem ii (n:Nat):dD (au n)=au n:=uc (b9 n)
theorem Bi:au n=[]↔n=0:=⟨fun h=>by rw[<- az n,h];rfl,fun h=>by rw[h,cj]⟩
theorem lP {n k:Nat} (h:n<4294967296^k):(au n).length<=k:=FX (b9 n) (by grind [az])
theorem fD {n:Nat}:(au n).length=0↔n=0:=by simp_all[Bi]
def Sz (z:Int) (k:Nat):Prop:=z.natAbs<4294967296^k
theorem Sz.mono {k l:Nat} (h:Sz x k) (b:k<=l):Sz x l:=aaA h (aaJ (by omega) b)
theorem WD (z:Int):(fZ z).length=2:=rfl
theorem rA (neg:Bool) (n:Nat):(f4 neg n).natAbs=n:=by grind [f4]
theorem JE (neg:Bool) (n:Nat):decide (f4 neg n<0)=(neg&&decide (0<n)):=by
 grind [f4]
theorem j8 (neg:Bool) (l:List Nat) (h:Lmb l) (b:l.length<=1073741824):CallC prog 105 [.raw (.bool neg),cY l] ⟨[],tZ (f4 neg (natV l))⟩:=by
 have e:=jv l b;rw[ee h]at e;have c:(au (natV l)).length<=1073741824:=by rw[<- ee h];exact aap (QD l) b
 refine aA func105 rfl ntmps105 (aC (k:=bK [⟨1,_,_,_,e⟩] (k:=?_)));cases neg with
 |false=>
  refine ar (k:=?_);refine aW ⟨.inr rfl,bW rfl ?_ rfl⟩;simp(disch:=omega) only[kd,results105,aa,tZ];rfl
 |true=>
  refine ar (k:=?_);refine aW ⟨.inr rfl,bW rfl ?_ rfl⟩;simp(disch:=omega) only[kd,results105,aa,tZ];have:(0<(au (natV l)).length)↔0<natV l:=by
   grind [fD]
  grind [rA,JE]
abbrev Bg (z:Int):Prop:=Sz z 1073741824
theorem Bg.len (h:Bg x):(au x.natAbs).length<=1073741824:=lP h
theorem O0 (z:Int):f4 (!decide (z<0)) z.natAbs= -z:=by grind [f4]
theorem Br (z:Int):f4 (decide (z<0)) z.natAbs=z:=by grind [f4]
theorem Pa (z:Int) (h:Bg z):CallC prog 79 [tZ z] ⟨[],tZ (-z)⟩:=by
 have b:=j8 (!decide (z<0)) (au z.natAbs) (aE _) h.len;rw[az,O0]at b;refine aA func79 rfl ntmps79 (aC (k:=bL [⟨5,_,_,_,b⟩] (k:=aD @results79)))
theorem No (z:Int) (h:Bg z):CallC prog 158 [tZ z] ⟨[],tZ z.natAbs⟩:=by
 have b:=j8 false (au z.natAbs) (aE _) h.len;rw[az,show f4 false z.natAbs=z.natAbs from rfl]at b;refine aA func158 rfl ntmps158 (aC (k:=bL [⟨2,_,_,_,b⟩] (k:=aD @results158)))
theorem Pc (z:Int) (h:Bg z):CallC prog 52 [tZ z] ⟨[],tZ z⟩:=by
 have b:=j8 (decide (z<0)) (au z.natAbs) (aE _) h.len;rw[az,Br]at b;refine aA func52 rfl ntmps52 (aC (k:=bL [⟨4,_,_,_,b⟩] (k:=aD @results52)))
theorem Cl (neg:Bool) (u:Nat) (g:u<18446744073709551616):CallC prog 128 [.raw (.bool neg),.raw (.int .u64 u)] ⟨[],tZ (f4 neg u)⟩:=by
 have c:=j8 neg [u%4294967296,u/4294967296] (by intro a f;grind) (by simp);rw[Aq]at c;have e:IntKind.u32.wrap (u:Int)=((u%4294967296:Nat):Int):=by rfl
 have b:IntKind.u32.wrap ((u:Int).fdiv (2^(min (32:Int).toNat IntKind.u64.bits)))=((u/4294967296:Nat):Int):=by
  rw[abQ];show(Int.fdiv (u:Int) 4294967296)%4294967296=_;grind
 simp only[ah]at b;refine aA func128 rfl ntmps128 (aC (k:=cO [⟨7,_,_,_,c⟩] (aH @Ja (aH e b)) (k:=aD @results128)))
theorem fc (n:Int) (e: -9223372036854775808<=n) (f:n<=9223372036854775807):CallC prog 74 [.raw (.int .i64 n)] ⟨[],tZ n⟩:=by
 by_cases g:n<0
 ·have b:=Cl true n.natAbs (by omega);have c:IntKind.u64.wrap (0-IntKind.u64.wrap n)=((n.natAbs:Nat):Int):=by grind [IntKind.wrap_u64]
  rw[show f4 true n.natAbs=n by grind [f4]]at b;refine aA func74 rfl ntmps74 (aC (k:=ai (ar (k:=ay rfl (cO [⟨3,_,_,_,b⟩] c (k:=aD @results74))))))
 have b:=Cl false n.natAbs (by omega);have c:IntKind.u64.wrap n=((n.natAbs:Nat):Int):=by rw[aa1];omega
 rw[show f4 false n.natAbs=n by grind [f4]]at b;refine aA func74 rfl ntmps74 (aC (k:=ai (ar (k:=aq rfl (ak (cO [⟨2,_,_,_,b⟩] c (k:=aD @results74)))))))
theorem mI (z:Int) (h:Bg z):CallC prog 75 [tZ z] ⟨[],.raw (.int .i64 (sg z))⟩:=by
 have b:=jv (au z.natAbs) h.len;rw[ii]at b;have g:=fD (n:=z.natAbs);rcases Int.lt_trichotomy z 0 with c|c|c
 ·have e:sg z= -1:=by simp[sg,c]
  have f:(au z.natAbs).length≠0:=by omega
  rw[e];refine aA func75 rfl ntmps75 (aC (k:=ai (am (bL [⟨2,_,_,_,b⟩] (k:=aq rfl (bC (k:=ay rfl (bC (k:=aD @results75)))))))))
 ·subst c;rw[show sg 0=0 from rfl];rw[Int.natAbs_zero,cj]at b;rw[show tZ 0= .agg [.p (.raw (.bool false)),.p (.sl (ls fU []))]from by grind];refine aA func75 rfl ntmps75 (aC (k:=ai (am (bL [⟨2,_,_,_,b⟩] (k:=ay rfl (bC (k:=aD @results75)))))))
 have e:sg z=1:=by grind [sg]
 have f:(au z.natAbs).length≠0:=by omega
 rw[e];refine aA func75 rfl ntmps75 (aC (k:=ai (am (bL [⟨2,_,_,_,b⟩] (k:=aq rfl (bC (k:=aq rfl (ak (bC (k:=aD @results75))))))))))
theorem IG (l m:List Nat) (r:Lmb l) (s:Lmb m) (t:uw l) (u:uw m) (x:l.length<=1073741824) (y:m.length<=1073741824):
  CallC prog 157 [cY l,cY m] ⟨[],.raw (.int .i64 (gD (natV l) (natV m)))⟩:=by
 rcases aby l.length m.length with q|n|o
 ·rw[ot (ja r u q)];refine aA func157 rfl ntmps157 (aC (k:=ai (ar (k:=ay rfl (ai (ar (k:=ay rfl (bC (k:=aD @results157)))))))))
 ·refine aA func157 rfl ntmps157 (aC (k:=ai (ar (k:=aq rfl (ak (ai (ar (k:=?_))))))));refine aB (G:={k:Nat//k<=l.length/\l.drop k=m.drop k}) (fun k=>⟨(cY l::cY m::jk::jk::.raw (.int .i64 0)::.raw (.int .i64 ((k.1:Int)-1))::j16 (j16 (jk::jk::jk::[]))),Hm []⟩) (fun k=>k.1) ⟨l.length,aar _,by rw[acL,n,acL]⟩ ?_ ?_
  ·refine aj trivial ?_;simp[wk]
  rintro⟨k,B,A⟩;simp only;by_cases z:0<k
  ·obtain⟨a,f⟩:=getElem?_of_lt (l:=l) (k:=k-1) (by omega);obtain⟨b,g⟩:=getElem?_of_lt (l:=m) (k:=k-1) (by omega);have j:((k:Int)-1).toNat=k-1:=by omega
   have e:l.drop (k-1+1)=m.drop (k-1+1):=by grind
   refine ai (ar (k:=ay rfl (ak (ai (am (iu (aH j (aH f g)) (k:=?_)))))));rcases aby a b with c|c|c
   ·rw[ot (mD r f g e c)];refine bi rfl (fun _=>?_) (fun h=>by simp at h<;>omega);refine ai (iu (aH j (aH f g)) (k:=ay rfl (bC (k:=aD @results157))))
   ·subst c;refine bi rfl (fun h=>by simp at h<;>omega) (fun _=>ak ?_);show bf _ _ _ _;refine bS (k:=?_);refine⟨⟨k-1,by omega,zh f g e⟩,by grind,aj trivial ?_⟩;have v:((k-1:Nat):Int)=(k:Int)-1:=by omega
    simp[wk,v]
   rw[uA (mD s g f e.symm c)];refine bi rfl (fun _=>?_) (fun h=>by simp at h<;>omega);refine ai (iu (aH j (aH f g)) (k:=aq rfl (ak (bC (k:=aD @results157)))))
  have p:k=0:=by omega
  subst p;have w:l=m:=by grind
  rw[show gD (natV l) (natV m)=0 by grind [gD]];refine ai (ar (k:=aq rfl (aZ (bC (k:=aD @results157)))))
 rw[uA (ja s t o)];refine aA func157 rfl ntmps157 (aC (k:=ai (ar (k:=ay rfl (ai (ar (k:=aq rfl (ak (bC (k:=aD @results157))))))))))
def sE (a b:Int):Int:=if a<b then -1 else if a=b then 0 else 1
theorem Et (z:Int): -1<=sg z/\sg z<=1:=by grind [sg]
theorem F1 (a b:Nat): -1<=gD a b/\gD a b<=1:=by grind [gD]
theorem So {a:Int} (h:sg a≠sg x):sE a x=if sg a<sg x then -1 else 1:=by
 grind [sg,sE]
theorem Sm {a:Int} (h:sg a=sg x):sE a x=sg a*gD a.natAbs x.natAbs:=by
 grind [sg,sE,gD]
theorem Cs (a b:Int) (e:Bg a) (f:Bg b):CallC prog 106 [tZ a,tZ b] ⟨[],.raw (.int .i64 (sE a b))⟩:=by
 have g:=mI a e;have j:=mI b f;have t1:=jv (au a.natAbs) e.len;have t2:=jv (au b.natAbs) f.len;rw[ii]at t1 t2;have l:=IG (au a.natAbs) (au b.natAbs) (aE _) (aE _) (b9 _) (b9 _) e.len f.len;rw[az,az]at l;have n:=Et a;have o:=Et b;have p:=F1 a.natAbs b.natAbs;have q: -1<=sg a*gD a.natAbs b.natAbs/\sg a*gD a.natAbs b.natAbs<=1:=by
  grind [sg]
 by_cases m:sg a=sg b
 ·rw[Sm m];refine aA func106 rfl ntmps106 (aC (k:=di [⟨1,_,_,_,g⟩,⟨3,_,_,_,j⟩] (k:=ai (ar (k:=aq rfl (ak (di [⟨3,_,_,_,t1⟩,⟨6,_,_,_,t2⟩,⟨7,_,_,_,l⟩] (k:=aD @results106))))))))
 rw[So m];refine aA func106 rfl ntmps106 (aC (k:=di [⟨1,_,_,_,g⟩,⟨3,_,_,_,j⟩] (k:=ai (ar (k:=ay rfl (ai (bC (k:=?_))))))));by_cases c:sg a<sg b
 ·rw[if_pos c];refine bi rfl (fun _=>?_) (fun h=>by simp at h<;>omega);refine ar (k:=aD @results106)
 rw[if_neg c];refine bi rfl (fun h=>by simp at h<;>omega) (fun _=>ak ?_);show bf _ _ _ _;refine ar (k:=aD @results106)
end Go.Proofs.YtalmoejhjceflaaGreat
