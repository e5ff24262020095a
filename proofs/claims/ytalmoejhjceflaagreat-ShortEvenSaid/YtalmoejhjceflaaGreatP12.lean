/-
  Part 13 of a proof (walks and plain facts).
-/
import Derived.Test.YtalmoejhjceflaaGreatP11
import Derived.Shelf.SlSortCmp.WholeK
import Derived.Ground.SlsfProg
import Derived.Test.YtalmoejhjceflaaGreatProg
import Derived.Deep.RegionHeld3
import Derived.Deep.RegionLaw
import Derived.Laws.EntriesVeiled
set_option linter.all false
set_option maxRecDepth 100000
set_option maxHeartbeats 64000000
open Nat renaming reduceAdd → aa
open Nat renaming reduceEqDiff → ab
open List renaming replicate → ae
open Nat renaming reduceBEq → af
open Nat renaming reduceLeDiff → ag
open Int renaming reduceToNat → ah
namespace Go.Proofs.YtalmoejhjceflaaGreat
open Go.RowKit Go.Proofs.Tryz
variable {b:Exit->AS->Prop} {n m:Nat} {c:Exit->AS->List PV->Prop} {e:List NItem} {f g:Code} {w:World} {h:List PV} {j:List Nat} {l:TypeId} {o:NItem} {p:Operand} {q:List Int} {x:Int}
def ue (w:World) (g N:Nat) (L:List NItem):Prop:=
 ∃f,w.rowIs g 177 N f/\L.length*2<=N/\ ∀j b,L[j]?=some b->f (j*2)= .int .i64 b.key/\f (j*2+1)=b.val
theorem ue.ext {c:World} (h:ue w n m e) (b:Ext w c):ue c n m e:=by
 obtain⟨f,j,l,o⟩:=h;exact⟨f,cn j b,l,o⟩
theorem ue.cell0 (h:ue w n m e) {j:Nat} (b:e[j]?=some o):w.cell? ⟨n,j*2,none⟩=some (.int .i64 o.key):=by
 obtain⟨f,c,p,l⟩:=h;have:=(XN.1 b).1;rw[c.cell (by omega),(l j o b).1]
theorem ue.cell1 (h:ue w n m e) {j:Nat} (b:e[j]?=some o):w.cell? ⟨n,j*2+1,none⟩=some (.slice o.at_ o.vals.length o.cap):=by
 obtain⟨f,c,p,l⟩:=h;have:=(XN.1 b).1;rw[c.cell (by omega),(l j o b).2];rfl
theorem ue.frozen (h:ue w n m e) (j:Nat):w.frozen? ⟨n,j,none⟩=false:=by
 obtain⟨f,b,c,l⟩:=h;exact b.frozen j
theorem ue.set (h:ue w n m e) {i:Nat} (p:i<e.length) (c:NItem):
  ue ((w.setCell ⟨n,i*2,none⟩ (.int .i64 c.key)).setCell ⟨n,i*2+1,none⟩ (.slice c.at_ c.vals.length c.cap)) n m (e.set i c):=by
 obtain⟨f,o,r,s⟩:=h;refine⟨_,(o.set (i*2) _).set (i*2+1) _,by grind,fun j q l=>?_⟩;rw[Yz]at l;by_cases b:i=j
 ·subst b;rw[if_pos rfl,if_pos p]at l;cases l;constructor
  ·simp
  rw[if_pos rfl];rfl
 grind
def df (c:NItem):List NItem->List NItem
 |[]=>[]
 |b::l=>if uq7 b c then df b l else b::df b l
def aY:List NItem->List NItem
 |[]=>[]
 |a::l=>a::df a l
theorem xp {P:Program} (w:World) (t e p:TypeId) (z:Value) (h:P.underlying t=some (.slice e)) (l: ∀w,(zeroValue e).run P w= .ok z w) (q: ∀v∈z.cells,v.oneCell'=true) (x:0<z.cells.size) (b o n c:Nat) (u:0<n)
  (r: ∀j,j<n*z.cells.size->(w.cell? ⟨b,o+j,none⟩).isSome=true) (s: ∀j,j<n*z.cells.size->w.frozen? ⟨b,o+j,none⟩=false):
  (Builtin.clear_ #[t] p #[.slice (some ⟨b,o,none⟩) n c]).run P w= .ok (.tuple #[]) (w.setCells b o (Builtin.zeroCells z.cells n).toList):=by
 have g:(Builtin.zeroCells z.cells n).toList.length=n*z.cells.size:=by simp[Builtin.zeroCells]
 have f:=run_storeCells_cells (P:=P) b o (Builtin.zeroCells z.cells n).toList 0 w (by grind) (by grind) (by
  grind [Builtin.zeroCells,Nat.mod_lt])
 simp only[YA]at f;obtain⟨m,rfl⟩: ∃m,n=m+1:=⟨n-1,by omega⟩;simp[Builtin.clear_,run_underlying h,l,f]
theorem ItemOk.gb {b:World} (h:ItemOk w n o) (c:w.grownBy b (some n)):ItemOk b n o:=⟨h.rd.gb h.ne c,h.ne,h.le⟩
theorem si {k:Nat} {a:NItem} (f: ∀j a b,j+1<k+1->e[j+1]?=some a->e[j]?=some b->uq7 a b=false) (c:e[k]?=some a):aY e=e.take (k+1)++df a (e.drop (k+1)):=by
 induction k generalizing a with
 |zero=>
  cases e with
  |nil=>simp at c
  |cons b l=>grind [aY]
 |succ k g=>
  grind [List.drop_eq_getElem_cons,df]
theorem sj (f: ∀j a b,j+1<e.length->e[j+1]?=some a->e[j]?=some b->uq7 a b=false):aY e=e:=by
 cases m:e with
 |nil=>rfl
 |cons a l=>
  have c:0<e.length:=by grind
  obtain⟨b,g⟩:=getElem?_of_lt (l:=e) (k:=e.length-1) (by omega);have:=si (k:=e.length-1) (fun j a b h=>f j a b (by omega)) g;grind [df]
theorem xT {a:NItem} (f:e[n+1]?=some a) (c:uq7 a o=true):df o (e.drop (n+1))=df a (e.drop (n+1+1)):=by
 grind [List.drop_eq_getElem_cons,df]
theorem IJ {a:NItem} (f:e[n+1]?=some a) (c:uq7 a o=false):df o (e.drop (n+1))=a::df a (e.drop (n+1+1)):=by
 grind [List.drop_eq_getElem_cons,df]
theorem MG {pre:List NItem} (h:pre.length<=n):(pre++e.drop pre.length)[n]?=e[n]?:=by
 grind
theorem Qh {pre:List NItem} {a:NItem} (h:pre.length<e.length):(pre++e.drop pre.length).set pre.length a=(pre++[a])++e.drop (pre++[a]).length:=by
 grind [List.drop_eq_getElem_cons]
theorem s7 (g cap:Nat) (L:List NItem) (bx sx so:Nat) (w:World) (hL:ue w g (cap*2) L) (hcap:L.length<=cap) (hlen:L.length<=4611686018427387904)
  (hok: ∀it∈L,ItemOk w g it) (h1:w.cell? ⟨bx,0,none⟩=some (.pointer (some ⟨sx,so,none⟩))) (h2:w.cell? ⟨sx,so+1,none⟩=some (.func (Fn.func 132) #[] #[])) (hbx:bx≠g) (hsx:sx≠g):
  Calls prog 199 #[.slice (some ⟨g,0,none⟩) L.length cap,.func (Fn.func 200) #[] #[.pointer (some ⟨bx,0,none⟩)]] w fun e w'=>
   e= .returned (.slice (some ⟨g,0,none⟩) (aY L).length cap)/\ue w' g (cap*2) (aY L)/\w.grownBy w' (some g):=by
 have HL:=XL hL;have HOK:=XL hok;have HB1:=XL h1;have HB2:=XL h2;have HN1:=XL hbx;have HN2:=XL hsx;clear hL hok h1 h2 hbx hsx;have hz59: ∀w,(zeroValue 177).run prog w= .ok (.agg #[.int .i64 0,.slice none 0 0]) w:=fun w=>by kernel_rfl
 have HZ:=XL hz59;clear hz59;by_cases hsz:L.length<2
 ·have HC:Hid (aY L=L):=XL (sj (fun j a b h=>by omega))
  go_enter func199,ntmps199
  go_wp2_with fail
  go_ret
  rw[HC.out];exact⟨rfl,HL.out,World.grownBy.refl _ _⟩
 have hszb:decide ((L.length:Int)<2)=false:=by simp;omega
 go_enter func199,ntmps199
 go_wp2_with fail
 clear hszb
 go_loopw [5,6,7] (fun i _ _ wr=> ∃k:Nat,1<=k/\k<=L.length/\i= .int .i64 k/\Hid (Ext w wr)/\Hid (∀j a b,j+1<k->L[j+1]?=some a->L[j]?=some b->uq7 a b=false)) (fun i _ _ _=>L.length-(intOf i).toNat)
 case atStart=>exact⟨1,by omega,by omega,rfl,XL (Ext.refl _),XL (fun j a b h=>by omega)⟩
 case round=>
  obtain⟨k,hk1,hk,rfl,HE,HQ⟩:=hrel;by_cases hlt:k<L.length
  ·obtain⟨a,ha⟩:=getElem?_of_lt hlt;obtain⟨b,hb⟩:=getElem?_of_lt (l:=L) (k:=k-1) (by omega);have HA:=XL ha;have HB:=XL hb;clear ha hb;have HL1:=XL (HL.out.ext (HE.out.drew));have t1:=HL1.out.cell0 HA.out;have t2:=HL1.out.cell1 HA.out;have t3:=HL1.out.cell0 HB.out;have t4:=HL1.out.cell1 HB.out;have HE1:=XL HE.out.drew;clear HE;have a1:IntKind.i64.wrap ((k:Int)-1)=(k:Int)-1:=aaz _ (by omega);have a2:0<=(k:Int)-1:=by omega
   have a3:((k:Int)-1).toNat=k-1:=by omega
   have a4:(k:Int)-1<(L.length:Int):=by omega
   have a5:(1:Int)<=(k:Int):=by omega
   go_wp2_with fail
   refine cq 10 (by kernel_rfl) (by kernel_rfl) ?_;simp only[Zk,Z8,Zt,Zs];generalize wr.drew=w3 at*
   iterate 10 still_step
   refine wpStill_nil ?_;have HC:=XL (wI a b bx sx so w3 g ((HOK.out a (XH HA.out)).ext HE1.out) ((HOK.out b (XH HB.out)).ext HE1.out) (HE1.out.cell HB1.out) (HE1.out.cell HB2.out));unfold NItem.agg at HC;clear t1 t2 t3 t4 HL1 a1 a2 a3 a4 a5;cases heq:uq7 a b with
   |false=>
    rw[heq]at HC;have HEQ:=XL heq;clear heq
    go_wp2_with fail
    refine HC.out.mono ?_;rintro e w' ⟨rfl,he⟩;have HE2:=XL (HE1.out.trans he);clear he
    go_wp2_with fail
    go_roundw
    case rel=>
     refine⟨k+1,by omega,by omega,by go_num,HE2,XL (fun j x y hj hx hy=>?_)⟩;by_cases e:j+1=k
     ·subst e;rw[HA.out]at hx;have hB:=HB.out;rw[show j+1-1=j from by omega,hy]at hB;cases hx;cases hB;exact HEQ.out
     exact HQ.out j x y (by omega) hx hy
    grind [intOf]
   |true=>
    rw[heq]at HC;have HEQ:=XL heq;clear heq;have HCP:Hid (aY L=L.take k++df a (L.drop (k+1))):=XL (by
     obtain⟨m,rfl⟩: ∃m,k=m+1:=⟨k-1,by omega⟩;rw[si (k:=m) HQ.out HB.out,xT HA.out HEQ.out])
    go_wp2_with fail
    refine HC.out.mono ?_;rintro e w' ⟨rfl,he⟩;have HE2:=XL (HE1.out.trans he);clear he HC HE1
    go_wp2_with fail
    obtain⟨wo,rfl⟩: ∃wo:World,wo=wr:=⟨_,rfl⟩
    go_loopw [7,5] (fun s i wx=> ∃(j:Nat) (pre:List NItem) (last:NItem),1<=j/\j<=L.length-k/\s= .int .i64 j/\i= .int .i64 (pre.length:Nat)/\k<=pre.length/\pre.length+1<=k+j/\Hid (L[k+j-1]?=some last)/\Hid (aY L=pre++df last (L.drop (k+j)))/\Hid (ue wx g (cap*2) (pre++L.drop pre.length))/\Hid (w.grownBy wx (some g))) (fun s _ _=>L.length-(intOf s).toNat)
    case atStart=>
     have hlt':(L.take k).length=k:=by simp_all
     refine⟨1,L.take k,a,by omega,by omega,rfl,by rw[hlt'],by omega,by omega,XL (by rw[show k+1-1=k from by omega];exact HA.out),HCP,XL ?_,XL (eJ HE2.out g)⟩;rw[hlt',List.take_append_drop];exact HL.out.ext HE2.out
    case round=>
     clear HE2 HCP HEQ HQ HA HB;obtain⟨j,pre,last,hj1,hj,rfl,rfl,hp1,hp2,HLA,HCP,HLS,HGB⟩:=hrel;by_cases hjl:j<L.length-k
     ·obtain⟨a2,ha2⟩:=getElem?_of_lt (l:=L) (k:=k+j) (by omega);have m1:(pre++L.drop pre.length)[k+j]?=some a2:=by rw[MG (by omega)];exact ha2
      have m2:(pre++L.drop pre.length)[k+(j-1)]?=some last:=by rw[MG (by omega),show k+(j-1)=k+j-1 from by omega];exact HLA.out
      have t1:=HLS.out.cell0 m1;have t2:=HLS.out.cell1 m1;have t3:=HLS.out.cell0 m2;have t4:=HLS.out.cell1 m2;rw[YL]at t1 t2 t3 t4;have HA2:=XL ha2;have HM1:=XL m1;clear ha2 m1 m2;have t1':wr.drew.cell? _=_:=t1;have t2':wr.drew.cell? _=_:=t2;have t3':wr.drew.cell? _=_:=t3;have t4':wr.drew.cell? _=_:=t4;have HGB1:Hid (w.grownBy wr.drew (some g)):=XL (iO HGB.out (eJ ((Ext.refl _).drew) g));have HLS1:Hid (ue wr.drew g (cap*2) (pre++L.drop pre.length)):=XL (HLS.out.ext ((Ext.refl _).drew));clear t1 t2 t3 t4 HGB HLS;have hjz:(j:Int)<((L.length-k:Nat):Int):=by omega
      have a1:IntKind.i64.wrap ((j:Int)-1)=(j:Int)-1:=aaz _ (by omega);have a2':0<=(j:Int)-1:=by omega
      have a3:((j:Int)-1).toNat=j-1:=by omega
      have a4:(j:Int)-1<((L.length-k:Nat):Int):=by omega
      have a5:(1:Int)<=(j:Int):=by omega
      go_wp2_with fail
      refine cq 10 (by kernel_rfl) (by kernel_rfl) ?_;simp only[Zk,Z8,Zt,Zs];generalize wr.drew=w3 at*
      iterate 10 still_step
      refine wpStill_nil ?_;have HC:=XL (wI a2 last bx sx so w3 g ((HOK.out a2 (XH HA2.out)).gb HGB1.out) ((HOK.out last (XH HLA.out)).gb HGB1.out) (nJ HGB1.out HB1.out HN1.out) (nJ HGB1.out HB2.out HN2.out));unfold NItem.agg at HC;clear t3' t4' a1 a2' a3 a4 a5;cases heq:uq7 a2 last with
      |true=>
       rw[heq]at HC;have HEQ:=XL heq;clear heq t1' t2'
       go_wp2_with fail
       refine HC.out.mono ?_;rintro e w4 ⟨rfl,he⟩;have HGB2:=XL (iO HGB1.out (eJ he g));have HLS2:=XL (HLS1.out.ext he);clear he
       go_wp2_with fail
       go_roundw
       case rel=>
        refine⟨j+1,pre,a2,by omega,by omega,by go_num,rfl,hp1,by omega,XL (by rw[show k+(j+1)-1=k+j from by omega];exact HA2.out),XL ?_,HLS2,HGB2⟩;obtain⟨m,hm⟩: ∃m,k+j=m+1:=⟨k+j-1,by omega⟩;have h1:=HA2.out;rw[hm]at h1;rw[HCP.out,hm,xT h1 HEQ.out,show k+(j+1)=m+1+1 from by omega]
       case measure=>simp[intOf];omega
      |false=>
       rw[heq]at HC;have HEQ:=XL heq;clear heq;have hpl:pre.length<L.length:=by omega
       have hpz:(pre.length:Int)<(L.length:Int):=by omega
       obtain⟨p,hp⟩: ∃p,p=pre.length:=⟨_,rfl⟩
       go_wp2_with fail
       refine HC.out.mono ?_;rintro e w4 ⟨rfl,he⟩;have HGB2:=XL (iO HGB1.out (eJ he g));have HLS2:=XL (HLS1.out.ext he);have s1:=he.cell t1';have s2:=he.cell t2';have hlm:pre.length<(pre++L.drop pre.length).length:=by rw[YJ,List.length_drop];omega
       obtain⟨q,hq⟩:=getElem?_of_lt hlm;have s3:=HLS2.out.cell0 hq;have s4:=HLS2.out.cell1 hq;have s5:=HLS2.out.frozen (pre.length*2);have s6:=HLS2.out.frozen (pre.length*2+1);have HSET:=XL (HLS2.out.set hlm a2);clear he t1' t2' hq hlm HC hp
       go_wp2_with fail
       go_roundw
       case rel=>
        refine⟨j+1,pre++[a2],a2,by omega,by omega,by go_num,by simp,by simp;omega,by simp;omega,XL (by rw[show k+(j+1)-1=k+j from by omega];exact HA2.out),XL ?_,XL ?_,XL (zG (zG HGB2.out _ _) _ _)⟩
        ·obtain⟨m,hm⟩: ∃m,k+j=m+1:=⟨k+j-1,by omega⟩;have h1:=HA2.out;rw[hm]at h1;rw[HCP.out,hm,IJ h1 HEQ.out,show k+(j+1)=m+1+1 from by omega]
         simp
        have:=HSET.out;rw[Qh hpl]at this;exact this
       case measure=>simp[intOf];omega
     have hjl':j=L.length-k:=by omega
     have HF:Hid (aY L=pre):=XL (by rw[HCP.out,show k+j=L.length from by omega,aam];simp[df]);have hpl:pre.length<L.length:=by omega
     have hcl: ∀ty,(Builtin.clear_ #[171] ty #[.slice (some ⟨g,pre.length*2,none⟩) (L.length-pre.length) (cap-pre.length)]).run prog wr= .ok (.tuple #[]) (wr.setCells g (pre.length*2) (Builtin.zeroCells #[.int .i64 0,.slice none 0 0] (L.length-pre.length)).toList):=fun ty=>by
      obtain⟨f,f1,f2,f3⟩:=HLS.out;refine xp wr _ 177 ty (.agg #[.int .i64 0,.slice none 0 0]) underlying171 HZ.out (by simp[Value.cells,Value.oneCell']) (by simp[Value.cells]) g _ _ _ (by omega) (fun j hj=>?_) (fun j hj=>f1.frozen _);simp[Value.cells]at hj;rw[f1.cell (by omega)];rfl
     have HCL:Hid (ue (wr.setCells g (pre.length*2) (Builtin.zeroCells #[.int .i64 0,.slice none 0 0] (L.length-pre.length)).toList) g (cap*2) pre):=XL (by
      obtain⟨f,f1,f2,f3⟩:=HLS.out;obtain⟨f',q1,q2,_⟩:=qp (Builtin.zeroCells #[.int .i64 0,.slice none 0 0] (L.length-pre.length)).toList (pre.length*2) wr f f1;refine⟨f',q1,by omega,fun i it hi=>?_⟩;have hlt:=(XN.1 hi).1;have:=f3 i it (by simp_all[XS]);rw[q2 _ (by omega),q2 _ (by omega)];exact this)
     have HGB3:Hid (w.grownBy (wr.setCells g (pre.length*2) (Builtin.zeroCells #[.int .i64 0,.slice none 0 0] (L.length-pre.length)).toList) (some g)):=XL (ss (b:=wr) _ _ HGB.out);clear hjl'
     go_wp2_with fail
     go_ret
     rw[HF.out];exact⟨rfl,HCL.out,HGB3.out⟩
  have HC:Hid (aY L=L):=XL (sj (fun j a b h=>HQ.out j a b (by omega)))
  go_wp2_with fail
  go_ret
  rw[HC.out];exact⟨rfl,HL.out.ext HE.out,eJ HE.out g⟩
end Go.Proofs.YtalmoejhjceflaaGreat
namespace Go.Proofs
open Go.Shelf
def Tryz.sortK_ren:Go.Shelf.Ren:=⟨fun|6=>198|15=>127|14=>229|28=>184|29=>185|20=>244|21=>245|22=>246|23=>247|24=>248|25=>249|26=>250|27=>251|46=>254|47=>216|48=>217|49=>255|50=>256|57=>257|n=>n,fun|22=>171|24=>177|25=>170|3=>3|39=>164|0=>0|53=>165|55=>116|4=>4|46=>213|45=>212|50=>51|5=>5|9=>9|66=>250|70=>254|76=>268|77=>269|n=>n,fun|n=>n⟩
theorem Tryz.sortK:Go.Proofs.SlLaysF0.n6 prog Tryz.sortK_ren:={
 mixed:=by kernel_rfl
 f6:=⟨f198.name,by decide,func198.trans (congrArg some (by kernel_rfl))⟩
 f14:=⟨f229.name,by decide,func229.trans (congrArg some (by kernel_rfl))⟩
 f15:=func127.trans (congrArg some (by kernel_rfl))
 f20:=⟨f244.name,by decide,func244.trans (congrArg some (by kernel_rfl))⟩
 f21:=⟨f245.name,by decide,func245.trans (congrArg some (by kernel_rfl))⟩
 f22:=⟨f246.name,by decide,func246.trans (congrArg some (by kernel_rfl))⟩
 f23:=⟨f247.name,by decide,func247.trans (congrArg some (by kernel_rfl))⟩
 f24:=⟨f248.name,by decide,func248.trans (congrArg some (by kernel_rfl))⟩
 f25:=⟨f249.name,by decide,func249.trans (congrArg some (by kernel_rfl))⟩
 f26:=⟨f250.name,by decide,func250.trans (congrArg some (by kernel_rfl))⟩
 f27:=⟨f251.name,by decide,func251.trans (congrArg some (by kernel_rfl))⟩
 f28:=func184.trans (congrArg some (by kernel_rfl))
 f29:=func185.trans (congrArg some (by kernel_rfl))
 f46:=⟨f254.name,by decide,func254.trans (congrArg some (by kernel_rfl))⟩
 f47:=func216.trans (congrArg some (by kernel_rfl))
 f48:=func217.trans (congrArg some (by kernel_rfl))
 f49:=⟨f255.name,by decide,func255.trans (congrArg some (by kernel_rfl))⟩
 f50:=⟨f256.name,by decide,func256.trans (congrArg some (by kernel_rfl))⟩
 f57:=⟨f257.name,by decide,func257.trans (congrArg some (by kernel_rfl))⟩
 t0:=underlying0
 a0:=isAgg0
 z0:=sizeOf0
 v0:=zeroValue0
 t3:=underlying3
 a3:=isAgg3
 z3:=sizeOf3
 v3:=zeroValue3
 t4:=underlying4
 a4:=isAgg4
 z4:=sizeOf4
 v4:=zeroValue4
 t5:=underlying5
 a5:=isAgg5
 z5:=sizeOf5
 v5:=zeroValue5
 t9:=underlying9
 a9:=isAgg9
 z9:=sizeOf9
 v9:=zeroValue9
 t22:=underlying171
 a22:=isAgg171
 z22:=sizeOf171
 v22:=zeroValue171
 t25:=underlying170
 a25:=isAgg170
 z25:=sizeOf170
 v25:=zeroValue170
 t39:=underlying164
 a39:=isAgg164
 z39:=sizeOf164
 v39:=zeroValue164
 t45:=underlying212
 a45:=isAgg212
 z45:=sizeOf212
 v45:=zeroValue212
 t46:=underlying213
 a46:=isAgg213
 z46:=sizeOf213
 v46:=zeroValue213
 t50:=underlying51
 a50:=isAgg51
 z50:=sizeOf51
 v50:=zeroValue51
 t53:=underlying165
 a53:=isAgg165
 z53:=sizeOf165
 v53:=zeroValue165
 t55:=underlying116
 a55:=isAgg116
 z55:=sizeOf116
 v55:=zeroValue116
 t66:=underlying250
 a66:=isAgg250
 z66:=sizeOf250
 v66:=zeroValue250
 t70:=underlying254
 a70:=isAgg254
 z70:=sizeOf254
 v70:=zeroValue254
 t76:=underlying268
 a76:=isAgg268
 z76:=sizeOf268
 v76:=zeroValue268
 t77:=underlying269
 a77:=isAgg269
 z77:=sizeOf269
 v77:=zeroValue269}
end Go.Proofs
namespace Go.Proofs.YtalmoejhjceflaaGreat
open Go.RowKit Go.Proofs.Tryz
variable {b:Exit->AS->Prop} {n m:Nat} {c:Exit->AS->List PV->Prop} {e:List NItem} {f g:Code} {w:World} {h:List PV} {j:List Nat} {l:TypeId} {o:NItem} {p:Operand} {q:List Int} {x:Int}
section
open Go.Sort (flatK putRowK HoldsK get_flatK size_flatK)
def mQ (b:NItem):List Value:=[.int .i64 b.key,.slice b.at_ b.vals.length b.cap]
theorem As {w:World} {N:Nat} {f:Nat->Value} (h:w.rowIs n m N f) (d:Array Value):(Sort.putRow id w n 0 d).rowIs n m N (fun k=>if k<d.size then d[k]! else f k):=by
 obtain⟨c,e,b,j⟩:=h;refine⟨Sort.putCells id 0 d c,?_,by simp[Sort.putCells,b],fun i l=>?_⟩
 ·grind [Sort.putRow,Sort.mapBlock,Sort.onCells]
 grind [Sort.putCells]
theorem An (w:World) (g:Nat) (d:Array Value) (k:Nat) (b:k≠g):(Sort.putRow id w g 0 d).heap[k]?=w.heap[k]?:=by
 grind [Sort.putRow,Sort.mapBlock]
section
variable {α:Type} [Inhabited α] (enc:α->List Value) (w:World) (g n:Nat) (d:Array α) (os:Array Obj)
theorem C7:w.grownBy (sortWorldK enc 2 w g 0 n d os) (some g):=by
 unfold sortWorldK putRowK;refine⟨rfl,rfl,rfl,?_,fun k c b=>?_⟩
 ·simp
 show((Sort.putRow id (Sort.ahead w n) g 0 _).heap++os)[k]?=w.heap[k]?;rw[X8 (by simp_all),An _ _ _ _ (fun e=>b (by rw[e]))];rfl
theorem JT {N:Nat} {f:Nat->Value} (h:w.rowIs g m N f):(sortWorldK enc 2 w g 0 n d os).rowIs g m N (fun k=>if k<(flatK enc 2 d).size then(flatK enc 2 d)[k]! else f k):=by
 have b:=As (w:=Sort.ahead w n) h (flatK enc 2 d);refine b.of_block ?_;unfold sortWorldK putRowK;show((Sort.putRow id (Sort.ahead w n) g 0 _).heap++os)[g]?=_;rw[X8 b.lt]
end
structure sV (w:World) (g:Nat) where
 it:NItem
 ok:ItemOk w g it
instance (w:World) (g:Nat):Inhabited (sV w g):=⟨⟨⟨0,[],none,0⟩,⟨RdI.nil _ _ _,(by simp),by simp⟩⟩⟩
def sn (w:World) (g:Nat) (x:sV w g):List Value:=mQ x.it
def pB (w:World) (g:Nat) (L:List NItem) (h: ∀b∈L,ItemOk w g b):Array (sV w g):=(L.attach.map fun x=>(⟨x.1,h x.1 x.2⟩:sV w g)).toArray
theorem lK (h: ∀b∈e,ItemOk w n b):(pB w n e h).size=e.length:=by
 grind [pB]
theorem uF (h: ∀b∈e,ItemOk w n b):(pB w n e h).toList.map (fun x:sV w n=>x.it)=e:=by
 simp_all[pB]
theorem GK (d:Array (sV w n)) {j:Nat} {it:NItem} (c:(d.toList.map (fun x:sV w n=>x.it))[j]?=some it):
  (flatK (sn w n) 2 d)[j*2]! = .int .i64 it.key/\(flatK (sn w n) 2 d)[j*2+1]! =it.val:=by
 have b:j<d.size:=by grind
 grind [get_flatK,sn,mQ,NItem.val]
theorem zI (p:ue w n m e) (h: ∀b∈e,ItemOk w n b):HoldsK (sn w n) 2 w n 0 (pB w n e h):=by
 obtain⟨f,l,u,o⟩:=p;intro t s;rw[size_flatK,lK]at s;have r:t/2<e.length:=by omega
 obtain⟨b,c⟩:=getElem?_of_lt r;have q:=GK (pB w n e h) (j:=t/2) (it:=b) (by grind [uF]);obtain⟨v,x⟩:=o _ _ c;rw[Yw];refine⟨?_,l.frozen t⟩;rw[l.cell (by omega)];grind
theorem ItemOk.sortW {d:Array (sV w n)} {b:Array Obj} (h:ItemOk w n o):ItemOk (sortWorldK (sn w n) 2 w n 0 m d b) n o:=h.gb (C7 _ _ _ _ _ _)
theorem Ek (w:World) (g size:Nat):CmpLays prog 132 #[] (sn w g) 2 (fun a b=>jg a.it b.it) g 0 size w:=fun m e dk c x y=>
 j8 x.it.key y.it.key x.it.at_ y.it.at_ x.it.cap y.it.cap x.it.vals y.it.vals _ x.ok.sortW.rd y.ok.sortW.rd x.ok.le y.ok.le
def pn (L:List NItem):Prop:= ∀(i j:Nat) a b,i<j->L[i]?=some a->L[j]?=some b-> ¬jg b a<0
theorem AI (g cap:Nat) (L:List NItem) (w:World) (E:ue w g (cap*2) L) (m:L.length<4611686018427387904) (l: ∀A∈L,ItemOk w g A):
  Calls prog 198 #[.slice (some ⟨g,0,none⟩) L.length cap,.func (Fn.func 132) #[] #[]] w fun e y=>
   ∃p,e= .returned (.tuple #[])/\p.Perm L/\pn p/\ue y g (cap*2) p/\w.grownBy y (some g):=by
 have B: ∀args w,(callFunc 132 args).run prog w= .ok (.enter 132 args) w:=enters_of func132 (by kernel_rfl) rfl;obtain⟨f,q,C,D⟩:=E;have t:=q.lt;have c:=AnyQ.slices_SortFunc (α:=sV w g) Tryz.sortK 2 (fun w=>by kernel_rfl) (fun w=>by kernel_rfl) (sn w g) (fun _=>rfl) (fun x v z=>by simp[sn,mQ]at z;rcases z with rfl|rfl<;>rfl) (fun a b=>jg a.it b.it) (V6 fun x:sV w g=>x.it) 132 #[] g 0 cap (pB w g L l) w B (Ek w g _) (zI ⟨f,q,C,D⟩ l) t (by rw[lK];exact m)
 change Calls prog 198 _ _ _ at c
 rw[lK]at c;refine c.mono fun e y ⟨F,h,n,R,H,J,K⟩=>?_
 obtain⟨o,_,u⟩:=H;rw[lK]at o;have s:(h.toList.map (fun x:sV w g=>x.it)).length=L.length:=by simp[o]
 refine⟨h.toList.map (fun x:sV w g=>x.it),F,?_,?_,?_,by grind [C7]⟩
 ·have I:h.toList.Perm (pB w g L l).toList:=by
   have M:h.extract 0 L.length=h:=by grind
   grind [pB]
  grind [uF]
 ·intro i j a b r P Q;have G:j<h.size:=by grind
  have N:h[i]!.it=a:=by
   grind
  have O:h[j]!.it=b:=by
   grind
  have:=J i j (Yt _) r (by omega);grind [ltOf]
 rw[K];refine⟨_,JT _ _ _ _ _ _ q,by omega,fun j A G=>?_⟩;grind [GK,size_flatK]
theorem NM (sx g cap:Nat) (L:List NItem) (w:World) (hL:ue w g (cap*2) L) (hcap:L.length<=cap) (hlen:L.length<=4611686018427387903) (hok: ∀it∈L,ItemOk w g it)
  (hS:w.rowIs sx 173 2 (fun j=>if j=0 then .slice (some ⟨g,0,none⟩) L.length cap else .func (Fn.func 132) #[] #[])) (hsx:sx≠g):
  Calls prog 136 #[.pointer (some ⟨sx,0,none⟩)] w fun e w'=>
   ∃L',e= .returned (.tuple #[])/\L'.Perm L/\pn L'/\ue w' g (cap*2) (aY L')/\w'.cell? ⟨sx,0,none⟩=some (.slice (some ⟨g,0,none⟩) (aY L').length cap)/\w'.rowIs sx 173 2 (fun j=>if j=0 then .slice (some ⟨g,0,none⟩) (aY L').length cap else .func (Fn.func 132) #[] #[])/\
    (∀k,k<w.heap.size->k≠g->k≠sx->w'.heap[k]?=w.heap[k]?)/\w.heap.size<=w'.heap.size/\w'.os=w.os/\w'.tape=w.tape/\w'.output=w.output:=by
 have HL:=XL hL;have HOK:=XL hok;have HS:=XL hS;have HN:=XL hsx;have hglt:g<w.heap.size:=by obtain⟨f,h1,_⟩:=hL;exact h1.lt
 have hslt:=hS.lt;clear hL hok hS hsx
 go_enter func136,ntmps136
 go_wp2_with fail
 have c0:(w.alloc (.cells #[.pointer (some ⟨sx,0,none⟩)] 237)).drew.cell? ⟨w.heap.size,0,none⟩=some (.pointer (some ⟨sx,0,none⟩)):=by go_simp
 have HE0:Hid (Ext w (w.alloc (.cells #[.pointer (some ⟨sx,0,none⟩)] 237)).drew):=XL ((Ext.refl _).alloc _).drew;have hz0:w.heap.size<(w.alloc (.cells #[.pointer (some ⟨sx,0,none⟩)] 237)).drew.heap.size:=by simp[World.drew]
 generalize w.alloc (.cells #[.pointer (some ⟨sx,0,none⟩)] 237)=w1 at*
 refine cq 8 (by kernel_rfl) (by kernel_rfl) ?_;simp only[Zk,Z8,Zt,Zs];generalize w1.drew=w2 at*
 have s0:w2.cell? ⟨sx,0,none⟩=some (.slice (some ⟨g,0,none⟩) L.length cap):=(cn HS.out HE0.out).cell (by omega);have s1:w2.cell? ⟨sx,1,none⟩=some (.func (Fn.func 132) #[] #[]):=(cn HS.out HE0.out).cell (by omega)
 iterate 8 still_step
 refine wpStill_nil ?_;have HC:=XL (AI g cap L w2 (HL.out.ext HE0.out) (by omega) (fun it hit=>(HOK.out it hit).ext HE0.out));clear s1
 go_wp2_with fail
 refine HC.out.mono ?_;rintro e w3 ⟨L',rfl,hperm,hsorted,hlst,hgb⟩;have HP:=XL hperm;have HSO:=XL hsorted;have HLS:=XL hlst;have HG3:=XL hgb;have HLL:Hid (L'.length=L.length):=XL hperm.length_eq;clear hperm hsorted hlst hgb HC s0
 go_wp2_with fail
 have HOK3:Hid (∀it∈L',ItemOk w3 g it):=XL (fun it hit=>((HOK.out it (HP.out.subset hit)).ext HE0.out).gb HG3.out);have HS3:Hid (w3.rowIs sx 173 2 (fun j=>if j=0 then .slice (some ⟨g,0,none⟩) L.length cap else .func (Fn.func 132) #[] #[])):=XL ((cn HS.out HE0.out).of_block (HG3.out.block sx (XZ hslt HE0.out.size) (fun e=>HN.out (by injection e))));have d0:w3.cell? ⟨w.heap.size,0,none⟩=some (.pointer (some ⟨sx,0,none⟩)):=nJ HG3.out c0 (by grind);have d1:w3.cell? ⟨sx,0,none⟩=some (.slice (some ⟨g,0,none⟩) L.length cap):=HS3.out.cell (by omega);have d2:w3.frozen? ⟨sx,0,none⟩=false:=HS3.out.frozen 0;have hcon:=s7 g cap L' w.heap.size sx 0 w3.drew (HLS.out.ext ((Ext.refl _).drew)) (by rw[HLL.out];exact hcap) (by rw[HLL.out];omega) (fun it hit=>(HOK3.out it hit).ext ((Ext.refl _).drew)) d0 (show w3.drew.cell? ⟨sx,0+1,none⟩=_ from HS3.out.cell (i:=1) (by omega)) (by omega) HN.out;rw[HLL.out]at hcon;have HC:=XL hcon;clear hcon c0;have HG4:Hid (w2.grownBy w3.drew (some g)):=XL (iO HG3.out (eJ ((Ext.refl _).drew) g))
 go_region_law (go_simp;go_at_call 199;refine HC.out.mono ?_;rintro e w5 ⟨rfl,hlst,hgb⟩;have HLS5:=XL hlst;have HG5:=XL hgb;have HS5:Hid (w5.rowIs sx 173 2 (fun j=>if j=0 then .slice (some ⟨g,0,none⟩) L.length cap else .func (Fn.func 132) #[] #[])):=XL (HS3.out.of_block (hgb.block sx HS3.out.lt (fun e=>HN.out (by injection e))));have f0:w5.cell? ⟨w.heap.size,0,none⟩=some (.pointer (some ⟨sx,0,none⟩)):=nJ hgb d0 (by show w.heap.size≠g;omega);have f1:w5.cell? ⟨sx,0,none⟩=some (.slice (some ⟨g,0,none⟩) L.length cap):=HS5.out.cell (by omega);have f2:w5.frozen? ⟨sx,0,none⟩=false:=HS5.out.frozen 0;clear hlst hgb)
 all_goals
  go_wp2_with fail
  go_end0
  have hrow:=(HS5.out.set 0 (.slice (some ⟨g,0,none⟩) (aY L').length cap)).congr (g:=fun j=>if j=0 then .slice (some ⟨g,0,none⟩) (aY L').length cap else .func (Fn.func 132) #[] #[]) (fun j hj=>by
   match j,hj with
   |0,_=>rfl
   |1,_=>rfl)
  have hgg:=iO (iO (eJ HE0.out g) HG4.out) HG5.out;refine⟨L',rfl,HP.out,HSO.out,?_,hrow.cell (by omega),hrow,fun k hk hkg hks=>?_,?_,hgg.os,hgg.tape,hgg.output⟩
  ·obtain⟨f,q1,q2,q3⟩:=HLS5.out;exact⟨f,q1.setOther (Zl HN.out) _,q2,q3⟩
  ·rw[aaS _ _ _ _ hks];exact hgg.block k hk (fun e=>hkg (by injection e))
  simpa[World.setCell] using hgg.size
end
theorem AJ (w:World):
  Calls prog 198 #[.slice none 0 0,.func (Fn.func 132) #[] #[]] w fun e w'=>e= .returned (.tuple #[])/\ ∃n,w'=w.drewN n:=by
 have hl: ∀w,Calls prog 127 #[.int .u64 0] w fun e w'=>e= .returned (.int .i64 0)/\w=w':=fun w=>by
  go_enter func127,ntmps127
  go_wp2
  go_ret
  refine⟨?_,rfl⟩;show Ending.returned (.int .i64 (wrap64 (wrap64 (Lib.len8 0))))=_;rw[show Lib.len8 0=0 from by rfl,ZY 0 ⟨by omega,by omega⟩,ZY 0 ⟨by omega,by omega⟩]
 have hi: ∀w,Calls prog 244 #[.slice none 0 0,.int .i64 0,.int .i64 0,.func (Fn.func 132) #[] #[]] w fun e w'=>e= .returned (.tuple #[])/\w=w':=fun w=>by
  go_enter func244,ntmps244
  go_wp2
  refine wp_loop_rounds 1 ?_;rw[rounds_succ]
  go_wp2
  go_end0
  simp
 have hp: ∀w,Calls prog 229 #[.slice none 0 0,.int .i64 0,.int .i64 0,.int .i64 0,.func (Fn.func 132) #[] #[]] w fun e w'=>e= .returned (.tuple #[])/\w=w':=fun w=>by
  have HI:=XL hi;clear hi hl
  go_enter func229,ntmps229
  go_wp2_with fail
  refine wp_loop_rounds 1 ?_;rw[rounds_succ]
  go_wp2_with (go_at_call 244;refine(HI.out _).mono ?_;rintro e w' ⟨rfl,rfl⟩)
  refine bodyPost_ret (results_none rfl _ _ _) rfl ?_
  simp
 have HP:=XL hp;have HLn:=XL hl;clear hp hl hi
 go_enter func198,ntmps198
 go_wp2_with (first|(go_at_call 127;refine(HLn.out _).mono ?_;rintro e w' ⟨rfl,rfl⟩)|(go_at_call 229;refine(HP.out _).mono ?_;rintro e w' ⟨rfl,rfl⟩))
 go_end0
 exact⟨rfl,0,rfl⟩
theorem s8 (w:World) (fv:Value):
  Calls prog 199 #[.slice none 0 0,fv] w fun e w'=>e= .returned (.slice none 0 0)/\w=w':=by
 go_enter func199,ntmps199
 go_wp2_with fail
 go_ret
 simp
theorem NN (sx:Nat) (w:World) (hS:w.rowIs sx 173 2 (fun j=>if j=0 then .slice none 0 0 else .func (Fn.func 132) #[] #[])):
  Calls prog 136 #[.pointer (some ⟨sx,0,none⟩)] w fun e w'=>
   e= .returned (.tuple #[])/\w'.cell? ⟨sx,0,none⟩=some (.slice none 0 0)/\
    (∀k,k<w.heap.size->k≠sx->w'.heap[k]?=w.heap[k]?)/\w.heap.size<=w'.heap.size/\w'.os=w.os/\w'.tape=w.tape/\w'.output=w.output:=by
 have HS:=XL hS;have hslt:=hS.lt;clear hS
 go_enter func136,ntmps136
 go_wp2_with fail
 have c0:(w.alloc (.cells #[.pointer (some ⟨sx,0,none⟩)] 237)).drew.cell? ⟨w.heap.size,0,none⟩=some (.pointer (some ⟨sx,0,none⟩)):=by go_simp
 have HE0:Hid (Ext w (w.alloc (.cells #[.pointer (some ⟨sx,0,none⟩)] 237)).drew):=XL ((Ext.refl _).alloc _).drew;generalize w.alloc (.cells #[.pointer (some ⟨sx,0,none⟩)] 237)=w1 at*
 refine cq 8 (by kernel_rfl) (by kernel_rfl) ?_;simp only[Zk,Z8,Zt,Zs];generalize w1.drew=w2 at*
 have s0:w2.cell? ⟨sx,0,none⟩=some (.slice none 0 0):=(cn HS.out HE0.out).cell (by omega);have s1:w2.cell? ⟨sx,1,none⟩=some (.func (Fn.func 132) #[] #[]):=(cn HS.out HE0.out).cell (by omega)
 iterate 8 still_step
 refine wpStill_nil ?_;have HC:=XL (AJ w2);clear s1
 go_wp2_with fail
 refine HC.out.mono ?_;rintro e w3 ⟨rfl,n,rfl⟩;have HE3:=XL (HE0.out.drewN n);have d0:(w2.drewN n).cell? ⟨w.heap.size,0,none⟩=some (.pointer (some ⟨sx,0,none⟩)):=c0;have d1:(w2.drewN n).cell? ⟨sx,0,none⟩=some (.slice none 0 0):=s0;have d2:(w2.drewN n).frozen? ⟨sx,0,none⟩=false:=(cn HS.out HE3.out).frozen 0;clear HC s0 c0 HE0;generalize w2.drewN n=w3 at*
 have HC:Hid (∀(w:World) (fv:Value),Calls prog 199 #[.slice none 0 0,fv] w fun e w'=>e= .returned (.slice none 0 0)/\w=w'):=XL s8
 go_wp2_with fail
 go_region_law (go_simp;go_at_call 199;refine(HC.out _ _).mono ?_;rintro e w5 ⟨rfl,rfl⟩)
 all_goals
  go_wp2_with fail
  go_end0
  refine⟨rfl,?_,fun k hk hks=>?_,?_,HE3.out.os,HE3.out.tape,HE3.out.output⟩
  ·exact(((cn HS.out HE3.out).drew.set 0 (.slice none 0 0)).cell (i:=0) (by omega))
  ·show((w3.drew.setCell ⟨sx,0,none⟩ (.slice none 0 0)).heap[k]?)=_;rw[aaS _ _ _ _ hks];exact HE3.out.block k hk
  have:=HE3.out.size;simpa[World.setCell,World.drew] using this
theorem Tryz.infoKeyed:(prog.info? 177).map (fun i=>(i.zero,i.size,i.bytes))=some (some (.agg #[.int .i64 0,.slice none 0 0]),2,32):=by kernel_rfl
def sG (b:List (List Int)) (x:List Int):Option Int:=
 if -4611686018427387904<=eZ x (fc b x) x.length/\eZ x (fc b x) x.length<=4611686018427387904 then some (eZ x (fc b x) x.length)else none
def mU (b:List (List Int)) (x:List Int):Option (Int×List Int):=
 if wY b.length x then(match sG b x,ip x with
  |some k,some y=>some (k,y)
  |_,_=>none)else none
def fE (c:List (List Int)):List (List Int)->Option (List (Int×List Int))
 |[]=>some []
 |x::l=>match mU c x,fE c l with
  |some a,some b=>some (a::b)
  |_,_=>none
theorem kh {b:List (List Int)}: ∀{l:List (List Int)} {k:Nat} {x:List Int},l[k]?=some x->mU b x=none->fE b l=none
 |[],_,_,h,_=>by simp at h
 |a::l,0,x,h,c=>by grind [fE]
 |a::l,k+1,x,h,c=>by
  simp at h;have:=kh h c;simp[fE,this]
def NItem.dat (b:NItem):Int×List Int:=(b.key,b.vals)
theorem sD {rows:List (List Int)}: ∀{l:List (List Int)} {L:List NItem},L.length=l.length->(∀(j:Nat) (b:NItem),L[j]?=some b-> ∃x,l[j]?=some x/\mU rows x=some b.dat)->fE rows l=some (L.map NItem.dat)
 |[],[],_,_=>rfl
 |[],_::_,h,_=>by simp at h
 |_::_,[],h,_=>by simp at h
 |x::l,b::L,h,e=>by
  have f:=e 0 b rfl;simp at f;have g:=sD (rows:=rows) (l:=l) (L:=L) (by grind) (fun j c m=>by
   obtain⟨y,n,o⟩:=e (j+1) c (by grind);grind)
  grind [fE]
def lV (L:List NItem):List Value:=L.flatMap mQ
theorem Cg (L:List NItem) (b:NItem):lV L++mQ b=lV (L++[b]):=by simp[lV]
theorem x6: ∀{L:List NItem} {j:Nat} {b:NItem},L[j]?=some b->(lV L)[j*2]?=some (.int .i64 b.key)/\(lV L)[j*2+1]?=some b.val
 |[],_,_,h=>by simp at h
 |a::L,0,b,h=>by grind [lV,mQ,NItem.val]
 |a::L,j+1,b,h=>by
  simp at h;obtain⟨c,e⟩:=x6 h;grind [lV,mQ]
theorem E7 (c:NItem): ∀u∈mQ c,u.oneCell'=true:=by
 intro u b;simp[mQ]at b;rcases b with rfl|rfl<;>rfl
def V0 (v:Value):Nat->Value:=fun j=>if j=0 then v else .func (Fn.func 132) #[] #[]
def Vk (w:World) (c:Nat) (v:Value) (b:NItem):Prop:=RdI .i64 w b.at_ b.vals/\(b.vals.length<=9223372036854775807/\b.vals.length<=b.cap)/\ ∀p,b.at_=some p->v.ownBlock≠some p.block/\c<p.block/\p.block<w.heap.size
def O7 (k:Nat) (w:World) (A:Option Addr) (M:List (List Int)):Prop:=M.length<=65536/\ ∃b,A=some ⟨b,0,none⟩/\k<=b/\b<w.heap.size/\ ∀(i:Nat) r,M[i]?=some r-> ∃e c,w.cell? ⟨b,i,none⟩=some (.slice e r.length c)/\r.length<=c/\r.length<=9223372036854775807/\RdI .i64 w e r/\ ∀p,e=some p->k<=p.block/\p.block<w.heap.size
def DP (c:Nat) (b:World) (r:Option (List (Int×List Int))) (e:Ending):Prop:=match r with
 |none=>e= .returned (.tuple #[.slice none 0 0,.bool false])
 |some f=> ∃L:List NItem,(L.map NItem.dat).Perm f/\pn L/\ ∃A,e= .returned (.tuple #[.slice A (aY L).length (aY L).length,.bool true])/\qR .i64 b A ((aY L).map NItem.vals)/\O7 c b A ((aY L).map NItem.vals)
theorem IM {b:List (List Int)} {k:Int} (h:sG b q=some k):BY (eZ q (fc b q) q.length)= .tuple #[.int .i64 k,.bool true]:=by
 grind [sG,BY]
theorem IL {b:List (List Int)} (h:sG b q=none):BY (eZ q (fc b q) q.length)= .tuple #[.int .i64 0,.bool false]:=by
 grind [sG,BY]
theorem oL: ∀{l:List NItem} {p c:NItem},c∈df p l->c∈l
 |[],_,_,h=>by simp[df]at h
 |b::l,p,c,h=>by
  unfold df at h;split at h
  ·exact YR _ (oL h)
  rcases Yo.1 h with rfl|h
  ·simp
  exact YR _ (oL h)
theorem sk (h:o∈aY e):o∈e:=by
 cases e with
 |nil=>simp[aY]at h
 |cons a l=>
  grind [aY,oL]
theorem uS: ∀(l:List NItem) (p:NItem),(df p l).length<=l.length
 |[],_=>by simp[df]
 |b::l,p=>by
  unfold df;have:=uS l b;grind
theorem BO (L:List NItem):(aY L).length<=L.length:=by
 cases L with
 |nil=>simp[aY]
 |cons a l=>grind [uS,aY]
def M5 (L:List NItem) (m:Nat):Nat->Value:=fun j=>if j<m then(match L[j]? with|some b=>b.val|none=>undef)else .slice none 0 0
theorem wJ (A B:Option Addr) (c d:Nat) (rows l:List (List Int)) (w:World) (hR:qR .i64 w A rows) (hl:qR .i64 w B l) (lr:rows.length<=9223372036854775807) (hc:rows.length<=c) (ll:l.length<=65536):
  Calls prog 89 #[.slice A rows.length c,.slice B l.length d] w fun e w'=>DP w.heap.size w' (if isReducedM rows then fE rows l else none) e/\Ext w w':=by
 have HR:=XL hR;have HL:=XL hl;clear hR hl;cases hI:isReducedM rows with
 |false=>
  have HV:Hid ((if isReducedM rows then fE rows l else none)=none):=XL (by simp[hI])
  go_enter func89,ntmps89
  go_wp2_with (go_at_call 36;refine(kC A c rows _ HR.out lr hc).mono ?_;rintro e w1 ⟨rfl,he⟩)
  go_ret2
  exact⟨rfl,he⟩
 |true=>
  have HSm:=XL (ir hI);have h8:rows.length<=8:=HSm.out.2.1
  go_enter func89,ntmps89
  go_wp2_with (go_at_call 36;refine(kC A c rows _ HR.out lr hc).mono ?_;rintro e w1 ⟨rfl,he⟩;have HE:=XL he;clear he)
  clear hI;obtain⟨wo,rfl⟩: ∃wo:World,wo=w1:=⟨_,rfl⟩
  go_loopw [22,8,9,10,11,12] (fun i _ _ _ _ _ wr=> ∃(k:Nat) (L:List NItem) (v:Value),k<=l.length/\i= .int .i64 k/\Hid (L.length=k/\(k=0->v= .slice none 0 0))/\Hid (∀(j:Nat) (it:NItem),L[j]?=some it-> ∃x,l[j]?=some x/\mU rows x=some it.dat)/\Hid (wr.ownsRow (wo.heap.size+1) 177 2 v k (lV L))/\Hid (wr.rowIs wo.heap.size 173 2 (V0 v))/\Hid (Ext wo wr)/\Hid (∀it∈L,Vk wr wo.heap.size v it)) (fun i _ _ _ _ _ _=>l.length-(intOf i).toNat)
  case atStart=>
   refine⟨0,[],.slice none 0 0,Yt _,rfl,XL ⟨rfl,fun _=>rfl⟩,XL (by simp),XL (aah _ _ _ _),XL ?_,XL ?_,XL (by simp)⟩
   ·refine aa7 wo #[.slice none 0 0,.func (Fn.func 132) #[] #[]] _ _ (fun i hi=>?_)
    match i,hi with
    |0,_=>rfl
    |1,_=>rfl
   exact(Ext.refl _).alloc _
  case round=>
   obtain⟨k,L,v,hk,rfl,HLen,HIt,HOwn,HRow,HE2,HIV⟩:=hrel;by_cases hlt:k<l.length
   ·obtain⟨x,hx⟩:=getElem?_of_lt hlt;obtain⟨b,off,BX,cx,rfl,hcx,hcxl,hlx,hrx⟩:=((HL.out.ext HE.out).ext HE2.out).at_ hx;have HX:=XL hx;have HRX:=XL hrx;clear hx hrx;cases hF:wY rows.length x with
    |false=>
     have HN:Hid (fE rows l=none):=XL (kh HX.out (by grind [mU]))
     go_wp2_with (go_at_call 116;refine(Cf rows.length BX cx x _ HRX.out hlx).mono ?_;rintro e w2 ⟨rfl,rfl⟩)
     go_ret2
     exact⟨by rw[HN.out];rfl,HE.out.trans HE2.out⟩
    |true=>
     obtain⟨hxl,hxb⟩:=pj.1 hF;have hxle:x.length<=rows.length:=by omega
     have hxge:rows.length<=x.length:=by omega
     have HXB:=XL hxb;have HF:=XL hF;have HA:=XL (It HSm.out hxb);have HAL:=XL (w8 rows x);clear hxl hxb
     go_wp2_with (go_at_call 116;refine(Cf rows.length BX cx x _ HRX.out hlx).mono ?_;rintro e w2 ⟨rfl,rfl⟩)
     clear hF;refine(Iu A BX c cx rows x _ ((HR.out.ext HE.out).ext HE2.out) HRX.out (by omega) (fun i hi=>by rw[HSm.out.2.2.1 i hi];exact hxge) hlx).mono ?_;rintro e w3 ⟨rfl,hrd,he3⟩;have hcon:=PN BX (some ⟨wr.heap.size,0,none⟩) cx rows.length x (fc rows x) w3 (HRX.out.ext he3) hrd (by rw[HAL.out];exact hxle) (by omega) (by rw[HAL.out];omega) (fun i z hz=>lC HXB.out hz) HA.out;rw[HAL.out]at hcon;have HC:=XL hcon;have HE3:=XL he3;clear hcon hrd he3
     go_wp2_with fail
     cases hN:sG rows x with
     |none=>
      have hno:=HC.out;rw[IL hN]at hno;have HNone:Hid (fE rows l=none):=XL (kh HX.out (by unfold mU;simp_all));refine hno.mono ?_;rintro e w4 ⟨rfl,he4⟩;have HE4:=XL (HE3.out.trans he4);clear he4 hno HC hN
      go_wp2_with fail
      refine(j7 BX cx x _ (HRX.out.ext HE4.out) (by omega)).mono ?_;rintro e w5 ⟨hcv,he5⟩;have HE5:=XL (((HE.out.trans HE2.out).trans HE4.out).trans he5);clear he5;have hform: ∃va vb,e= .returned (.tuple #[va,.bool vb]):=by
       unfold Lv at hcv;split at hcv
       ·simp_all
       obtain⟨A',c',h,_⟩:=hcv;simp_all
      obtain⟨va,vb,rfl⟩:=hform;clear hcv
      go_wp2_with fail
      go_ret2
      exact⟨by rw[HNone.out];rfl,HE5.out⟩
     |some key=>
      have hno:=HC.out;rw[IM hN]at hno;refine hno.mono ?_;rintro e w4 ⟨rfl,he4⟩;have HE4:=XL (HE3.out.trans he4);have HNo:=XL hN;clear he4 hno HC hN
      go_wp2_with fail
      refine(j7 BX cx x _ (HRX.out.ext HE4.out) (by omega)).mono ?_;rintro e w5 ⟨hcv,he5⟩;have HE5:=XL (HE4.out.trans he5);clear he5;cases hS:ip x with
      |none=>
       have HNone:Hid (fE rows l=none):=XL (kh HX.out (by unfold mU;simp_all));rw[hS]at hcv;obtain rfl:=hcv;clear hS
       go_wp2_with fail
       go_ret2
       exact⟨by rw[HNone.out];rfl,(HE.out.trans HE2.out).trans HE5.out⟩
      |some y=>
       rw[hS]at hcv;obtain⟨AY,cy,rfl,hcy,hry,hby⟩:=hcv;have HIO:Hid (mU rows x=some (key,y)):=XL (by unfold mU;rw[HF.out,HNo.out,hS];rfl);have HRY:=XL hry;have HBY:=XL hby;have HYL:Hid (y.length=x.length):=XL (by
        unfold ip at hS;split at hS
        ·split at hS
         ·cases hS
         cases hS;split<;>simp
        cases hS)
       clear hS hry hby;have HO5:=XL (CL HOwn.out HE5.out);have HR5:=XL (cn HRow.out HE5.out);have t0:w5.cell? ⟨wo.heap.size,0,none⟩=some v:=HR5.out.cell (by omega);have t1:w5.frozen? ⟨wo.heap.size,0,none⟩=false:=HR5.out.frozen 0;have hslt:wo.heap.size<w5.heap.size:=HR5.out.lt;have HRd:Hid (Rd (w5.alloc (.cells #[.int .i64 key,.slice AY y.length cy] 177)) (some ⟨w5.heap.size,0,none⟩) (mQ ⟨key,y,AY,cy⟩)):=XL (fun _=>⟨w5.heap.size,0,rfl,fun i u hu=>by
        simp_all[mQ]⟩)
       go_wp2_with (at_builtin;refine iA _ rfl (.tmp 51) (.tmp 55) _ rfl (wo.heap.size+1) 177 (.agg #[.int .i64 0,.slice none 0 0]) 2 32 underlying171 Tryz.infoKeyed rfl (by omega) v k (lV L) rfl (HO5.out.alloc _) (some ⟨w5.heap.size,0,none⟩) 1 1 _ rfl HRd.out rfl (E7 _) (by simp only[maxLen];omega) (by omega) (by simp;omega) ?_;intro v6 w6 hown6 hg6 hb6;have HO6:=XL hown6;have HG6:=XL hg6;have HB6:=XL hb6;have hz6:w5.heap.size+1<=w6.heap.size:=(by have:=hg6.size;simpa using this);have s0:w6.cell? ⟨wo.heap.size,0,none⟩=some v:=(by refine hg6.cell (a:=⟨wo.heap.size,0,none⟩) (by rw[aaJ _ _ _ hslt];exact t0) (fun e=>?_);have:=(HO5.out.lt _ e.symm).1;simp at this;omega);have s1:w6.frozen? ⟨wo.heap.size,0,none⟩=false:=(by rw[abh (hg6.block wo.heap.size (by simp;omega) (fun e=>by have:=(HO5.out.lt _ e.symm).1;omega))];rw[abh (aak _ _ _ hslt)];exact t1);obtain⟨g6,cap6,f6,rfl,_,_,_,_,_⟩:=vT hown6 (by omega);clear hown6 hg6 hb6 t0 t1)
       go_roundw
       case rel=>
        have hne: ∀j,v.ownBlock=some j->wo.heap.size+1<=j:=fun j hj=>(HO5.out.lt j hj).1
        have hw5:Ext wo (w5.alloc (.cells #[.int .i64 key,.slice AY y.length cy] 177)):=(HE2.out.trans HE5.out).alloc _;have hw6:Ext wo w6:=hw5.grown HG6.out (fun j hj=>by grind);have hr6:w6.rowIs wo.heap.size 173 2 (V0 v):=(HR5.out.alloc _).of_block (HG6.out.block wo.heap.size (by simp;omega) (fun e=>by have:=hne _ e.symm;omega));refine⟨k+1,L++[⟨key,y,AY,cy⟩],.slice (some ⟨g6,0,none⟩) (k+1) cap6,by omega,by go_num,XL ⟨by simp[HLen.out.1],fun h=>by omega⟩,XL (fun j it hj=>?_),XL ?_,XL ?_,XL (hw6.setCell (XY _) _),XL (fun it hit=>?_)⟩
        ·rcases aad j L.length with h|h
         ·rw[XS h]at hj;exact HIt.out j it hj
         rw[XW h]at hj;have hj0:j-L.length=0:=by
          grind
         rw[hj0]at hj;simp at hj;subst hj;have:j=k:=by have:=HLen.out.1;omega
         subst this;exact⟨x,HX.out,HIO.out⟩
        ·rw[<- Cg];exact ownsRow_setCell_below HO6.out (by simp) _
        ·exact(hr6.set 0 _).congr (fun j hj=>by
          match j,hj with
          |0,_=>rfl
          |1,_=>rfl)
        rcases YK.1 hit with h|h
        ·obtain⟨q1,q2,q3⟩:=HIV.out it h;have r5:RdI .i64 (w5.alloc (.cells #[.int .i64 key,.slice AY y.length cy] 177)) it.at_ it.vals:=q1.ext (HE5.out.alloc _);have hsz:=HE5.out.size;refine⟨fun hn=>?_,q2,fun p hp=>?_⟩
         ·obtain⟨b',off',hb',hc'⟩:=r5 hn;obtain⟨q4,q5,q6⟩:=q3 _ hb';refine⟨b',off',hb',fun i u hu=>?_⟩;rw[aaZ _ _ _ _ (fun e=>by grind)];exact HG6.out.cell (hc' i u hu) (fun e=>q4 e.symm)
         obtain⟨q4,q5,q6⟩:=q3 p hp;refine⟨fun e=>?_,q5,by grind [World.setCell]⟩;rcases HB6.out with h6|h6
         ·grind
         rw[h6]at e;injection e with e
         simp at e;omega
        simp at h;subst h;have r5:RdI .i64 (w5.alloc (.cells #[.int .i64 key,.slice AY y.length cy] 177)) AY y:=HRY.out.ext ((Ext.refl _).alloc _);have hsz:=HE4.out.size;have hs2:=HE2.out.size;have hrl:=HRow.out.lt;have ho:=HOwn.out;have q3: ∀p,AY=some p->v.ownBlock≠some p.block/\wo.heap.size<p.block/\p.block<w5.heap.size:=fun p hp=>by
         obtain⟨h1,h2⟩:=HBY.out p hp;refine⟨fun e=>?_,by omega,h2⟩;have:=(ho.lt _ e).2;omega
        refine⟨fun hn=>?_,⟨by show y.length<=_;rw[HYL.out];omega,hcy⟩,fun p hp=>?_⟩
        ·obtain⟨b',off',hb',hc'⟩:=r5 hn;obtain⟨q4,q5,q6⟩:=q3 _ hb';refine⟨b',off',hb',fun i u hu=>?_⟩;rw[aaZ _ _ _ _ (fun e=>by grind)];exact HG6.out.cell (hc' i u hu) (fun e=>q4 e.symm)
        obtain⟨q4,q5,q6⟩:=q3 p hp;refine⟨fun e=>?_,q5,by grind [World.setCell]⟩;rcases HB6.out with h6|h6
        ·grind
        rw[h6]at e;injection e with e
        simp at e;omega
       grind [intOf]
   have hkl:k=l.length:=by omega
   have HIO:Hid (fE rows l=some (L.map NItem.dat)):=XL (sD (by rw[HLen.out.1,hkl]) HIt.out);by_cases hk0:0<k
   ·obtain⟨g,cap,f,rfl,hcap,hcm,hg,hrow,hf⟩:=vT HOwn.out hk0;have HLst:Hid (ue wr g (cap*2) L):=XL ⟨f,hrow,by rw[HLen.out.1];omega,fun j it hj=>by
     simp_all[x6]⟩
    have HIV2:=XL HIV.out;have hcon:=NM wo.heap.size g cap L wr HLst.out (by rw[HLen.out.1];exact hcap) (by rw[HLen.out.1];omega) (fun it hit=>by
     obtain⟨q1,q2,q3⟩:=HIV.out it hit;exact⟨q1,fun p hp e=>(q3 p hp).1 (by simp[Value.ownBlock,e]),q2.1⟩) (by rw[HLen.out.1];exact HRow.out) (by omega)
    have HC:=XL hcon;have hglt:=hrow.lt;have hslt:=HRow.out.lt;clear hcon hf hrow hkl
    go_wp2_with fail
    refine HC.out.mono ?_;rintro e w5 ⟨L',rfl,hperm,hsort,hlst,hcell,hrow5,hblk,hsz,h1,h2,h3⟩;have HP:=XL hperm;have HSo:=XL hsort;have HL5:=XL hlst;have HE5:Hid (Ext wo w5):=XL ⟨h1.trans HE2.out.os,h2.trans HE2.out.tape,h3.trans HE2.out.output,XQ HE2.out.size hsz,fun j hj=>by
     rw[hblk j (XZ hj HE2.out.size) (by omega) (by omega)];exact HE2.out.block j hj⟩
    have HIt5:Hid (∀it∈aY L',Vs .i64 w5 it.val it.vals):=XL (fun it hit=>by
     obtain⟨q1,q2,q3⟩:=HIV.out it (hperm.subset (sk hit));refine⟨it.at_,it.cap,rfl,q2.2,q2.1,fun hn=>?_⟩;obtain⟨b',off',hb',hc'⟩:=q1 hn;obtain⟨r1,r2,r3⟩:=q3 _ hb';refine⟨b',off',hb',fun i u hu=>?_⟩;rw[World.cell?_of_block (w:=wr) (hblk b' r3 (fun e=>r1 (by simp[Value.ownBlock,e])) (Nat.ne_of_gt r2))];exact hc' i u hu)
    have HBk:Hid (∀it∈aY L',∀p,it.at_=some p->wo.heap.size<p.block/\p.block<w5.heap.size):=XL (fun it hit p hp=>by
     obtain⟨q1,q2,q3⟩:=HIV.out it (hperm.subset (sk hit));obtain⟨r1,r2,r3⟩:=q3 _ hp;omega)
    have hm:(aY L').length<=65536:=by
     have h1:=BO L';have h2:=hperm.length_eq;rw[HLen.out.1]at h2;omega
    have hmk:=run_make_row' (P:=prog) 26 35 (.slice none 0 0) 24 underlying26 Tryz.infoSlI64 rfl .i64 .i64 (aY L').length (by omega) (by omega);have hcell2: ∀o,(w5.alloc o).cell? ⟨wo.heap.size,0,none⟩=some (.slice (some ⟨g,0,none⟩) (aY L').length cap):=fun o=>by rw[aaJ _ _ _ (by show wo.heap.size<_;omega)];exact hcell
    have HS0:=XL (aaH w5 (.slice none 0 0) (aY L').length 35);clear hperm hsort hlst hrow5 hblk h1 h2 h3 HC
    go_wp2_with fail
    clear hmk hcell2 hcell
    go_loopw [67,14,15] (fun i _ _ wx=> ∃m:Nat,m<=(aY L').length/\i= .int .i64 m/\Hid (wx.rowIs w5.heap.size 35 (aY L').length (M5 (aY L') m))/\Hid (Ext w5 wx)) (fun i _ _ _=>(aY L').length-(intOf i).toNat)
    case atStart=>exact⟨0,Yt _,rfl,XL (HS0.out.congr (fun j _=>by simp[M5])),XL ((Ext.refl _).alloc _)⟩
    case round=>
     clear HS0;obtain⟨wp,rfl⟩: ∃wp:World,wp=wr:=⟨_,rfl⟩;obtain⟨m,hmm,rfl,HO,HX5⟩:=hrel;by_cases hml:m<(aY L').length
     ·obtain⟨it,hit⟩:=getElem?_of_lt hml;have HIT:=XL hit;have t1:=(HL5.out.ext HX5.out).cell0 hit;have t2:=(HL5.out.ext HX5.out).cell1 hit;have hlt5:=HO.out.lt;have t3: ∀o,(wp.alloc o).cell? ⟨w5.heap.size,m,none⟩=some (.slice none 0 0):=fun o=>by
       rw[(HO.out.alloc o).cell hml];simp[M5]
      have t4: ∀o,(wp.alloc o).frozen? ⟨w5.heap.size,m,none⟩=false:=fun o=>(HO.out.alloc o).frozen m
      clear hit
      go_wp2_with fail
      go_roundw
      case rel=>
       refine⟨m+1,by omega,by go_num,XL (((HO.out.set m _).congr (fun j _=>?_)).alloc _),XL ((HX5.out.setCell (XY _) _).alloc _)⟩;unfold M5;by_cases e:j=m
       ·subst e;rw[if_pos rfl,if_pos (by omega),HIT.out];rfl
       rw[if_neg e];by_cases e2:j<m
       ·rw[if_pos e2,if_pos (by omega)]
       rw[if_neg e2,if_neg (by omega)]
      case measure=>simp[intOf];omega
     go_wp2_with fail
     go_ret2
     have hmeq:m=(aY L').length:=by omega
     refine⟨?_,(HE.out.trans HE5.out).trans HX5.out⟩;rw[HIO.out];have hsw:=HE.out.size;have hs5:=HE5.out.size;have hs6:=HX5.out.size;have hnew:O7 w.heap.size wp (some ⟨w5.heap.size,0,none⟩) ((aY L').map NItem.vals):=by
      refine⟨by simp_all,w5.heap.size,rfl,by omega,HO.out.lt,fun i r hr=>?_⟩;rw[XK]at hr;cases hci:(aY L')[i]? with
      |none=>simp_all
      |some it=>
       rw[hci]at hr;simp at hr;subst hr;have hil:=(XN.1 hci).1;have hmem:=XH hci;obtain⟨A1,c1,e1,e2,e3,e4⟩:=(HIt5.out it hmem).ext HX5.out;refine⟨it.at_,it.cap,?_,?_,e3,?_,fun p hp=>?_⟩
       ·rw[HO.out.cell hil];unfold M5;rw[if_pos (by omega),hci];rfl
       ·simp_all[NItem.val]
       ·simp_all[NItem.val]
       have:=HBk.out it hmem p hp;omega
     refine⟨L',HP.out.map NItem.dat,HSo.out,some ⟨w5.heap.size,0,none⟩,rfl,fun _=>⟨w5.heap.size,0,rfl,fun i r hr=>?_⟩,hnew⟩;obtain⟨_,b1,e1,_,_,e2⟩:=hnew;injection e1 with e1
     injection e1 with e1
     subst e1;obtain⟨A1,c1,e3,e4,e5,e6,_⟩:=e2 i r hr;exact⟨_,by rw[Yw];exact e3,A1,c1,rfl,e4,e5,e6⟩
   have hv:=HLen.out.2 (by omega);have hL0:L=[]:=ZG (by rw[HLen.out.1];omega);subst hv hL0;have HC:=XL (NN wo.heap.size wr HRow.out);have hslt:=HRow.out.lt;clear hkl
   go_wp2_with fail
   refine HC.out.mono ?_;rintro e w5 ⟨rfl,hcell,hblk,hsz,h1,h2,h3⟩;have HE5:Hid (Ext wo w5):=XL ⟨h1.trans HE2.out.os,h2.trans HE2.out.tape,h3.trans HE2.out.output,XQ HE2.out.size hsz,fun j hj=>by
    rw[hblk j (XZ hj HE2.out.size) (by omega)];exact HE2.out.block j hj⟩
   have hmk: ∀w:World,(Instr.makeSlice 26 (.int .i64 0) (.int .i64 0)).run prog w= .ok (.slice (some ⟨w.heap.size,0,none⟩) 0 0) (w.alloc (.cells (madeCells #[.slice none 0 0] 0) 35)):=run_make_row' (P:=prog) 26 35 (.slice none 0 0) 24 underlying26 Tryz.infoSlI64 rfl .i64 .i64 0 (by omega) (by omega);have hcell2: ∀o,(w5.alloc o).cell? ⟨wo.heap.size,0,none⟩=some (.slice none 0 0):=fun o=>by rw[aaJ _ _ _ (by show wo.heap.size<_;omega)];exact hcell
   clear hblk h1 h2 h3 HC
   go_wp2_with fail
   refine wp_loop_rounds 1 ?_;rw[rounds_succ]
   go_wp2_with fail
   go_ret2
   refine⟨?_,(HE.out.trans HE5.out).alloc _⟩;rw[HIO.out];exact⟨[],.refl _,(by intro i j a b _ h;simp at h),some ⟨w5.heap.size,0,none⟩,rfl,qR.nil _ _ _,by simp[aY],w5.heap.size,rfl,by have:=HE.out.size;omega,by simp,by simp_all[aY]⟩
instance (a b:Int×List Int):Decidable (xh a b):=inferInstanceAs (Decidable (_\/_))
theorem uP {a:NItem}:jg a o<0↔xh a.dat o.dat:=by unfold jg xh;rw[Gr];rfl
theorem Cb {a:NItem}:uq7 a o=true↔a.dat=o.dat:=by
 unfold uq7 jg;rw[beq_iff_eq,IG];constructor
 ·rintro⟨c,e⟩;exact Prod.ext c e
 intro h;exact⟨congrArg Prod.fst h,congrArg Prod.snd h⟩
theorem sf: ∀{l:List NItem} {p:NItem},(∀(i j:Nat) a b,i<j->(p::l)[i]?=some a->(p::l)[j]?=some b-> ¬jg b a<0)->
  DB ((p::df p l).map NItem.dat)/\ ∀y,y∈(p::df p l).map NItem.dat↔y∈(p::l).map NItem.dat
 |[],p,_=>by simp[df,DB]
 |b::l,p,h=>by
  have n: ∀(i j:Nat) a c,i<j->(b::l)[i]?=some a->(b::l)[j]?=some c-> ¬jg c a<0:=fun i j a c u x m=>h (i+1) (j+1) a c (by omega) (by grind) (by grind)
  obtain⟨s,t⟩:=sf n;have g: ¬jg b p<0:=h 0 1 p b (by omega) rfl rfl;unfold df;split
  ·grind [Cb]
  rename_i e;rw[Cb]at e;refine⟨?_,fun y=>?_⟩
  ·rw[X9];refine Zp.2 ⟨fun y o=>?_,s⟩;rw[t y]at o;obtain⟨c,m,rfl⟩:=XR.1 o;obtain⟨j,z,v⟩:=YZ m;have q: ¬jg c p<0:=h 0 (j+1) p c (by omega) rfl (by grind);rw[uP]at q;by_cases f:xh p.dat c.dat
   ·exact f
   have r:=rD q f;exfalso;have w: ¬jg c b<0:=by
    cases j with
    |zero=>grind
    |succ j=>exact n 0 (j+1) b c (by omega) rfl (by grind)
   rw[uP,r]at w;rw[uP]at g;grind [rD]
  grind
theorem zB {b:List (Int×List Int)} (g:(e.map NItem.dat).Perm b) (c:pn e):(aY e).map NItem.dat=i4 b:=by
 have f:DB ((aY e).map NItem.dat)/\ ∀y,y∈(aY e).map NItem.dat↔y∈e.map NItem.dat:=by
  cases e with
  |nil=>simp[aY,DB]
  |cons a l=>exact sf c
 grind [Gl,yX,yY]
theorem pG {b:List (Int×List Int)} (c:(e.map NItem.dat).Perm b) (f:pn e):(aY e).map NItem.vals=(i4 b).map Prod.snd:=by
 rw[<- zB c f,Y0];rfl
def Xm (c:World) (r:Option (List (Int×List Int))) (e:Ending):Prop:=match r with
 |none=>e= .returned (.tuple #[.slice none 0 0,.bool false])
 |some b=> ∃A,e= .returned (.tuple #[.slice A ((i4 b).map Prod.snd).length ((i4 b).map Prod.snd).length,.bool true])/\qR .i64 c A ((i4 b).map Prod.snd)
def Wx (c:Nat) (f:World) (r:Option (List (Int×List Int))) (e:Ending):Prop:=match r with
 |none=>e= .returned (.tuple #[.slice none 0 0,.bool false])
 |some b=> ∃A,e= .returned (.tuple #[.slice A ((i4 b).map Prod.snd).length ((i4 b).map Prod.snd).length,.bool true])/\O7 c f A ((i4 b).map Prod.snd)
theorem DP.plain {r:Option (List (Int×List Int))} {e:Ending} (h:DP n w r e):Xm w r e/\Wx n w r e:=by
 cases r with
 |none=>exact⟨h,h⟩
 |some g=>
  obtain⟨L,j,l,A,m,f,b⟩:=h;rw[pG j l]at f b;have c:e= .returned (.tuple #[.slice A ((i4 g).map Prod.snd).length ((i4 g).map Prod.snd).length,.bool true]):=by
   grind [pG]
  exact⟨⟨A,c,f⟩,A,c,b⟩
theorem wK (A B:Option Addr) (c d:Nat) (b l:List (List Int)) (w:World) (j:qR .i64 w A b) (n:qR .i64 w B l) (p:b.length<=9223372036854775807) (m:b.length<=c) (o:l.length<=65536):
  Calls prog 89 #[.slice A b.length c,.slice B l.length d] w fun e f=>Wx w.heap.size f (if isReducedM b then fE b l else none) e/\Ext w f:=
 (wJ A B c d b l w j n p m o).mono fun _ _ ⟨g,h⟩=>⟨g.plain.2,h⟩
def eB (x:List Int):Int:=match x.find? (fun c=>c !=0)with|none=>0|some c=>if c<0 then -1 else 1
theorem Fr (x:List Int):eB x=0\/eB x=1\/eB x= -1:=by
 grind [eB]
theorem Ei (h:DD q=true):ip q=if eB q=0 then none else some (q.map fun a=>eB q*a):=by
 unfold ip eB;rw[h];cases e:q.find? (fun c=>c !=0)with
 |none=>simp
 |some c=>
  simp only[if_true];by_cases b:c<0
  ·simp[b]
  simp[b]
def Sa (x:List Int):List Int:=x.map fun a=>eB x*a
theorem rT:eB q=0↔ ∀c∈q,c=0:=by
 grind [eB]
theorem qu (b:x=1\/x= -1):eB (q.map fun a=>x*a)=x*eB q:=by
 unfold eB;rw[List.find?_map];have e:((fun c:Int=>c !=0)∘fun a=>x*a)=fun c:Int=>c !=0:=by
  grind
 grind
theorem PB (b:x=1\/x= -1):Sa (q.map fun a=>x*a)=Sa q:=by
 unfold Sa;rw[qu b,Y0];grind [List.map_congr_left]
section
theorem I7 (h: ¬n=0):n/4294967296<n:=Nat.div_lt_self (by omega) (by omega)
def aq (n:Nat):List Nat:=if n=0 then[]else n%4294967296::aq (n/4294967296)
termination_by n
decreasing_by omega
def fR {b:Type} (f:b->List PV) (r:List b):List PV:=[.sl (ls f r)]
def fZ (z:Int):List PV:=[.raw (.bool (decide (z<0))),.sl (ls fU (aq z.natAbs))]
def cZ (z:Int):List AV:=[.p (.raw (.bool (decide (z<0)))),.p (.sl (ls fU (aq z.natAbs)))]
abbrev tZ (z:Int):TV:= .agg [.p (.raw (.bool (decide (z<0)))),.p (.sl (ls fU (aq z.natAbs)))]
abbrev cL (l:List Nat):TV:= .one (.p (.sl (ls fU l)))
abbrev dZ (M:List (List Int)):TV:= .one (.p (.sl (ls (fR fZ) M)))
abbrev dq (M:List (List Int)):TV:= .one (.p (.sl (ls (fR fI) M)))
abbrev rV (l:List Int):TV:= .one (.p (.sl (ls fI l)))
abbrev OV (l:List Int):TV:= .one (.p (.sl (ls fZ l)))
abbrev AG (l:List Nat):TV:= .one (.p (.sl (ls fN l)))
abbrev tR (n d:Int):TV:= .agg [.p (.raw (.bool (decide (n<0)))),.p (.sl (ls fU (aq n.natAbs))),.p (.raw (.bool (decide (d<0)))),.p (.sl (ls fU (aq d.natAbs)))]
abbrev jk:TV:= .one .junk
def j4 (l:List TV):List TV:=jk::jk::jk::jk::l
def j16 (l:List TV):List TV:=j4 (j4 (j4 (j4 l)))
def rN (n:Nat):TV:= .raw (.int .i64 (n:Int))
theorem Xf:Hm []=fun _=>[]:=rfl
theorem Xg (k:Nat) (F:List OObj) (l:List (Nat×List OObj)):Hm ((k,F)::l)=fun a=>if a=k then F else Hm l a:=rfl
def wk:=XJ @SL.eq_1<|XJ @SL.eq_2<|XJ @SL.eq_3<|XJ @Qt.eq_def<|XJ @CJ.eq_def<|XJ @j4.eq_1<|XJ @j16.eq_1<|XJ @rN.eq_1<|True.intro
def kd:=XJ @AS.ev.eq_def<|XJ @AS.put.eq_def<|XJ @Bool.and_false<|XJ @Bool.and_self<|XJ @Bool.and_true<|XJ @YD<|XJ @Bool.not_false<|XJ @abz<|XJ @abA<|XJ @Bool.or_true<|XJ @aa9<|XJ @an.a.eq_1<|XJ @CallRes.plain.eq_1<|XJ @Xf<|XJ @Xg<|XJ @abF<|XJ @Int.toNat_natCast<|XJ @List.all_cons.{0}<|XJ @List.all_nil.{0}<|XJ @List.append_nil.{0}<|XJ @List.cons_append.{0}<|XJ @List.contains_cons.{0}<|XJ @List.contains_nil.{0}<|XJ @List.drop_succ_cons.{0}<|XJ @List.drop_zero.{0}<|XJ @List.find?_cons.{0}<|XJ @List.find?_nil.{0}<|XJ @List.getElem?_cons_succ.{0}<|XJ @List.getElem?_cons_zero.{0}<|XJ @List.getElem?_toArray.{0}<|XJ @List.isEmpty_cons.{0}<|XJ @List.isEmpty_nil.{0}<|XJ @List.isEmpty_toArray.{0}<|XJ @List.length_cons.{0}<|XJ @List.length_map.{0,0}<|XJ @List.length_nil.{0}<|XJ @List.map_cons.{0,0}<|XJ @List.map_nil.{0,0}<|XJ @List.nil_append.{0}<|XJ @List.set_cons_succ.{0}<|XJ @List.set_cons_zero.{0}<|XJ @List.take_succ_cons.{0}<|XJ @List.take_zero.{0}<|XJ @YA<|XJ @XY<|XJ @Yw<|XJ @Option.bind_some.{0,0}<|XJ @Option.map_none.{0,0}<|XJ @Option.map_some.{0,0}<|XJ @underlying116<|XJ @underlying165<|XJ @underlying2<|XJ @underlying5<|XJ @Value.oneCell'.eq_def<|XJ @Po<|XJ @Tb<|XJ @and_false<|XJ @and_self<|XJ @and_true<|XJ @Vy.eq_def<|XJ @beq_self_eq_true.{0}<|XJ @dM.eq_def<|XJ @Ef.eq_def<|XJ @cellsOf.eq_def<|XJ @WH<|XJ @WI<|XJ @decide_false<|XJ @decide_true<|XJ @b8.eq_def<|XJ @fD.eq_def<|XJ @jp.eq_def<|XJ @bN.eq_def<|XJ @fd.eq_1<|XJ @fd.eq_2<|XJ @xZ.eq_def<|XJ @IV.eq_def<|XJ @fI.eq_1<|XJ @fN.eq_1<|XJ @fU.eq_1<|XJ @false_and<|XJ @iN.eq_1<|XJ @iN.eq_2<|XJ @dD.eq_def<|XJ @fb.eq_def<|XJ @Xz<|XJ @XA<|XJ @if_false.{1}<|XJ @if_true.{1}<|XJ @EN.eq_def<|XJ @isPure.eq_def<|XJ @aL.eq_def<|XJ @iQ.eq_1<|XJ @aM.eq_def<|XJ @P6<|XJ @fL<|XJ @zQ<|XJ @tE<|XJ @lY<|XJ @zR<|XJ @nK<|XJ @jL<|XJ @fQ<|XJ @oQ.eq_1<|XJ @oQ.eq_2<|XJ @Qa<|XJ @fh<|XJ @dE<|XJ @TZ<|XJ @T0<|XJ @Qb<|XJ @OU.eq_def<|XJ @Jj<|XJ @xl.eq_def<|XJ @gf.eq_def<|XJ @yp.eq_def<|XJ @vH.eq_def<|XJ @eR.eq_def<|XJ @noRefTV.eq_def<|XJ @gI.eq_def<|XJ @d8.eq_def<|XJ @nR.eq_def<|XJ @Qs.eq_def<|XJ @Jv<|XJ @E8<|XJ @E9<|XJ @Qu<|XJ @Qv<|XJ @Jw<|XJ @vQ<|XJ @MW<|XJ @Jx<|XJ @MX<|XJ @CK<|XJ @Jy<|XJ @xm<|XJ @xn<|XJ @Qw<|XJ @MY<|XJ @Af<|XJ @xo<|XJ @Qx<|XJ @MZ<|XJ @Ag<|XJ @M0<|XJ @Jz<|XJ @JA<|XJ @Uc<|XJ @mt.eq_def<|XJ @CP.eq_1<|XJ @aJ.eq_1<|XJ @aJ.eq_2<|XJ @putCells.eq_1<|XJ @qh.eq_def<|XJ @ng.eq_def<|XJ @b6.eq_def<|XJ @renO.eq_1<|XJ @renTV.eq_def<|XJ @o7.eq_def<|XJ @wh.eq_1<|XJ @wh.eq_2<|XJ @rM.eq_def<|XJ @yH<|XJ @Nv<|XJ @JZ<|XJ @true_and<|XJ @AR.eq_def<|XJ @J4<|XJ @J5<|XJ @J6<|XJ @J7<|XJ @J8<|XJ @J9<|XJ @Kb<|XJ @Kc<|XJ @Rt<|XJ @N9<|XJ @Kd<|XJ @Oc<|XJ @Od<|XJ @Oe<|XJ @Of<|XJ @Ru<|XJ @Og<|XJ @tU<|XJ @Oh<|XJ @Rv<|XJ @qK<|XJ @qL<|XJ @Oi<|XJ @Oj<|XJ @Ok<|XJ @Ol<|XJ @qM<|XJ @Om<|XJ @On<|XJ @UP<|XJ @UQ<|XJ @Rw<|XJ @Rx<|XJ @Ry<|XJ @Rz<|XJ @Dk<|XJ @Dl<|XJ @Dm<|XJ @Dn<|XJ @Do<|XJ @Dp<|XJ @Dq<|XJ @Dr<|XJ @Ds<|XJ @Dt<|XJ @Du<|XJ @Dv<|XJ @Dw<|XJ @Dx<|XJ @FC<|XJ @FD<|XJ @FE<|XJ @mj<|XJ @mm<|XJ @Ke<|XJ @Kf<|XJ @RA<|XJ @RB<|XJ @RC<|XJ @Kg<|XJ @Kh<|XJ @Ki<|XJ @Kj<|XJ @Kk<|XJ @Kl<|XJ @Km<|XJ @qO<|XJ @FG<|XJ @FH<|XJ @FI<|XJ @FJ<|XJ @mn<|XJ @FK<|XJ @FL<|XJ @FM<|XJ @Oo<|XJ @Oq<|XJ @Or<|XJ @Ot<|XJ @Ou<|XJ @Ov<|XJ @Ow<|XJ @Ox<|XJ @UR<|XJ @RD<|XJ @Oy<|XJ @RE<|XJ @RF<|XJ @RG<|XJ @RH<|XJ @US<|XJ @RI<|XJ @AT<|XJ @RJ<|XJ @UT<|XJ @tV<|XJ @tW<|XJ @RK<|XJ @RL<|XJ @RM<|XJ @RN<|XJ @FN<|XJ @FO<|XJ @FP<|XJ @FQ<|XJ @FR<|XJ @FS<|XJ @FT<|XJ @FU<|XJ @FV<|XJ @Oz<|XJ @FX<|XJ @FY<|XJ @Kn<|XJ @Ko<|XJ @Kp<|XJ @OA<|XJ @Kq<|XJ @OC<|XJ @Kr<|XJ @oc<|XJ @Ks<|XJ @Kt<|XJ @Ku<|XJ @tX.eq_def<|XJ @aw.eq_1<|XJ @Wq.eq_def<|XJ @j4.eq_1<|XJ @j16.eq_1<|XJ @rN.eq_1<|True.intro
def kx:=XJ @fR.eq_1<|XJ @fZ.eq_1<|XJ @cZ.eq_1<|XJ @tZ.eq_1<|XJ @cL.eq_1<|XJ @dZ.eq_1<|XJ @dq.eq_1<|XJ @rV.eq_1<|XJ @OV.eq_1<|XJ @AG.eq_1<|XJ @tR.eq_1<|True.intro
section
variable {P:Program} {s s':AS} {y:Code} {id pk:Nat} {ops:Array Oper} {α:Prop}
theorem bH (h: ∀K:AS->Prop,K s'->aV P [] [] (aJ ops ops.toList 0) (some s) K:=by intro K k;simp only[kd,Nat.reduceAdd,Nat.reduceEqDiff,Nat.reduceBEq,Nat.reduceLeDiff,Int.reduceToNat,Nat.reduceMul,reduceCtorEq,Int.reduceLE,kx];exact k) (k:bs P y b s'):bs P (.seq (.region id ops false) y) b s:=au fun K f=>h K (f s' k)
theorem uz (x:α) (h:α-> ∀K:AS->Prop,K s'->aV P [] [] (aJ ops ops.toList 0) (some s) K:=by intro x K k;simp(disch:=omega) only[kd,Nat.reduceAdd,Nat.reduceEqDiff,Nat.reduceBEq,Nat.reduceLeDiff,Int.reduceToNat,Nat.reduceMul,reduceCtorEq,Int.reduceLE,kx,aP,cw,List.replicate,x];exact k) (k:bs P y b s'):bs P (.seq (.region id ops false) y) b s:=au fun K f=>h x K (f s' k)
theorem aK (x:α) (h:α-> ∀K:AS->Prop,K s'->aV P [] [] (aJ ops ops.toList 0) (some s) K:=by intro x K k;simp(disch:=omega) only[kd,Nat.reduceAdd,Nat.reduceEqDiff,Nat.reduceBEq,Nat.reduceLeDiff,Int.reduceToNat,Nat.reduceMul,reduceCtorEq,Int.reduceLE,kx,aP,cw,x];exact k) (k:bs P y b s'):bs P (.seq (.region id ops false) y) b s:=au fun K f=>h x K (f s' k)
theorem aC (h: ∀K:AS->Prop,K s'->aV P [] [] (aJ ops ops.toList 0) (some s) K:=by intro K k;simp(disch:=omega) only[kd,Nat.reduceAdd,Nat.reduceEqDiff,Nat.reduceBEq,Nat.reduceLeDiff,Int.reduceToNat,Nat.reduceMul,reduceCtorEq,Int.reduceLE,kx,aP,cw,List.replicate];exact k) (k:bs P y b s'):bs P (.seq (.region id ops false) y) b s:=au fun K f=>h K (f s' k)
theorem f5 (x:α) (h:α-> ∀K:AS->Prop,K s'->aV P [] [] (aJ ops ops.toList 0) (some s) K:=by intro x K k;simp only[kd,Nat.reduceAdd,Nat.reduceEqDiff,Nat.reduceBEq,Nat.reduceLeDiff,Int.reduceToNat,Nat.reduceMul,reduceCtorEq,Int.reduceLE,kx,x];exact k) (k:bs P y b s'):bs P (.seq (.region id ops false) y) b s:=au fun K f=>h x K (f s' k)
theorem ar (h: ∀K:AS->Prop,K s'->aV P [] [] (aJ ops ops.toList 0) (some s) K:=by intro K k;simp(disch:=omega) only[kd,Nat.reduceAdd,Nat.reduceEqDiff,Nat.reduceBEq,Nat.reduceLeDiff,Int.reduceToNat,Nat.reduceMul,reduceCtorEq,Int.reduceLE,kx,aP,cw];exact k) (k:bs P y b s'):bs P (.seq (.region id ops false) y) b s:=au fun K f=>h K (f s' k)
theorem gQ (x:α) (h:α-> ∀K:AS->Prop,K s'->aV prog [] [] (aJ ops ops.toList 0) (some s) K:=by intro x K k;simp(disch:=omega) only[kd,Nat.reduceAdd,Nat.reduceEqDiff,Nat.reduceBEq,Nat.reduceLeDiff,Int.reduceToNat,Nat.reduceMul,reduceCtorEq,Int.reduceLE,kx,aP,cw,x];exact k) (c:bX [] ops=true:=by kernel_rfl) (k:bs prog y b s'):bs prog (.seq (.region id ops true) y) b s:=lF ch c fun K f=>h x K (f s' k)
theorem bQ (c:List (an P)) (h: ∀K:AS->Prop,K s'->aV P (c.map an.a) [] (aJ ops ops.toList 0) (some s) K:=by intro K k;simp only[kd,Nat.reduceAdd,Nat.reduceEqDiff,Nat.reduceBEq,Nat.reduceLeDiff,Int.reduceToNat,Nat.reduceMul,reduceCtorEq,Int.reduceLE,kx];exact k) (k:bs P y b s'):bs P (.seq (.region id ops false) y) b s:=bj c [] fun K f=>h K (f s' k)
theorem iH (c:List (an P)) (x:α) (h:α-> ∀K:AS->Prop,K s'->aV P (c.map an.a) [] (aJ ops ops.toList 0) (some s) K:=by intro x K k;simp only[kd,Nat.reduceAdd,Nat.reduceEqDiff,Nat.reduceBEq,Nat.reduceLeDiff,Int.reduceToNat,Nat.reduceMul,reduceCtorEq,Int.reduceLE,kx,x];exact k) (k:bs P y b s'):bs P (.seq (.region id ops false) y) b s:=bj c [] fun K f=>h x K (f s' k)
theorem bL (c:List (an P)) (h: ∀K:AS->Prop,K s'->aV P (c.map an.a) [] (aJ ops ops.toList 0) (some s) K:=by intro K k;simp(disch:=omega) only[kd,Nat.reduceAdd,Nat.reduceEqDiff,Nat.reduceBEq,Nat.reduceLeDiff,Int.reduceToNat,Nat.reduceMul,reduceCtorEq,Int.reduceLE,kx,aP,cw];exact k) (k:bs P y b s'):bs P (.seq (.region id ops false) y) b s:=bj c [] fun K f=>h K (f s' k)
theorem ce (c:List (an P)) (x:α) (h:α-> ∀K:AS->Prop,K s'->aV P (c.map an.a) [] (aJ ops ops.toList 0) (some s) K:=by intro x K k;simp(disch:=omega) only[kd,Nat.reduceAdd,Nat.reduceEqDiff,Nat.reduceBEq,Nat.reduceLeDiff,Int.reduceToNat,Nat.reduceMul,reduceCtorEq,Int.reduceLE,kx,aP,cw,x];exact k) (k:bs P y b s'):bs P (.seq (.region id ops false) y) b s:=bj c [] fun K f=>h x K (f s' k)
theorem cQ (c:List (an prog)) (h: ∀K:AS->Prop,K s'->aV prog (c.map an.a) [] (aJ ops ops.toList 0) (some s) K:=by intro K k;simp(disch:=omega) only[kd,Nat.reduceAdd,Nat.reduceEqDiff,Nat.reduceBEq,Nat.reduceLeDiff,Int.reduceToNat,Nat.reduceMul,reduceCtorEq,Int.reduceLE,kx,aP,cw];exact k) (e:bX [] ops=true:=by kernel_rfl) (k:bs prog y b s'):bs prog (.seq (.region id ops true) y) b s:=qW ch c [] e fun K f=>h K (f s' k)
theorem j1 (c:List (an prog)) (x:α) (h:α-> ∀K:AS->Prop,K s'->aV prog (c.map an.a) [] (aJ ops ops.toList 0) (some s) K:=by intro x K k;simp(disch:=omega) only[kd,Nat.reduceAdd,Nat.reduceEqDiff,Nat.reduceBEq,Nat.reduceLeDiff,Int.reduceToNat,Nat.reduceMul,reduceCtorEq,Int.reduceLE,kx,aP,cw,x];exact k) (e:bX [] ops=true:=by kernel_rfl) (k:bs prog y b s'):bs prog (.seq (.region id ops true) y) b s:=qW ch c [] e fun K f=>h x K (f s' k)
theorem WB (h: ∀K:AS->Prop,K s'->aV P [] [] (aJ ops ops.toList 0) (some s) K:=by intro K k;simp only[kd,Nat.reduceAdd,Nat.reduceEqDiff,Nat.reduceBEq,Nat.reduceLeDiff,Int.reduceToNat,Nat.reduceMul,reduceCtorEq,Int.reduceLE,kx];exact k) (k:b .normal s'):bs P (.region id ops false) b s:=kP fun K f=>h K (f s' k)
theorem dU (x:α) (h:α-> ∀K:AS->Prop,K s'->aV P [] [] (aJ ops ops.toList 0) (some s) K:=by intro x K k;simp(disch:=omega) only[kd,Nat.reduceAdd,Nat.reduceEqDiff,Nat.reduceBEq,Nat.reduceLeDiff,Int.reduceToNat,Nat.reduceMul,reduceCtorEq,Int.reduceLE,kx,aP,cw,x];exact k) (k:b .normal s'):bs P (.region id ops false) b s:=kP fun K f=>h x K (f s' k)
theorem R3 (h: ∀K:AS->Prop,K s'->aV P [] [] (aJ ops ops.toList 0) (some s) K:=by intro K k;simp(disch:=omega) only[kd,Nat.reduceAdd,Nat.reduceEqDiff,Nat.reduceBEq,Nat.reduceLeDiff,Int.reduceToNat,Nat.reduceMul,reduceCtorEq,Int.reduceLE,kx,aP,cw,List.replicate];exact k) (k:b .normal s'):bs P (.region id ops false) b s:=kP fun K f=>h K (f s' k)
theorem sW (x:α) (h:α-> ∀K:AS->Prop,K s'->aV P [] [] (aJ ops ops.toList 0) (some s) K:=by intro x K k;simp only[kd,Nat.reduceAdd,Nat.reduceEqDiff,Nat.reduceBEq,Nat.reduceLeDiff,Int.reduceToNat,Nat.reduceMul,reduceCtorEq,Int.reduceLE,kx,x];exact k) (k:b .normal s'):bs P (.region id ops false) b s:=kP fun K f=>h x K (f s' k)
theorem bK (h: ∀K:AS->Prop,K s'->aV P [] [] (aJ ops ops.toList 0) (some s) K:=by intro K k;simp(disch:=omega) only[kd,Nat.reduceAdd,Nat.reduceEqDiff,Nat.reduceBEq,Nat.reduceLeDiff,Int.reduceToNat,Nat.reduceMul,reduceCtorEq,Int.reduceLE,kx,aP,cw];exact k) (k:b .normal s'):bs P (.region id ops false) b s:=kP fun K f=>h K (f s' k)
theorem uy (x:α) (h:α-> ∀K:AS->Prop,K s'->aV prog [] [] (aJ ops ops.toList 0) (some s) K:=by intro x K k;simp(disch:=omega) only[kd,Nat.reduceAdd,Nat.reduceEqDiff,Nat.reduceBEq,Nat.reduceLeDiff,Int.reduceToNat,Nat.reduceMul,reduceCtorEq,Int.reduceLE,kx,aP,cw,x];exact k) (c:bX [] ops=true:=by kernel_rfl) (k:b .normal s'):bs prog (.region id ops true) b s:=DR ch c fun K f=>h x K (f s' k)
theorem Vv (c:List (an P)) (h: ∀K:AS->Prop,K s'->aV P (c.map an.a) [] (aJ ops ops.toList 0) (some s) K:=by intro K k;simp only[kd,Nat.reduceAdd,Nat.reduceEqDiff,Nat.reduceBEq,Nat.reduceLeDiff,Int.reduceToNat,Nat.reduceMul,reduceCtorEq,Int.reduceLE,kx];exact k) (k:b .normal s'):bs P (.region id ops false) b s:=mF c [] fun K f=>h K (f s' k)
theorem Vw (c:List (an P)) (h: ∀K:AS->Prop,K s'->aV P (c.map an.a) [] (aJ ops ops.toList 0) (some s) K:=by intro K k;simp(disch:=omega) only[kd,Nat.reduceAdd,Nat.reduceEqDiff,Nat.reduceBEq,Nat.reduceLeDiff,Int.reduceToNat,Nat.reduceMul,reduceCtorEq,Int.reduceLE,kx,aP,cw];exact k) (k:b .normal s'):bs P (.region id ops false) b s:=mF c [] fun K f=>h K (f s' k)
theorem La (c:List (an P)) (x:α) (h:α-> ∀K:AS->Prop,K s'->aV P (c.map an.a) [] (aJ ops ops.toList 0) (some s) K:=by intro x K k;simp(disch:=omega) only[kd,Nat.reduceAdd,Nat.reduceEqDiff,Nat.reduceBEq,Nat.reduceLeDiff,Int.reduceToNat,Nat.reduceMul,reduceCtorEq,Int.reduceLE,kx,aP,cw,x];exact k) (k:b .normal s'):bs P (.region id ops false) b s:=mF c [] fun K f=>h x K (f s' k)
theorem S6 (c:List (an prog)) (h: ∀K:AS->Prop,K s'->aV prog (c.map an.a) [] (aJ ops ops.toList 0) (some s) K:=by intro K k;simp(disch:=omega) only[kd,Nat.reduceAdd,Nat.reduceEqDiff,Nat.reduceBEq,Nat.reduceLeDiff,Int.reduceToNat,Nat.reduceMul,reduceCtorEq,Int.reduceLE,kx,aP,cw];exact k) (e:bX [] ops=true:=by kernel_rfl) (k:b .normal s'):bs prog (.region id ops true) b s:=qV ch c [] e fun K f=>h K (f s' k)
theorem gP (c:List (an prog)) (x:α) (h:α-> ∀K:AS->Prop,K s'->aV prog (c.map an.a) [] (aJ ops ops.toList 0) (some s) K:=by intro x K k;simp(disch:=omega) only[kd,Nat.reduceAdd,Nat.reduceEqDiff,Nat.reduceBEq,Nat.reduceLeDiff,Int.reduceToNat,Nat.reduceMul,reduceCtorEq,Int.reduceLE,kx,aP,cw,x];exact k) (e:bX [] ops=true:=by kernel_rfl) (k:b .normal s'):bs prog (.region id ops true) b s:=qV ch c [] e fun K f=>h x K (f s' k)
theorem R4 (e: ∀K:AS->Prop,K s'->aV P [] [] (aJ ops ops.toList 0) (some s) K:=by intro K k;simp(disch:=omega) only[kd,Nat.reduceAdd,Nat.reduceEqDiff,Nat.reduceBEq,Nat.reduceLeDiff,Int.reduceToNat,Nat.reduceMul,reduceCtorEq,Int.reduceLE,kx,aP,cw,List.replicate];exact k) (k:dG P n l y c s' h):dG P n l (.seq (.region id ops false) y) c s h:=nE fun K f=>e K (f s' k)
theorem cB (e: ∀K:AS->Prop,K s'->aV P [] [] (aJ ops ops.toList 0) (some s) K:=by intro K k;simp(disch:=omega) only[kd,Nat.reduceAdd,Nat.reduceEqDiff,Nat.reduceBEq,Nat.reduceLeDiff,Int.reduceToNat,Nat.reduceMul,reduceCtorEq,Int.reduceLE,kx,aP,cw];exact k) (k:dG P n l y c s' h):dG P n l (.seq (.region id ops false) y) c s h:=nE fun K f=>e K (f s' k)
theorem D3 (x:α) (e:α-> ∀K:AS->Prop,K s'->aV P [] [] (aJ ops ops.toList 0) (some s) K:=by intro x K k;simp(disch:=omega) only[kd,Nat.reduceAdd,Nat.reduceEqDiff,Nat.reduceBEq,Nat.reduceLeDiff,Int.reduceToNat,Nat.reduceMul,reduceCtorEq,Int.reduceLE,kx,aP,cw,List.replicate,x];exact k) (k:dG P n l y c s' h):dG P n l (.seq (.region id ops false) y) c s h:=nE fun K f=>e x K (f s' k)
theorem j5 (x:α) (e:α-> ∀K:AS->Prop,K s'->aV P [] [] (aJ ops ops.toList 0) (some s) K:=by intro x K k;simp(disch:=omega) only[kd,Nat.reduceAdd,Nat.reduceEqDiff,Nat.reduceBEq,Nat.reduceLeDiff,Int.reduceToNat,Nat.reduceMul,reduceCtorEq,Int.reduceLE,kx,aP,cw,x];exact k) (k:dG P n l y c s' h):dG P n l (.seq (.region id ops false) y) c s h:=nE fun K f=>e x K (f s' k)
theorem R5 (g:List (an P)) (e: ∀K:AS->Prop,K s'->aV P (g.map an.a) [] (aJ ops ops.toList 0) (some s) K:=by intro K k;simp(disch:=omega) only[kd,Nat.reduceAdd,Nat.reduceEqDiff,Nat.reduceBEq,Nat.reduceLeDiff,Int.reduceToNat,Nat.reduceMul,reduceCtorEq,Int.reduceLE,kx,aP,cw];exact k) (k:dG P n l y c s' h):dG P n l (.seq (.region id ops false) y) c s h:=ux g [] fun K f=>e K (f s' k)
theorem Le (g:List (an P)) (x:α) (e:α-> ∀K:AS->Prop,K s'->aV P (g.map an.a) [] (aJ ops ops.toList 0) (some s) K:=by intro x K k;simp(disch:=omega) only[kd,Nat.reduceAdd,Nat.reduceEqDiff,Nat.reduceBEq,Nat.reduceLeDiff,Int.reduceToNat,Nat.reduceMul,reduceCtorEq,Int.reduceLE,kx,aP,cw,x];exact k) (k:dG P n l y c s' h):dG P n l (.seq (.region id ops false) y) c s h:=ux g [] fun K f=>e x K (f s' k)
theorem sY (e: ∀K:AS->Prop,K s'->aV P [] [] (aJ ops ops.toList 0) (some s) K:=by intro K k;simp(disch:=omega) only[kd,Nat.reduceAdd,Nat.reduceEqDiff,Nat.reduceBEq,Nat.reduceLeDiff,Int.reduceToNat,Nat.reduceMul,reduceCtorEq,Int.reduceLE,kx,aP,cw];exact k) (k:c .normal s' h):dG P n l (.region id ops false) c s h:=Ir fun K f=>e K (f s' k)
theorem S8 (x:α) (e:α-> ∀K:AS->Prop,K s'->aV prog [] [] (aJ ops ops.toList 0) (some s) K:=by intro x K k;simp(disch:=omega) only[kd,Nat.reduceAdd,Nat.reduceEqDiff,Nat.reduceBEq,Nat.reduceLeDiff,Int.reduceToNat,Nat.reduceMul,reduceCtorEq,Int.reduceLE,kx,aP,cw,x];exact k) (g:bX [] ops=true:=by kernel_rfl) (k:c .normal s' h):dG prog n l (.region id ops true) c s h:=D0 ch g fun K f=>e x K (f s' k)
theorem Lc (h: ∀K:AS->Prop,K s'->aV P [] [] (aJ ops ops.toList 0) (some s) K:=by intro K k;simp(disch:=omega) only[kd,Nat.reduceAdd,Nat.reduceEqDiff,Nat.reduceBEq,Nat.reduceLeDiff,Int.reduceToNat,Nat.reduceMul,reduceCtorEq,Int.reduceLE,kx,aP,cw,List.replicate];exact k) (c:gB pk ops=true:=by kernel_rfl) (k:fz P pk y b s'):fz P pk (.seq (.region id ops false) y) b s:=qX c fun K f=>h K (f s' k)
theorem jG (h: ∀K:AS->Prop,K s'->aV P [] [] (aJ ops ops.toList 0) (some s) K:=by intro K k;simp(disch:=omega) only[kd,Nat.reduceAdd,Nat.reduceEqDiff,Nat.reduceBEq,Nat.reduceLeDiff,Int.reduceToNat,Nat.reduceMul,reduceCtorEq,Int.reduceLE,kx,aP,cw];exact k) (c:gB pk ops=true:=by kernel_rfl) (k:fz P pk y b s'):fz P pk (.seq (.region id ops false) y) b s:=qX c fun K f=>h K (f s' k)
theorem dv (x:α) (h:α-> ∀K:AS->Prop,K s'->aV P [] [] (aJ ops ops.toList 0) (some s) K:=by intro x K k;simp(disch:=omega) only[kd,Nat.reduceAdd,Nat.reduceEqDiff,Nat.reduceBEq,Nat.reduceLeDiff,Int.reduceToNat,Nat.reduceMul,reduceCtorEq,Int.reduceLE,kx,aP,cw,x];exact k) (c:gB pk ops=true:=by kernel_rfl) (k:fz P pk y b s'):fz P pk (.seq (.region id ops false) y) b s:=qX c fun K f=>h x K (f s' k)
theorem rk (x:α) (h:α-> ∀K:AS->Prop,K s'->aV prog [] [] (aJ ops ops.toList 0) (some s) K:=by intro x K k;simp(disch:=omega) only[kd,Nat.reduceAdd,Nat.reduceEqDiff,Nat.reduceBEq,Nat.reduceLeDiff,Int.reduceToNat,Nat.reduceMul,reduceCtorEq,Int.reduceLE,kx,aP,cw,x];exact k) (c:bX [] ops=true:=by kernel_rfl) (e:gB pk ops=true:=by kernel_rfl) (k:fz prog pk y b s'):fz prog pk (.seq (.region id ops true) y) b s:=DT ch c e fun K f=>h x K (f s' k)
theorem S7 (c:List (an P)) (x:α) (h:α-> ∀K:AS->Prop,K s'->aV P (c.map an.a) [] (aJ ops ops.toList 0) (some s) K:=by intro x K k;simp(disch:=omega) only[kd,Nat.reduceAdd,Nat.reduceEqDiff,Nat.reduceBEq,Nat.reduceLeDiff,Int.reduceToNat,Nat.reduceMul,reduceCtorEq,Int.reduceLE,kx,aP,cw,x];exact k) (e:gB pk ops=true:=by kernel_rfl) (k:fz P pk y b s'):fz P pk (.seq (.region id ops false) y) b s:=Bo c [] e fun K f=>h x K (f s' k)
theorem Pl (c:List (an prog)) (x:α) (h:α-> ∀K:AS->Prop,K s'->aV prog (c.map an.a) [] (aJ ops ops.toList 0) (some s) K:=by intro x K k;simp(disch:=omega) only[kd,Nat.reduceAdd,Nat.reduceEqDiff,Nat.reduceBEq,Nat.reduceLeDiff,Int.reduceToNat,Nat.reduceMul,reduceCtorEq,Int.reduceLE,kx,aP,cw,x];exact k) (e:bX [] ops=true:=by kernel_rfl) (g:gB pk ops=true:=by kernel_rfl) (k:fz prog pk y b s'):fz prog pk (.seq (.region id ops true) y) b s:=xB ch c [] e g fun K f=>h x K (f s' k)
theorem Lb (h: ∀K:AS->Prop,K s'->aV P [] [] (aJ ops ops.toList 0) (some s) K:=by intro K k;simp(disch:=omega) only[kd,Nat.reduceAdd,Nat.reduceEqDiff,Nat.reduceBEq,Nat.reduceLeDiff,Int.reduceToNat,Nat.reduceMul,reduceCtorEq,Int.reduceLE,kx,aP,cw];exact k) (c:gB pk ops=true:=by kernel_rfl) (k:b .normal s'):fz P pk (.region id ops false) b s:=xA c fun K f=>h K (f s' k)
theorem xI (x:α) (h:α-> ∀K:AS->Prop,K s'->aV P [] [] (aJ ops ops.toList 0) (some s) K:=by intro x K k;simp(disch:=omega) only[kd,Nat.reduceAdd,Nat.reduceEqDiff,Nat.reduceBEq,Nat.reduceLeDiff,Int.reduceToNat,Nat.reduceMul,reduceCtorEq,Int.reduceLE,kx,aP,cw,x];exact k) (c:gB pk ops=true:=by kernel_rfl) (k:b .normal s'):fz P pk (.region id ops false) b s:=xA c fun K f=>h x K (f s' k)
theorem fC {b:Type} {L:gM b} {g:b} {Q:Exit->AS->b->Prop} (h: ∀K:AS->Prop,K s'->aV P [] [] (aJ ops ops.toList 0) (some s) K:=by intro K k;simp(disch:=omega) only[kd,Nat.reduceAdd,Nat.reduceEqDiff,Nat.reduceBEq,Nat.reduceLeDiff,Int.reduceToNat,Nat.reduceMul,reduceCtorEq,Int.reduceLE,kx,aP,cw];exact k) (c:da j ops=true:=by kernel_rfl) (k:dT P L j y Q s' g):dT P L j (.seq (.region id ops false) y) Q s g:=xE c fun K f=>h K (f s' k)
theorem dK {b:Type} {L:gM b} {g:b} {Q:Exit->AS->b->Prop} (x:α) (h:α-> ∀K:AS->Prop,K s'->aV P [] [] (aJ ops ops.toList 0) (some s) K:=by intro x K k;simp(disch:=omega) only[kd,Nat.reduceAdd,Nat.reduceEqDiff,Nat.reduceBEq,Nat.reduceLeDiff,Int.reduceToNat,Nat.reduceMul,reduceCtorEq,Int.reduceLE,kx,aP,cw,x];exact k) (c:da j ops=true:=by kernel_rfl) (k:dT P L j y Q s' g):dT P L j (.seq (.region id ops false) y) Q s g:=xE c fun K f=>h x K (f s' k)
theorem Ld {c:Type} {L:gM c} {g:c} {Q:Exit->AS->c->Prop} (b:List (an P)) (h: ∀K:AS->Prop,K s'->aV P (b.map an.a) [] (aJ ops ops.toList 0) (some s) K:=by intro K k;simp(disch:=omega) only[kd,Nat.reduceAdd,Nat.reduceEqDiff,Nat.reduceBEq,Nat.reduceLeDiff,Int.reduceToNat,Nat.reduceMul,reduceCtorEq,Int.reduceLE,kx,aP,cw];exact k) (e:da j ops=true:=by kernel_rfl) (k:dT P L j y Q s' g):dT P L j (.seq (.region id ops false) y) Q s g:=mL b [] e fun K f=>h K (f s' k)
theorem sX {b:Type} {L:gM b} {g:b} {Q:Exit->AS->b->Prop} (h: ∀K:AS->Prop,K s'->aV P [] [] (aJ ops ops.toList 0) (some s) K:=by intro K k;simp(disch:=omega) only[kd,Nat.reduceAdd,Nat.reduceEqDiff,Nat.reduceBEq,Nat.reduceLeDiff,Int.reduceToNat,Nat.reduceMul,reduceCtorEq,Int.reduceLE,kx,aP,cw];exact k) (c:da j ops=true:=by kernel_rfl) (k:Q .normal s' g):dT P L j (.region id ops false) Q s g:=xD c fun K f=>h K (f s' k)
theorem pu {b:Type} {L:gM b} {g:b} {Q:Exit->AS->b->Prop} (x:α) (h:α-> ∀K:AS->Prop,K s'->aV P [] [] (aJ ops ops.toList 0) (some s) K:=by intro x K k;simp(disch:=omega) only[kd,Nat.reduceAdd,Nat.reduceEqDiff,Nat.reduceBEq,Nat.reduceLeDiff,Int.reduceToNat,Nat.reduceMul,reduceCtorEq,Int.reduceLE,kx,aP,cw,x];exact k) (c:da j ops=true:=by kernel_rfl) (k:Q .normal s' g):dT P L j (.region id ops false) Q s g:=xD c fun K f=>h x K (f s' k)
theorem aE {p q:Prop} (a:p) (b:q):p/\q:=⟨a,b⟩
theorem aF {c:Func} {r:TV} (x:α) (e:b .ret s=((Exit.ret= .normal\/Exit.ret= .ret)/\ ∃s',bv s s'/\mB P c ⟨[],r⟩ s'):=by rfl) (h:α->o7 P s c.results.toList=some r:=by intro x;simp(disch:=omega) only[kd,Nat.reduceAdd,Nat.reduceEqDiff,Nat.reduceBEq,Nat.reduceLeDiff,Int.reduceToNat,Nat.reduceMul,reduceCtorEq,Int.reduceLE,kx,aP,cw,x]) (f:s.H 1000=[]:=by rfl) (g:noRefTV r=true:=by rfl):bs P .ret b s:=aZ (e.mpr ⟨.inr rfl,b9 f (h x) g⟩)
theorem aB {b:FuncId} {g:Func} {args:List TV} {res:CallRes} (l:P.funcs[b]?=some g) (j:g.body=some f) (o:g.ntmps=n) (h:bs P f (fun e s=>(e= .normal\/e= .ret)/\ ∃s',bv s s'/\mB P g res s') ⟨args++ae (n-args.length) .undef,fun _=>[]⟩) (p:callable P b=true:=by kernel_rfl):CallC P b args res:=eD l j p (by rw[o];exact h)
theorem WV (e:s.ev p=some (.raw (.bool false))) (h:bs P g b s):bs P (.cond p f .skip) (iZ (bs P g b) b) s:=ao e (ak h)
theorem WW (e:s.ev p=some (.raw (.bool true))) (h:bs P g b s):bs P (.cond p .skip f) (iZ (bs P g b) b) s:=aD e (ak h)
theorem W2 (j:s.ev p=some (.raw (.bool false))) (e:dG P n l g c s h):dG P n l (.cond p f .skip) (wQ (dG P n l g c) c) s h:=cb j (iG e)
theorem W3 (j:s.ev p=some (.raw (.bool true))) (e:dG P n l g c s h):dG P n l (.cond p .skip f) (wQ (dG P n l g c) c) s h:=gO j (iG e)
theorem WX {k:Nat} (e:s.ev p=some (.raw (.bool false))) (h:fz P k g b s):fz P k (.cond p f .skip) (iZ (fz P k g b) b) s:=mG e (fJ h)
theorem WY {k:Nat} (e:s.ev p=some (.raw (.bool true))) (h:fz P k g b s):fz P k (.cond p .skip f) (iZ (fz P k g b) b) s:=lG e (fJ h)
theorem WZ {e:Type} {L:gM e} {b:e} {Q:Exit->AS->e->Prop} (l:s.ev p=some (.raw (.bool false))) (h:dT P L j g Q s b):dT P L j (.cond p f .skip) (qI (dT P L j g Q) Q) s b:=fB l (dJ h)
theorem W0 {e:Type} {L:gM e} {b:e} {Q:Exit->AS->e->Prop} (l:s.ev p=some (.raw (.bool true))) (h:dT P L j g Q s b):dT P L j (.cond p .skip f) (qI (dT P L j g Q) Q) s b:=f4 l (dJ h)
end
end
theorem je (l:List Nat) (s:l.length<=1073741824):CallC prog 72 [cL l] ⟨[],cL (dn l)⟩:=by
 refine aB func72 rfl ntmps72 (aC (k:=bH (k:=?_)));refine Pi (G:={n:Nat//n<=l.length/\dn l=dn (l.take n)}) (fun n=>⟨(cL l::jk::.raw (.slice none 0 0)::.raw (.int .i64 n.1)::j16 (jk::jk::[])),Hm []⟩) (fun n=>n.1) ⟨l.length,XY _,by simp⟩ ?_ ?_
 ·refine aj trivial ?_;simp[wk]
 rintro⟨n,t,r⟩;simp only;by_cases q:0<n
 ·obtain⟨a,o⟩:=getElem?_of_lt (l:=l) (k:=n-1) (by omega);have m:((n:Int)-1).toNat=n-1:=by omega
  refine ai (aK (aE m o) (k:=?_));have p:l.take n=l.take (n-1)++[a]:=by
   have:=aaC (i:=n-1) (l:=l) (by omega);grind
  refine aW rfl (fun g=>ak ?_) (fun g=>be ?_)
  ·have j:a=0:=by grind
   refine am (bK (k:=?_));refine⟨⟨n-1,by omega,?_⟩,by simp only;omega,aj trivial ?_⟩
   ·simp_all[nw]
   have e:((n-1:Nat):Int)=(n:Int)-1:=by omega
   simp[wk,e]
  have j:a≠0:=by grind
  have b:dn l=l.take n:=by grind [yU]
  show bs _ _ _ _;have c:(l.take n).length=n:=by simp;omega
  refine aK (aE @Yt (aE (rC zF) (aE c (Ms zF)))) (k:=?_);refine aZ ⟨.inr rfl,jd 21 (bS rfl) ?_ rfl⟩;simp(disch:=omega) only[kd,results72,b];grind
 have h:n=0:=by omega
 subst h;have b:dn l=[]:=by grind [dn]
 refine ai (ar (k:=aW rfl (fun g=>by cases g) (fun g=>be (aK (aE @Yt (rC zF)) (k:=?_)))));refine aZ ⟨.inr rfl,jd 21 (bS (f:=fU) (l:=[]) rfl) ?_ rfl⟩;simp(disch:=omega) only[kd,results72,b];simp[ls]
theorem cf:aq 0=[]:=by rw[aq];simp
theorem rA (h:n≠0):aq n=n%4294967296::aq (n/4294967296):=by grind [aq]
theorem ax (n:Nat):natV (aq n)=n:=by
 induction n using Nat.strongRecOn with
 |_ n b=>
  grind [cf,rA,natV]
theorem aA (n:Nat):Lmb (aq n):=by
 induction n using Nat.strongRecOn with
 |_ n c=>
  by_cases h:n=0
  ·subst h;rw[cf];intro a b;simp at b
  rw[rA h];intro a b;rcases Yo.1 b with rfl|b
  ·omega
  exact c _ (I7 h) a b
theorem bY (n:Nat):th (aq n):=by
 induction n using Nat.strongRecOn with
 |_ n b=>
  grind [cf,th,rA]
theorem LU (b:Lmb j) (c:th j):j=aq (natV j):=
 Pu b (aA _) c (bY _) (ax _).symm
theorem dS (b:Lmb j):dn j=aq (natV j):=by
 grind [LU,N8,N6,Jm]
theorem ib (n:Nat):dn (aq n)=aq n:=sU (bY n)
theorem zS:aq n=[]↔n=0:=⟨fun h=>by rw[<- ax n,h];rfl,fun h=>by rw[h,cf]⟩
theorem kY {n k:Nat} (h:n<4294967296^k):(aq n).length<=k:=Eh (bY n) (by grind [ax])
theorem fg {n:Nat}:(aq n).length=0↔n=0:=by simp_all[zS]
def Sz (z:Int) (k:Nat):Prop:=z.natAbs<4294967296^k
theorem Sz.mono {k l:Nat} (h:Sz x k) (b:k<=l):Sz x l:=XZ h (Yd (by omega) b)
theorem TL (z:Int):(fZ z).length=2:=rfl
theorem qv (neg:Bool) (n:Nat):(fH neg n).natAbs=n:=by grind [fH]
theorem Hr (neg:Bool) (n:Nat):decide (fH neg n<0)=(neg&&decide (0<n)):=by
 grind [fH]
theorem jN (neg:Bool) (l:List Nat) (h:Lmb l) (b:l.length<=1073741824):CallC prog 105 [.raw (.bool neg),cL l] ⟨[],tZ (fH neg (natV l))⟩:=by
 have e:=je l b;rw[dS h]at e;have c:(aq (natV l)).length<=1073741824:=by rw[<- dS h];exact XQ (N7 l) b
 refine aB func105 rfl ntmps105 (aC (k:=bQ [⟨1,_,_,_,e⟩] (k:=?_)));cases neg with
 |false=>
  refine ar (k:=?_);refine aZ ⟨.inr rfl,b9 rfl ?_ rfl⟩;simp(disch:=omega) only[kd,results105,aa,tZ];rfl
 |true=>
  refine ar (k:=?_);refine aZ ⟨.inr rfl,b9 rfl ?_ rfl⟩;simp(disch:=omega) only[kd,results105,aa,tZ];have:(0<(aq (natV l)).length)↔0<natV l:=by
   grind [fg]
  grind [qv,Hr]
abbrev Bg (z:Int):Prop:=Sz z 1073741824
theorem Bg.len (h:Bg x):(aq x.natAbs).length<=1073741824:=kY h
theorem MI (z:Int):fH (!decide (z<0)) z.natAbs= -z:=by grind [fH]
theorem zZ (z:Int):fH (decide (z<0)) z.natAbs=z:=by grind [fH]
theorem MQ (z:Int) (h:Bg z):CallC prog 79 [tZ z] ⟨[],tZ (-z)⟩:=by
 have b:=jN (!decide (z<0)) (aq z.natAbs) (aA _) h.len;rw[ax,MI]at b;refine aB func79 rfl ntmps79 (aC (k:=bL [⟨5,_,_,_,b⟩] (k:=aF @results79)))
theorem Lf (z:Int) (h:Bg z):CallC prog 158 [tZ z] ⟨[],tZ z.natAbs⟩:=by
 have b:=jN false (aq z.natAbs) (aA _) h.len;rw[ax,show fH false z.natAbs=z.natAbs from rfl]at b;refine aB func158 rfl ntmps158 (aC (k:=bL [⟨2,_,_,_,b⟩] (k:=aF @results158)))
theorem MT (z:Int) (h:Bg z):CallC prog 52 [tZ z] ⟨[],tZ z⟩:=by
 have b:=jN (decide (z<0)) (aq z.natAbs) (aA _) h.len;rw[ax,zZ]at b;refine aB func52 rfl ntmps52 (aC (k:=bL [⟨4,_,_,_,b⟩] (k:=aF @results52)))
theorem AZ (neg:Bool) (u:Nat) (g:u<18446744073709551616):CallC prog 128 [.raw (.bool neg),.raw (.int .u64 u)] ⟨[],tZ (fH neg u)⟩:=by
 have c:=jN neg [u%4294967296,u/4294967296] (by intro a f;grind) (by simp);rw[yW]at c;have e:IntKind.u32.wrap (u:Int)=((u%4294967296:Nat):Int):=by rfl
 have b:IntKind.u32.wrap ((u:Int).fdiv (2^(min (32:Int).toNat IntKind.u64.bits)))=((u/4294967296:Nat):Int):=by
  rw[Zy];show(Int.fdiv (u:Int) 4294967296)%4294967296=_;grind
 simp only[ah]at b;refine aB func128 rfl ntmps128 (aC (k:=ce [⟨7,_,_,_,c⟩] (aE @G0 (aE e b)) (k:=aF @results128)))
theorem fY (n:Int) (e: -9223372036854775808<=n) (f:n<=9223372036854775807):CallC prog 74 [.raw (.int .i64 n)] ⟨[],tZ n⟩:=by
 by_cases g:n<0
 ·have b:=AZ true n.natAbs (by omega);have c:IntKind.u64.wrap (0-IntKind.u64.wrap n)=((n.natAbs:Nat):Int):=by grind [IntKind.wrap_u64]
  rw[show fH true n.natAbs=n by grind [fH]]at b;refine aB func74 rfl ntmps74 (aC (k:=ai (ar (k:=aD rfl (ce [⟨3,_,_,_,b⟩] c (k:=aF @results74))))))
 have b:=AZ false n.natAbs (by omega);have c:IntKind.u64.wrap n=((n.natAbs:Nat):Int):=by rw[YE];omega
 rw[show fH false n.natAbs=n by grind [fH]]at b;refine aB func74 rfl ntmps74 (aC (k:=ai (ar (k:=ao rfl (ak (ce [⟨2,_,_,_,b⟩] c (k:=aF @results74)))))))
theorem nr (z:Int) (h:Bg z):CallC prog 75 [tZ z] ⟨[],.raw (.int .i64 (sg z))⟩:=by
 have b:=je (aq z.natAbs) h.len;rw[ib]at b;have g:=fg (n:=z.natAbs);rcases Int.lt_trichotomy z 0 with c|c|c
 ·have e:sg z= -1:=by simp[sg,c]
  have f:(aq z.natAbs).length≠0:=by omega
  rw[e];refine aB func75 rfl ntmps75 (aC (k:=ai (am (bL [⟨2,_,_,_,b⟩] (k:=ao rfl (bH (k:=aD rfl (bH (k:=aF @results75)))))))))
 ·subst c;rw[show sg 0=0 from rfl];rw[Int.natAbs_zero,cf]at b;rw[show tZ 0= .agg [.p (.raw (.bool false)),.p (.sl (ls fU []))]from by grind];refine aB func75 rfl ntmps75 (aC (k:=ai (am (bL [⟨2,_,_,_,b⟩] (k:=aD rfl (bH (k:=aF @results75)))))))
 have e:sg z=1:=by grind [sg]
 have f:(aq z.natAbs).length≠0:=by omega
 rw[e];refine aB func75 rfl ntmps75 (aC (k:=ai (am (bL [⟨2,_,_,_,b⟩] (k:=ao rfl (bH (k:=ao rfl (ak (bH (k:=aF @results75))))))))))
theorem Gt (l m:List Nat) (r:Lmb l) (s:Lmb m) (t:th l) (u:th m) (x:l.length<=1073741824) (y:m.length<=1073741824):
  CallC prog 157 [cL l,cL m] ⟨[],.raw (.int .i64 (f7 (natV l) (natV m)))⟩:=by
 rcases Y5 l.length m.length with q|n|o
 ·rw[nG (iV r u q)];refine aB func157 rfl ntmps157 (aC (k:=ai (ar (k:=aD rfl (ai (ar (k:=aD rfl (bH (k:=aF @results157)))))))))
 ·refine aB func157 rfl ntmps157 (aC (k:=ai (ar (k:=ao rfl (ak (ai (ar (k:=?_))))))));refine aG (G:={k:Nat//k<=l.length/\l.drop k=m.drop k}) (fun k=>⟨(cL l::cL m::jk::jk::.raw (.int .i64 0)::.raw (.int .i64 ((k.1:Int)-1))::j16 (j16 (jk::jk::jk::[]))),Hm []⟩) (fun k=>k.1) ⟨l.length,XY _,by rw[aam,n,aam]⟩ ?_ ?_
  ·refine aj trivial ?_;simp[wk]
  rintro⟨k,B,A⟩;simp only;by_cases z:0<k
  ·obtain⟨a,f⟩:=getElem?_of_lt (l:=l) (k:=k-1) (by omega);obtain⟨b,g⟩:=getElem?_of_lt (l:=m) (k:=k-1) (by omega);have j:((k:Int)-1).toNat=k-1:=by omega
   have e:l.drop (k-1+1)=m.drop (k-1+1):=by grind
   refine ai (ar (k:=aD rfl (ak (ai (am (gQ (aE j (aE f g)) (k:=?_)))))));rcases Y5 a b with c|c|c
   ·rw[nG (ma r f g e c)];refine aW rfl (fun _=>?_) (fun h=>by simp at h<;>omega);refine ai (gQ (aE j (aE f g)) (k:=aD rfl (bH (k:=aF @results157))))
   ·subst c;refine aW rfl (fun h=>by simp at h<;>omega) (fun _=>ak ?_);show bs _ _ _ _;refine bK (k:=?_);refine⟨⟨k-1,by omega,xW f g e⟩,by grind,aj trivial ?_⟩;have v:((k-1:Nat):Int)=(k:Int)-1:=by omega
    simp[wk,v]
   rw[tw (ma s g f e.symm c)];refine aW rfl (fun _=>?_) (fun h=>by simp at h<;>omega);refine ai (gQ (aE j (aE f g)) (k:=ao rfl (ak (bH (k:=aF @results157)))))
  have p:k=0:=by omega
  subst p;have w:l=m:=by grind
  rw[show f7 (natV l) (natV m)=0 by grind [f7]];refine ai (ar (k:=ao rfl (be (bH (k:=aF @results157)))))
 rw[tw (iV s t o)];refine aB func157 rfl ntmps157 (aC (k:=ai (ar (k:=aD rfl (ai (ar (k:=ao rfl (ak (bH (k:=aF @results157))))))))))
def rp (a b:Int):Int:=if a<b then -1 else if a=b then 0 else 1
theorem C5 (z:Int): -1<=sg z/\sg z<=1:=by grind [sg]
theorem El (a b:Nat): -1<=f7 a b/\f7 a b<=1:=by grind [f7]
theorem PA {a:Int} (h:sg a≠sg x):rp a x=if sg a<sg x then -1 else 1:=by
 grind [sg,rp]
theorem Py {a:Int} (h:sg a=sg x):rp a x=sg a*f7 a.natAbs x.natAbs:=by
 grind [sg,rp,f7]
theorem A4 (a b:Int) (e:Bg a) (f:Bg b):CallC prog 106 [tZ a,tZ b] ⟨[],.raw (.int .i64 (rp a b))⟩:=by
 have g:=nr a e;have j:=nr b f;have t1:=je (aq a.natAbs) e.len;have t2:=je (aq b.natAbs) f.len;rw[ib]at t1 t2;have l:=Gt (aq a.natAbs) (aq b.natAbs) (aA _) (aA _) (bY _) (bY _) e.len f.len;rw[ax,ax]at l;have n:=C5 a;have o:=C5 b;have p:=El a.natAbs b.natAbs;have q: -1<=sg a*f7 a.natAbs b.natAbs/\sg a*f7 a.natAbs b.natAbs<=1:=by
  grind [sg]
 by_cases m:sg a=sg b
 ·rw[Py m];refine aB func106 rfl ntmps106 (aC (k:=cQ [⟨1,_,_,_,g⟩,⟨3,_,_,_,j⟩] (k:=ai (ar (k:=ao rfl (ak (cQ [⟨3,_,_,_,t1⟩,⟨6,_,_,_,t2⟩,⟨7,_,_,_,l⟩] (k:=aF @results106))))))))
 rw[PA m];refine aB func106 rfl ntmps106 (aC (k:=cQ [⟨1,_,_,_,g⟩,⟨3,_,_,_,j⟩] (k:=ai (ar (k:=aD rfl (ai (bH (k:=?_))))))));by_cases c:sg a<sg b
 ·rw[if_pos c];refine aW rfl (fun _=>?_) (fun h=>by simp at h<;>omega);refine ar (k:=aF @results106)
 rw[if_neg c];refine aW rfl (fun h=>by simp at h<;>omega) (fun _=>ak ?_);show bs _ _ _ _;refine ar (k:=aF @results106)
end Go.Proofs.YtalmoejhjceflaaGreat
