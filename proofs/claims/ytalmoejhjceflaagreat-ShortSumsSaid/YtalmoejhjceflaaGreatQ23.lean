/-
  Part 24 of a proof (walks and plain facts).
-/
import Derived.Test.YtalmoejhjceflaaGreatQ22
import Derived.Shelf.SlSortCmp.WholeK
import Derived.Ground.SlsfProg
import Derived.Test.YtalmoejhjceflaaGreatProg
import Derived.Deep.RegionHeld3
import Derived.Deep.RegionLaw
set_option linter.all false
set_option maxRecDepth 100000
set_option maxHeartbeats 64000000
namespace Go.Proofs.YtalmoejhjceflaaGreat
open Go.RowKit Go.Proofs.Tryz
variable {n m:Nat} {b:List NItem} {w:World} {c:NItem}
def yD (w:World) (g N:Nat) (L:List NItem):Prop:=
 ∃f,w.rowIs g 177 N f/\L.length*2<=N/\ ∀j b,L[j]?=some b->f (j*2)= .int .i64 b.key/\f (j*2+1)=b.val
theorem yD.ext {c:World} (h:yD w n m b) (e:Ext w c):yD c n m b:=by
 obtain⟨f,j,l,o⟩:=h;exact⟨f,di j e,l,o⟩
theorem yD.cell0 (h:yD w n m b) {j:Nat} (e:b[j]?=some c):w.cell? ⟨n,j*2,none⟩=some (.int .i64 c.key):=by
 obtain⟨f,l,p,o⟩:=h;have:=(aci.1 e).1;rw[l.cell (by omega),(o j c e).1]
theorem yD.cell1 (h:yD w n m b) {j:Nat} (e:b[j]?=some c):w.cell? ⟨n,j*2+1,none⟩=some (.slice c.at_ c.vals.length c.cap):=by
 obtain⟨f,l,p,o⟩:=h;have:=(aci.1 e).1;rw[l.cell (by omega),(o j c e).2];rfl
theorem yD.frozen (h:yD w n m b) (j:Nat):w.frozen? ⟨n,j,none⟩=false:=by
 obtain⟨f,c,e,l⟩:=h;exact c.frozen j
theorem yD.set (h:yD w n m b) {i:Nat} (p:i<b.length) (c:NItem):
  yD ((w.setCell ⟨n,i*2,none⟩ (.int .i64 c.key)).setCell ⟨n,i*2+1,none⟩ (.slice c.at_ c.vals.length c.cap)) n m (b.set i c):=by
 obtain⟨f,o,r,s⟩:=h;refine⟨_,(o.set (i*2) _).set (i*2+1) _,by grind,fun j q l=>?_⟩;rw[adj]at l;by_cases e:i=j
 ·subst e;rw[if_pos rfl,if_pos p]at l;cases l;constructor
  ·simp
  rw[if_pos rfl];rfl
 grind
def dS (c:NItem):List NItem->List NItem
 |[]=>[]
 |b::l=>if zK b c then dS b l else b::dS b l
def bK:List NItem->List NItem
 |[]=>[]
 |a::l=>a::dS a l
theorem BQ {P:Program} (w:World) (t e p:TypeId) (z:Value) (h:P.underlying t=some (.slice e)) (l: ∀w,(zeroValue e).run P w= .ok z w) (q: ∀v∈z.cells,v.oneCell'=true) (x:0<z.cells.size) (b o n c:Nat) (u:0<n)
  (r: ∀j,j<n*z.cells.size->(w.cell? ⟨b,o+j,none⟩).isSome=true) (s: ∀j,j<n*z.cells.size->w.frozen? ⟨b,o+j,none⟩=false):
  (Builtin.clear_ #[t] p #[.slice (some ⟨b,o,none⟩) n c]).run P w= .ok (.tuple #[]) (w.setCells b o (Builtin.zeroCells z.cells n).toList):=by
 have g:(Builtin.zeroCells z.cells n).toList.length=n*z.cells.size:=by simp[Builtin.zeroCells]
 have f:=run_storeCells_cells (P:=P) b o (Builtin.zeroCells z.cells n).toList 0 w (by grind) (by grind) (by
  grind [Builtin.zeroCells,Nat.mod_lt])
 simp only[ac9]at f;obtain⟨m,rfl⟩: ∃m,n=m+1:=⟨n-1,by omega⟩;simp[Builtin.clear_,run_underlying h,l,f]
theorem ItemOk.gb {b:World} (h:ItemOk w n c) (e:w.grownBy b (some n)):ItemOk b n c:=⟨h.rd.gb h.ne e,h.ne,h.le⟩
theorem wV {k:Nat} {a:NItem} (f: ∀j a c,j+1<k+1->b[j+1]?=some a->b[j]?=some c->zK a c=false) (e:b[k]?=some a):bK b=b.take (k+1)++dS a (b.drop (k+1)):=by
 induction k generalizing a with
 |zero=>
  cases b with
  |nil=>simp at e
  |cons c l=>grind [bK]
 |succ k g=>
  grind [List.drop_eq_getElem_cons,dS]
theorem wW (f: ∀j a c,j+1<b.length->b[j+1]?=some a->b[j]?=some c->zK a c=false):bK b=b:=by
 cases m:b with
 |nil=>rfl
 |cons a l=>
  have e:0<b.length:=by grind
  obtain⟨c,g⟩:=getElem?_of_lt (l:=b) (k:=b.length-1) (by omega);have:=wV (k:=b.length-1) (fun j a c h=>f j a c (by omega)) g;grind [dS]
theorem Cq {a:NItem} (f:b[n+1]?=some a) (e:zK a c=true):dS c (b.drop (n+1))=dS a (b.drop (n+1+1)):=by
 grind [List.drop_eq_getElem_cons,dS]
theorem NU {a:NItem} (f:b[n+1]?=some a) (e:zK a c=false):dS c (b.drop (n+1))=a::dS a (b.drop (n+1+1)):=by
 grind [List.drop_eq_getElem_cons,dS]
theorem Sv {pre:List NItem} (h:pre.length<=n):(pre++b.drop pre.length)[n]?=b[n]?:=by
 grind
theorem Wg {pre:List NItem} {a:NItem} (h:pre.length<b.length):(pre++b.drop pre.length).set pre.length a=(pre++[a])++b.drop (pre++[a]).length:=by
 grind [List.drop_eq_getElem_cons]
theorem xD (g cap:Nat) (L:List NItem) (bx sx so:Nat) (w:World) (hL:yD w g (cap*2) L) (hcap:L.length<=cap) (hlen:L.length<=4611686018427387904)
  (hok: ∀it∈L,ItemOk w g it) (h1:w.cell? ⟨bx,0,none⟩=some (.pointer (some ⟨sx,so,none⟩))) (h2:w.cell? ⟨sx,so+1,none⟩=some (.func (Fn.func 132) #[] #[])) (hbx:bx≠g) (hsx:sx≠g):
  Calls prog 199 #[.slice (some ⟨g,0,none⟩) L.length cap,.func (Fn.func 200) #[] #[.pointer (some ⟨bx,0,none⟩)]] w fun e w'=>
   e= .returned (.slice (some ⟨g,0,none⟩) (bK L).length cap)/\yD w' g (cap*2) (bK L)/\w.grownBy w' (some g):=by
 have HL:=acg hL;have HOK:=acg hok;have HB1:=acg h1;have HB2:=acg h2;have HN1:=acg hbx;have HN2:=acg hsx;clear hL hok h1 h2 hbx hsx;have hz59: ∀w,(zeroValue 177).run prog w= .ok (.agg #[.int .i64 0,.slice none 0 0]) w:=fun w=>by kernel_rfl
 have HZ:=acg hz59;clear hz59;by_cases hsz:L.length<2
 ·have HC:Hid (bK L=L):=acg (wW (fun j a b h=>by omega))
  go_enter func199,ntmps199
  go_wp2_with fail
  go_ret
  rw[HC.out];exact⟨rfl,HL.out,World.grownBy.refl _ _⟩
 have hszb:decide ((L.length:Int)<2)=false:=by simp;omega
 go_enter func199,ntmps199
 go_wp2_with fail
 clear hszb
 go_loopw [5,6,7] (fun i _ _ wr=> ∃k:Nat,1<=k/\k<=L.length/\i= .int .i64 k/\Hid (Ext w wr)/\Hid (∀j a b,j+1<k->L[j+1]?=some a->L[j]?=some b->zK a b=false)) (fun i _ _ _=>L.length-(intOf i).toNat)
 case atStart=>exact⟨1,by omega,by omega,rfl,acg (Ext.refl _),acg (fun j a b h=>by omega)⟩
 case round=>
  obtain⟨k,hk1,hk,rfl,HE,HQ⟩:=hrel;by_cases hlt:k<L.length
  ·obtain⟨a,ha⟩:=getElem?_of_lt hlt;obtain⟨b,hb⟩:=getElem?_of_lt (l:=L) (k:=k-1) (by omega);have HA:=acg ha;have HB:=acg hb;clear ha hb;have HL1:=acg (HL.out.ext (HE.out.drew));have t1:=HL1.out.cell0 HA.out;have t2:=HL1.out.cell1 HA.out;have t3:=HL1.out.cell0 HB.out;have t4:=HL1.out.cell1 HB.out;have HE1:=acg HE.out.drew;clear HE;have a1:IntKind.i64.wrap ((k:Int)-1)=(k:Int)-1:=afk _ (by omega);have a2:0<=(k:Int)-1:=by omega
   have a3:((k:Int)-1).toNat=k-1:=by omega
   have a4:(k:Int)-1<(L.length:Int):=by omega
   have a5:(1:Int)<=(k:Int):=by omega
   go_wp2_with fail
   refine du 10 (by kernel_rfl) (by kernel_rfl) ?_;simp only[adS,aeM,adK,adC];generalize wr.drew=w3 at*
   iterate 10 still_step
   refine wpStill_nil ?_;have HC:=acg (A9 a b bx sx so w3 g ((HOK.out a (acd HA.out)).ext HE1.out) ((HOK.out b (acd HB.out)).ext HE1.out) (HE1.out.cell HB1.out) (HE1.out.cell HB2.out));unfold NItem.agg at HC;clear t1 t2 t3 t4 HL1 a1 a2 a3 a4 a5;cases heq:zK a b with
   |false=>
    rw[heq]at HC;have HEQ:=acg heq;clear heq
    go_wp2_with fail
    refine HC.out.mono ?_;rintro e w' ⟨rfl,he⟩;have HE2:=acg (HE1.out.trans he);clear he
    go_wp2_with fail
    go_roundw
    case rel=>
     refine⟨k+1,by omega,by omega,by go_num,HE2,acg (fun j x y hj hx hy=>?_)⟩;by_cases e:j+1=k
     ·subst e;rw[HA.out]at hx;have hB:=HB.out;rw[show j+1-1=j from by omega,hy]at hB;cases hx;cases hB;exact HEQ.out
     exact HQ.out j x y (by omega) hx hy
    grind [intOf]
   |true=>
    rw[heq]at HC;have HEQ:=acg heq;clear heq;have HCP:Hid (bK L=L.take k++dS a (L.drop (k+1))):=acg (by
     obtain⟨m,rfl⟩: ∃m,k=m+1:=⟨k-1,by omega⟩;rw[wV (k:=m) HQ.out HB.out,Cq HA.out HEQ.out])
    go_wp2_with fail
    refine HC.out.mono ?_;rintro e w' ⟨rfl,he⟩;have HE2:=acg (HE1.out.trans he);clear he HC HE1
    go_wp2_with fail
    obtain⟨wo,rfl⟩: ∃wo:World,wo=wr:=⟨_,rfl⟩
    go_loopw [7,5] (fun s i wx=> ∃(j:Nat) (pre:List NItem) (last:NItem),1<=j/\j<=L.length-k/\s= .int .i64 j/\i= .int .i64 (pre.length:Nat)/\k<=pre.length/\pre.length+1<=k+j/\Hid (L[k+j-1]?=some last)/\Hid (bK L=pre++dS last (L.drop (k+j)))/\Hid (yD wx g (cap*2) (pre++L.drop pre.length))/\Hid (w.grownBy wx (some g))) (fun s _ _=>L.length-(intOf s).toNat)
    case atStart=>
     have hlt':(L.take k).length=k:=by simp_all
     refine⟨1,L.take k,a,by omega,by omega,rfl,by rw[hlt'],by omega,by omega,acg (by rw[show k+1-1=k from by omega];exact HA.out),HCP,acg ?_,acg (gH HE2.out g)⟩;rw[hlt',agp];exact HL.out.ext HE2.out
    case round=>
     clear HE2 HCP HEQ HQ HA HB;obtain⟨j,pre,last,hj1,hj,rfl,rfl,hp1,hp2,HLA,HCP,HLS,HGB⟩:=hrel;by_cases hjl:j<L.length-k
     ·obtain⟨a2,ha2⟩:=getElem?_of_lt (l:=L) (k:=k+j) (by omega);have m1:(pre++L.drop pre.length)[k+j]?=some a2:=by rw[Sv (by omega)];exact ha2
      have m2:(pre++L.drop pre.length)[k+(j-1)]?=some last:=by rw[Sv (by omega),show k+(j-1)=k+j-1 from by omega];exact HLA.out
      have t1:=HLS.out.cell0 m1;have t2:=HLS.out.cell1 m1;have t3:=HLS.out.cell0 m2;have t4:=HLS.out.cell1 m2;rw[ae0]at t1 t2 t3 t4;have HA2:=acg ha2;have HM1:=acg m1;clear ha2 m1 m2;have t1':wr.drew.cell? _=_:=t1;have t2':wr.drew.cell? _=_:=t2;have t3':wr.drew.cell? _=_:=t3;have t4':wr.drew.cell? _=_:=t4;have HGB1:Hid (w.grownBy wr.drew (some g)):=acg (kv HGB.out (gH ((Ext.refl _).drew) g));have HLS1:Hid (yD wr.drew g (cap*2) (pre++L.drop pre.length)):=acg (HLS.out.ext ((Ext.refl _).drew));clear t1 t2 t3 t4 HGB HLS;have hjz:(j:Int)<((L.length-k:Nat):Int):=by omega
      have a1:IntKind.i64.wrap ((j:Int)-1)=(j:Int)-1:=afk _ (by omega);have a2':0<=(j:Int)-1:=by omega
      have a3:((j:Int)-1).toNat=j-1:=by omega
      have a4:(j:Int)-1<((L.length-k:Nat):Int):=by omega
      have a5:(1:Int)<=(j:Int):=by omega
      go_wp2_with fail
      refine du 10 (by kernel_rfl) (by kernel_rfl) ?_;simp only[adS,aeM,adK,adC];generalize wr.drew=w3 at*
      iterate 10 still_step
      refine wpStill_nil ?_;have HC:=acg (A9 a2 last bx sx so w3 g ((HOK.out a2 (acd HA2.out)).gb HGB1.out) ((HOK.out last (acd HLA.out)).gb HGB1.out) (qO HGB1.out HB1.out HN1.out) (qO HGB1.out HB2.out HN2.out));unfold NItem.agg at HC;clear t3' t4' a1 a2' a3 a4 a5;cases heq:zK a2 last with
      |true=>
       rw[heq]at HC;have HEQ:=acg heq;clear heq t1' t2'
       go_wp2_with fail
       refine HC.out.mono ?_;rintro e w4 ⟨rfl,he⟩;have HGB2:=acg (kv HGB1.out (gH he g));have HLS2:=acg (HLS1.out.ext he);clear he
       go_wp2_with fail
       go_roundw
       case rel=>
        refine⟨j+1,pre,a2,by omega,by omega,by go_num,rfl,hp1,by omega,acg (by rw[show k+(j+1)-1=k+j from by omega];exact HA2.out),acg ?_,HLS2,HGB2⟩;obtain⟨m,hm⟩: ∃m,k+j=m+1:=⟨k+j-1,by omega⟩;have h1:=HA2.out;rw[hm]at h1;rw[HCP.out,hm,Cq h1 HEQ.out,show k+(j+1)=m+1+1 from by omega]
       case measure=>simp[intOf];omega
      |false=>
       rw[heq]at HC;have HEQ:=acg heq;clear heq;have hpl:pre.length<L.length:=by omega
       have hpz:(pre.length:Int)<(L.length:Int):=by omega
       obtain⟨p,hp⟩: ∃p,p=pre.length:=⟨_,rfl⟩
       go_wp2_with fail
       refine HC.out.mono ?_;rintro e w4 ⟨rfl,he⟩;have HGB2:=acg (kv HGB1.out (gH he g));have HLS2:=acg (HLS1.out.ext he);have s1:=he.cell t1';have s2:=he.cell t2';have hlm:pre.length<(pre++L.drop pre.length).length:=by rw[acJ,aea];omega
       obtain⟨q,hq⟩:=getElem?_of_lt hlm;have s3:=HLS2.out.cell0 hq;have s4:=HLS2.out.cell1 hq;have s5:=HLS2.out.frozen (pre.length*2);have s6:=HLS2.out.frozen (pre.length*2+1);have HSET:=acg (HLS2.out.set hlm a2);clear he t1' t2' hq hlm HC hp
       go_wp2_with fail
       go_roundw
       case rel=>
        refine⟨j+1,pre++[a2],a2,by omega,by omega,by go_num,by simp,by simp;omega,by simp;omega,acg (by rw[show k+(j+1)-1=k+j from by omega];exact HA2.out),acg ?_,acg ?_,acg (DV (DV HGB2.out _ _) _ _)⟩
        ·obtain⟨m,hm⟩: ∃m,k+j=m+1:=⟨k+j-1,by omega⟩;have h1:=HA2.out;rw[hm]at h1;rw[HCP.out,hm,NU h1 HEQ.out,show k+(j+1)=m+1+1 from by omega]
         simp
        have:=HSET.out;rw[Wg hpl]at this;exact this
       case measure=>simp[intOf];omega
     have hjl':j=L.length-k:=by omega
     have HF:Hid (bK L=pre):=acg (by rw[HCP.out,show k+j=L.length from by omega,ae4];simp[dS]);have hpl:pre.length<L.length:=by omega
     have hcl: ∀ty,(Builtin.clear_ #[171] ty #[.slice (some ⟨g,pre.length*2,none⟩) (L.length-pre.length) (cap-pre.length)]).run prog wr= .ok (.tuple #[]) (wr.setCells g (pre.length*2) (Builtin.zeroCells #[.int .i64 0,.slice none 0 0] (L.length-pre.length)).toList):=fun ty=>by
      obtain⟨f,f1,f2,f3⟩:=HLS.out;refine BQ wr _ 177 ty (.agg #[.int .i64 0,.slice none 0 0]) underlying171 HZ.out (by simp[Value.cells,Value.oneCell']) (by simp[Value.cells]) g _ _ _ (by omega) (fun j hj=>?_) (fun j hj=>f1.frozen _);simp[Value.cells]at hj;rw[f1.cell (by omega)];rfl
     have HCL:Hid (yD (wr.setCells g (pre.length*2) (Builtin.zeroCells #[.int .i64 0,.slice none 0 0] (L.length-pre.length)).toList) g (cap*2) pre):=acg (by
      obtain⟨f,f1,f2,f3⟩:=HLS.out;obtain⟨f',q1,q2,_⟩:=uS (Builtin.zeroCells #[.int .i64 0,.slice none 0 0] (L.length-pre.length)).toList (pre.length*2) wr f f1;refine⟨f',q1,by omega,fun i it hi=>?_⟩;have hlt:=(aci.1 hi).1;have:=f3 i it (by simp_all[acx]);rw[q2 _ (by omega),q2 _ (by omega)];exact this)
     have HGB3:Hid (w.grownBy (wr.setCells g (pre.length*2) (Builtin.zeroCells #[.int .i64 0,.slice none 0 0] (L.length-pre.length)).toList) (some g)):=acg (w8 (b:=wr) _ _ HGB.out);clear hjl'
     go_wp2_with fail
     go_ret
     rw[HF.out];exact⟨rfl,HCL.out,HGB3.out⟩
  have HC:Hid (bK L=L):=acg (wW (fun j a b h=>HQ.out j a b (by omega)))
  go_wp2_with fail
  go_ret
  rw[HC.out];exact⟨rfl,HL.out.ext HE.out,gH HE.out g⟩
end Go.Proofs.YtalmoejhjceflaaGreat
namespace Go.Proofs
open Go.Shelf
def Tryz.sortK_ren:Go.Shelf.Ren:=⟨fun|6=>198|15=>127|14=>229|28=>184|29=>185|20=>244|21=>245|22=>246|23=>247|24=>248|25=>249|26=>250|27=>251|46=>254|47=>216|48=>217|49=>255|50=>256|57=>257|n=>n,fun|22=>171|24=>177|25=>170|3=>3|39=>164|0=>0|53=>165|55=>116|4=>4|46=>213|45=>212|50=>51|5=>5|9=>9|66=>250|70=>254|76=>268|77=>269|n=>n,fun|n=>n⟩
theorem Tryz.sortK:Go.Proofs.SlLaysF0.n6 prog Tryz.sortK_ren:={
 mixed:=by kernel_rfl
 f6:=⟨f198.name,by decide,func198.trans (congrArg some (by kernel_rfl))⟩
 f14:=⟨f229.name,by decide,func229.trans (congrArg some (by kernel_rfl))⟩
 f15:=func127.trans (congrArg some (by kernel_rfl))
 f20:=⟨f244.name,by decide,func244.trans (congrArg some (by kernel_rfl))⟩
 f21:=⟨f245.name,by decide,func245.trans (congrArg some (by kernel_rfl))⟩
 f22:=⟨f246.name,by decide,func246.trans (congrArg some (by kernel_rfl))⟩
 f23:=⟨f247.name,by decide,func247.trans (congrArg some (by kernel_rfl))⟩
 f24:=⟨f248.name,by decide,func248.trans (congrArg some (by kernel_rfl))⟩
 f25:=⟨f249.name,by decide,func249.trans (congrArg some (by kernel_rfl))⟩
 f26:=⟨f250.name,by decide,func250.trans (congrArg some (by kernel_rfl))⟩
 f27:=⟨f251.name,by decide,func251.trans (congrArg some (by kernel_rfl))⟩
 f28:=func184.trans (congrArg some (by kernel_rfl))
 f29:=func185.trans (congrArg some (by kernel_rfl))
 f46:=⟨f254.name,by decide,func254.trans (congrArg some (by kernel_rfl))⟩
 f47:=func216.trans (congrArg some (by kernel_rfl))
 f48:=func217.trans (congrArg some (by kernel_rfl))
 f49:=⟨f255.name,by decide,func255.trans (congrArg some (by kernel_rfl))⟩
 f50:=⟨f256.name,by decide,func256.trans (congrArg some (by kernel_rfl))⟩
 f57:=⟨f257.name,by decide,func257.trans (congrArg some (by kernel_rfl))⟩
 t0:=underlying0
 a0:=isAgg0
 z0:=sizeOf0
 v0:=zeroValue0
 t3:=underlying3
 a3:=isAgg3
 z3:=sizeOf3
 v3:=zeroValue3
 t4:=underlying4
 a4:=isAgg4
 z4:=sizeOf4
 v4:=zeroValue4
 t5:=underlying5
 a5:=isAgg5
 z5:=sizeOf5
 v5:=zeroValue5
 t9:=underlying9
 a9:=isAgg9
 z9:=sizeOf9
 v9:=zeroValue9
 t22:=underlying171
 a22:=isAgg171
 z22:=sizeOf171
 v22:=zeroValue171
 t25:=underlying170
 a25:=isAgg170
 z25:=sizeOf170
 v25:=zeroValue170
 t39:=underlying164
 a39:=isAgg164
 z39:=sizeOf164
 v39:=zeroValue164
 t45:=underlying212
 a45:=isAgg212
 z45:=sizeOf212
 v45:=zeroValue212
 t46:=underlying213
 a46:=isAgg213
 z46:=sizeOf213
 v46:=zeroValue213
 t50:=underlying51
 a50:=isAgg51
 z50:=sizeOf51
 v50:=zeroValue51
 t53:=underlying165
 a53:=isAgg165
 z53:=sizeOf165
 v53:=zeroValue165
 t55:=underlying116
 a55:=isAgg116
 z55:=sizeOf116
 v55:=zeroValue116
 t66:=underlying250
 a66:=isAgg250
 z66:=sizeOf250
 v66:=zeroValue250
 t70:=underlying254
 a70:=isAgg254
 z70:=sizeOf254
 v70:=zeroValue254
 t76:=underlying268
 a76:=isAgg268
 z76:=sizeOf268
 v76:=zeroValue268
 t77:=underlying269
 a77:=isAgg269
 z77:=sizeOf269
 v77:=zeroValue269}
end Go.Proofs
namespace Go.Proofs.YtalmoejhjceflaaGreat
open Go.RowKit Go.Proofs.Tryz
variable {n m:Nat} {b:List NItem} {w:World} {c:NItem}
section
open Go.Sort (flatK putRowK HoldsK get_flatK size_flatK)
def pW (b:NItem):List Value:=[.int .i64 b.key,.slice b.at_ b.vals.length b.cap]
theorem EI {w:World} {N:Nat} {f:Nat->Value} (h:w.rowIs n m N f) (d:Array Value):(Sort.putRow id w n 0 d).rowIs n m N (fun k=>if k<d.size then d[k]! else f k):=by
 obtain⟨c,e,b,j⟩:=h;refine⟨Sort.putCells id 0 d c,?_,by simp[Sort.putCells,b],fun i l=>?_⟩
 ·grind [Sort.putRow,Sort.mapBlock,Sort.onCells]
 grind [Sort.putCells]
theorem ED (w:World) (g:Nat) (d:Array Value) (k:Nat) (b:k≠g):(Sort.putRow id w g 0 d).heap[k]?=w.heap[k]?:=by
 grind [Sort.putRow,Sort.mapBlock]
section
variable {α:Type} [Inhabited α] (enc:α->List Value) (w:World) (g n:Nat) (d:Array α) (os:Array Obj)
theorem H5:w.grownBy (sortWorldK enc 2 w g 0 n d os) (some g):=by
 unfold sortWorldK putRowK;refine⟨rfl,rfl,rfl,?_,fun k c b=>?_⟩
 ·simp
 show((Sort.putRow id (Sort.ahead w n) g 0 _).heap++os)[k]?=w.heap[k]?;rw[ac8 (by simp_all),ED _ _ _ _ (fun e=>b (by rw[e]))];rfl
theorem Pg {N:Nat} {f:Nat->Value} (h:w.rowIs g m N f):(sortWorldK enc 2 w g 0 n d os).rowIs g m N (fun k=>if k<(flatK enc 2 d).size then(flatK enc 2 d)[k]! else f k):=by
 have b:=EI (w:=Sort.ahead w n) h (flatK enc 2 d);refine b.of_block ?_;unfold sortWorldK putRowK;show((Sort.putRow id (Sort.ahead w n) g 0 _).heap++os)[g]?=_;rw[ac8 b.lt]
end
structure xx (w:World) (g:Nat) where
 it:NItem
 ok:ItemOk w g it
instance (w:World) (g:Nat):Inhabited (xx w g):=⟨⟨⟨0,[],none,0⟩,⟨RdI.nil _ _ _,(by simp),by simp⟩⟩⟩
def wZ (w:World) (g:Nat) (x:xx w g):List Value:=pW x.it
def tK (w:World) (g:Nat) (L:List NItem) (h: ∀b∈L,ItemOk w g b):Array (xx w g):=(L.attach.map fun x=>(⟨x.1,h x.1 x.2⟩:xx w g)).toArray
theorem oh (h: ∀c∈b,ItemOk w n c):(tK w n b h).size=b.length:=by
 grind [tK]
theorem y6 (h: ∀c∈b,ItemOk w n c):(tK w n b h).toList.map (fun x:xx w n=>x.it)=b:=by
 simp_all[tK]
theorem Mc (d:Array (xx w n)) {j:Nat} {it:NItem} (c:(d.toList.map (fun x:xx w n=>x.it))[j]?=some it):
  (flatK (wZ w n) 2 d)[j*2]! = .int .i64 it.key/\(flatK (wZ w n) 2 d)[j*2+1]! =it.val:=by
 have b:j<d.size:=by grind
 grind [get_flatK,wZ,pW,NItem.val]
theorem DW (p:yD w n m b) (h: ∀c∈b,ItemOk w n c):HoldsK (wZ w n) 2 w n 0 (tK w n b h):=by
 obtain⟨f,l,u,o⟩:=p;intro t s;rw[size_flatK,oh]at s;have r:t/2<b.length:=by omega
 obtain⟨c,e⟩:=getElem?_of_lt r;have q:=Mc (tK w n b h) (j:=t/2) (it:=c) (by grind [y6]);obtain⟨v,x⟩:=o _ _ e;rw[acQ];refine⟨?_,l.frozen t⟩;rw[l.cell (by omega)];grind
theorem ItemOk.sortW {d:Array (xx w n)} {b:Array Obj} (h:ItemOk w n c):ItemOk (sortWorldK (wZ w n) 2 w n 0 m d b) n c:=h.gb (H5 _ _ _ _ _ _)
theorem Jk (w:World) (g size:Nat):CmpLays prog 132 #[] (wZ w g) 2 (fun a b=>kY a.it b.it) g 0 size w:=fun m e dk c x y=>
 mq x.it.key y.it.key x.it.at_ y.it.at_ x.it.cap y.it.cap x.it.vals y.it.vals _ x.ok.sortW.rd y.ok.sortW.rd x.ok.le y.ok.le
def tu (L:List NItem):Prop:= ∀(i j:Nat) a b,i<j->L[i]?=some a->L[j]?=some b-> ¬kY b a<0
theorem EY (g cap:Nat) (L:List NItem) (w:World) (E:yD w g (cap*2) L) (m:L.length<4611686018427387904) (l: ∀A∈L,ItemOk w g A):
  Calls prog 198 #[.slice (some ⟨g,0,none⟩) L.length cap,.func (Fn.func 132) #[] #[]] w fun e y=>
   ∃p,e= .returned (.tuple #[])/\p.Perm L/\tu p/\yD y g (cap*2) p/\w.grownBy y (some g):=by
 have B: ∀args w,(callFunc 132 args).run prog w= .ok (.enter 132 args) w:=enters_of func132 (by kernel_rfl) rfl;obtain⟨f,q,C,D⟩:=E;have t:=q.lt;have c:=AnyQ.slices_SortFunc (α:=xx w g) Tryz.sortK 2 (fun w=>by kernel_rfl) (fun w=>by kernel_rfl) (wZ w g) (fun _=>rfl) (fun x v z=>by simp[wZ,pW]at z;rcases z with rfl|rfl<;>rfl) (fun a b=>kY a.it b.it) (abI fun x:xx w g=>x.it) 132 #[] g 0 cap (tK w g L l) w B (Jk w g _) (DW ⟨f,q,C,D⟩ l) t (by rw[oh];exact m)
 change Calls prog 198 _ _ _ at c
 rw[oh]at c;refine c.mono fun e y ⟨F,h,n,R,H,J,K⟩=>?_
 obtain⟨o,_,u⟩:=H;rw[oh]at o;have s:(h.toList.map (fun x:xx w g=>x.it)).length=L.length:=by simp[o]
 refine⟨h.toList.map (fun x:xx w g=>x.it),F,?_,?_,?_,by grind [H5]⟩
 ·have I:h.toList.Perm (tK w g L l).toList:=by
   have M:h.extract 0 L.length=h:=by grind
   grind [tK]
  grind [y6]
 ·intro i j a b r P Q;have G:j<h.size:=by grind
  have N:h[i]!.it=a:=by
   grind
  have O:h[j]!.it=b:=by
   grind
  have:=J i j (acL _) r (by omega);grind [ltOf]
 rw[K];refine⟨_,Pg _ _ _ _ _ _ q,by omega,fun j A G=>?_⟩;grind [Mc,size_flatK]
theorem TE (sx g cap:Nat) (L:List NItem) (w:World) (hL:yD w g (cap*2) L) (hcap:L.length<=cap) (hlen:L.length<=4611686018427387903) (hok: ∀it∈L,ItemOk w g it)
  (hS:w.rowIs sx 173 2 (fun j=>if j=0 then .slice (some ⟨g,0,none⟩) L.length cap else .func (Fn.func 132) #[] #[])) (hsx:sx≠g):
  Calls prog 136 #[.pointer (some ⟨sx,0,none⟩)] w fun e w'=>
   ∃L',e= .returned (.tuple #[])/\L'.Perm L/\tu L'/\yD w' g (cap*2) (bK L')/\w'.cell? ⟨sx,0,none⟩=some (.slice (some ⟨g,0,none⟩) (bK L').length cap)/\w'.rowIs sx 173 2 (fun j=>if j=0 then .slice (some ⟨g,0,none⟩) (bK L').length cap else .func (Fn.func 132) #[] #[])/\
    (∀k,k<w.heap.size->k≠g->k≠sx->w'.heap[k]?=w.heap[k]?)/\w.heap.size<=w'.heap.size/\w'.os=w.os/\w'.tape=w.tape/\w'.output=w.output:=by
 have HL:=acg hL;have HOK:=acg hok;have HS:=acg hS;have HN:=acg hsx;have hglt:g<w.heap.size:=by obtain⟨f,h1,_⟩:=hL;exact h1.lt
 have hslt:=hS.lt;clear hL hok hS hsx
 go_enter func136,ntmps136
 go_wp2_with fail
 have c0:(w.alloc (.cells #[.pointer (some ⟨sx,0,none⟩)] 237)).drew.cell? ⟨w.heap.size,0,none⟩=some (.pointer (some ⟨sx,0,none⟩)):=by go_simp
 have HE0:Hid (Ext w (w.alloc (.cells #[.pointer (some ⟨sx,0,none⟩)] 237)).drew):=acg ((Ext.refl _).alloc _).drew;have hz0:w.heap.size<(w.alloc (.cells #[.pointer (some ⟨sx,0,none⟩)] 237)).drew.heap.size:=by simp[World.drew]
 generalize w.alloc (.cells #[.pointer (some ⟨sx,0,none⟩)] 237)=w1 at*
 refine du 8 (by kernel_rfl) (by kernel_rfl) ?_;simp only[adS,aeM,adK,adC];generalize w1.drew=w2 at*
 have s0:w2.cell? ⟨sx,0,none⟩=some (.slice (some ⟨g,0,none⟩) L.length cap):=(di HS.out HE0.out).cell (by omega);have s1:w2.cell? ⟨sx,1,none⟩=some (.func (Fn.func 132) #[] #[]):=(di HS.out HE0.out).cell (by omega)
 iterate 8 still_step
 refine wpStill_nil ?_;have HC:=acg (EY g cap L w2 (HL.out.ext HE0.out) (by omega) (fun it hit=>(HOK.out it hit).ext HE0.out));clear s1
 go_wp2_with fail
 refine HC.out.mono ?_;rintro e w3 ⟨L',rfl,hperm,hsorted,hlst,hgb⟩;have HP:=acg hperm;have HSO:=acg hsorted;have HLS:=acg hlst;have HG3:=acg hgb;have HLL:Hid (L'.length=L.length):=acg hperm.length_eq;clear hperm hsorted hlst hgb HC s0
 go_wp2_with fail
 have HOK3:Hid (∀it∈L',ItemOk w3 g it):=acg (fun it hit=>((HOK.out it (HP.out.subset hit)).ext HE0.out).gb HG3.out);have HS3:Hid (w3.rowIs sx 173 2 (fun j=>if j=0 then .slice (some ⟨g,0,none⟩) L.length cap else .func (Fn.func 132) #[] #[])):=acg ((di HS.out HE0.out).of_block (HG3.out.block sx (acp hslt HE0.out.size) (fun e=>HN.out (by injection e))));have d0:w3.cell? ⟨w.heap.size,0,none⟩=some (.pointer (some ⟨sx,0,none⟩)):=qO HG3.out c0 (by grind);have d1:w3.cell? ⟨sx,0,none⟩=some (.slice (some ⟨g,0,none⟩) L.length cap):=HS3.out.cell (by omega);have d2:w3.frozen? ⟨sx,0,none⟩=false:=HS3.out.frozen 0;have hcon:=xD g cap L' w.heap.size sx 0 w3.drew (HLS.out.ext ((Ext.refl _).drew)) (by rw[HLL.out];exact hcap) (by rw[HLL.out];omega) (fun it hit=>(HOK3.out it hit).ext ((Ext.refl _).drew)) d0 (show w3.drew.cell? ⟨sx,0+1,none⟩=_ from HS3.out.cell (i:=1) (by omega)) (by omega) HN.out;rw[HLL.out]at hcon;have HC:=acg hcon;clear hcon c0;have HG4:Hid (w2.grownBy w3.drew (some g)):=acg (kv HG3.out (gH ((Ext.refl _).drew) g))
 go_region_law (go_simp;go_at_call 199;refine HC.out.mono ?_;rintro e w5 ⟨rfl,hlst,hgb⟩;have HLS5:=acg hlst;have HG5:=acg hgb;have HS5:Hid (w5.rowIs sx 173 2 (fun j=>if j=0 then .slice (some ⟨g,0,none⟩) L.length cap else .func (Fn.func 132) #[] #[])):=acg (HS3.out.of_block (hgb.block sx HS3.out.lt (fun e=>HN.out (by injection e))));have f0:w5.cell? ⟨w.heap.size,0,none⟩=some (.pointer (some ⟨sx,0,none⟩)):=qO hgb d0 (by show w.heap.size≠g;omega);have f1:w5.cell? ⟨sx,0,none⟩=some (.slice (some ⟨g,0,none⟩) L.length cap):=HS5.out.cell (by omega);have f2:w5.frozen? ⟨sx,0,none⟩=false:=HS5.out.frozen 0;clear hlst hgb)
 all_goals
  go_wp2_with fail
  go_end0
  have hrow:=(HS5.out.set 0 (.slice (some ⟨g,0,none⟩) (bK L').length cap)).congr (g:=fun j=>if j=0 then .slice (some ⟨g,0,none⟩) (bK L').length cap else .func (Fn.func 132) #[] #[]) (fun j hj=>by
   match j,hj with
   |0,_=>rfl
   |1,_=>rfl)
  have hgg:=kv (kv (gH HE0.out g) HG4.out) HG5.out;refine⟨L',rfl,HP.out,HSO.out,?_,hrow.cell (by omega),hrow,fun k hk hkg hks=>?_,?_,hgg.os,hgg.tape,hgg.output⟩
  ·obtain⟨f,q1,q2,q3⟩:=HLS5.out;exact⟨f,q1.setOther (aed HN.out) _,q2,q3⟩
  ·rw[afK _ _ _ _ hks];exact hgg.block k hk (fun e=>hkg (by injection e))
  simpa[World.setCell] using hgg.size
end
theorem EZ (w:World):
  Calls prog 198 #[.slice none 0 0,.func (Fn.func 132) #[] #[]] w fun e w'=>e= .returned (.tuple #[])/\ ∃n,w'=w.drewN n:=by
 have hl: ∀w,Calls prog 127 #[.int .u64 0] w fun e w'=>e= .returned (.int .i64 0)/\w=w':=fun w=>by
  go_enter func127,ntmps127
  go_wp2
  go_ret
  refine⟨?_,rfl⟩;show Ending.returned (.int .i64 (wrap64 (wrap64 (Lib.len8 0))))=_;rw[show Lib.len8 0=0 from by rfl,aeD 0 ⟨by omega,by omega⟩,aeD 0 ⟨by omega,by omega⟩]
 have hi: ∀w,Calls prog 244 #[.slice none 0 0,.int .i64 0,.int .i64 0,.func (Fn.func 132) #[] #[]] w fun e w'=>e= .returned (.tuple #[])/\w=w':=fun w=>by
  go_enter func244,ntmps244
  go_wp2
  refine wp_loop_rounds 1 ?_;rw[rounds_succ]
  go_wp2
  go_end0
  simp
 have hp: ∀w,Calls prog 229 #[.slice none 0 0,.int .i64 0,.int .i64 0,.int .i64 0,.func (Fn.func 132) #[] #[]] w fun e w'=>e= .returned (.tuple #[])/\w=w':=fun w=>by
  have HI:=acg hi;clear hi hl
  go_enter func229,ntmps229
  go_wp2_with fail
  refine wp_loop_rounds 1 ?_;rw[rounds_succ]
  go_wp2_with (go_at_call 244;refine(HI.out _).mono ?_;rintro e w' ⟨rfl,rfl⟩)
  refine bodyPost_ret (results_none rfl _ _ _) rfl ?_
  simp
 have HP:=acg hp;have HLn:=acg hl;clear hp hl hi
 go_enter func198,ntmps198
 go_wp2_with (first|(go_at_call 127;refine(HLn.out _).mono ?_;rintro e w' ⟨rfl,rfl⟩)|(go_at_call 229;refine(HP.out _).mono ?_;rintro e w' ⟨rfl,rfl⟩))
 go_end0
 exact⟨rfl,0,rfl⟩
theorem xE (w:World) (fv:Value):
  Calls prog 199 #[.slice none 0 0,fv] w fun e w'=>e= .returned (.slice none 0 0)/\w=w':=by
 go_enter func199,ntmps199
 go_wp2_with fail
 go_ret
 simp
theorem TF (sx:Nat) (w:World) (hS:w.rowIs sx 173 2 (fun j=>if j=0 then .slice none 0 0 else .func (Fn.func 132) #[] #[])):
  Calls prog 136 #[.pointer (some ⟨sx,0,none⟩)] w fun e w'=>
   e= .returned (.tuple #[])/\w'.cell? ⟨sx,0,none⟩=some (.slice none 0 0)/\
    (∀k,k<w.heap.size->k≠sx->w'.heap[k]?=w.heap[k]?)/\w.heap.size<=w'.heap.size/\w'.os=w.os/\w'.tape=w.tape/\w'.output=w.output:=by
 have HS:=acg hS;have hslt:=hS.lt;clear hS
 go_enter func136,ntmps136
 go_wp2_with fail
 have c0:(w.alloc (.cells #[.pointer (some ⟨sx,0,none⟩)] 237)).drew.cell? ⟨w.heap.size,0,none⟩=some (.pointer (some ⟨sx,0,none⟩)):=by go_simp
 have HE0:Hid (Ext w (w.alloc (.cells #[.pointer (some ⟨sx,0,none⟩)] 237)).drew):=acg ((Ext.refl _).alloc _).drew;generalize w.alloc (.cells #[.pointer (some ⟨sx,0,none⟩)] 237)=w1 at*
 refine du 8 (by kernel_rfl) (by kernel_rfl) ?_;simp only[adS,aeM,adK,adC];generalize w1.drew=w2 at*
 have s0:w2.cell? ⟨sx,0,none⟩=some (.slice none 0 0):=(di HS.out HE0.out).cell (by omega);have s1:w2.cell? ⟨sx,1,none⟩=some (.func (Fn.func 132) #[] #[]):=(di HS.out HE0.out).cell (by omega)
 iterate 8 still_step
 refine wpStill_nil ?_;have HC:=acg (EZ w2);clear s1
 go_wp2_with fail
 refine HC.out.mono ?_;rintro e w3 ⟨rfl,n,rfl⟩;have HE3:=acg (HE0.out.drewN n);have d0:(w2.drewN n).cell? ⟨w.heap.size,0,none⟩=some (.pointer (some ⟨sx,0,none⟩)):=c0;have d1:(w2.drewN n).cell? ⟨sx,0,none⟩=some (.slice none 0 0):=s0;have d2:(w2.drewN n).frozen? ⟨sx,0,none⟩=false:=(di HS.out HE3.out).frozen 0;clear HC s0 c0 HE0;generalize w2.drewN n=w3 at*
 have HC:Hid (∀(w:World) (fv:Value),Calls prog 199 #[.slice none 0 0,fv] w fun e w'=>e= .returned (.slice none 0 0)/\w=w'):=acg xE
 go_wp2_with fail
 go_region_law (go_simp;go_at_call 199;refine(HC.out _ _).mono ?_;rintro e w5 ⟨rfl,rfl⟩)
 all_goals
  go_wp2_with fail
  go_end0
  refine⟨rfl,?_,fun k hk hks=>?_,?_,HE3.out.os,HE3.out.tape,HE3.out.output⟩
  ·exact(((di HS.out HE3.out).drew.set 0 (.slice none 0 0)).cell (i:=0) (by omega))
  ·show((w3.drew.setCell ⟨sx,0,none⟩ (.slice none 0 0)).heap[k]?)=_;rw[afK _ _ _ _ hks];exact HE3.out.block k hk
  have:=HE3.out.size;simpa[World.setCell,World.drew] using this
end Go.Proofs.YtalmoejhjceflaaGreat
