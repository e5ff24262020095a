/-
  Part 15 of a proof (walks and plain facts).
-/
import Derived.Test.YtalmoejhjceflaaGreatV13
import Derived.Shelf.SlSortCmp.WholeK
import Derived.Ground.SlsfProg
import Derived.Test.YtalmoejhjceflaaGreatProg
import Derived.Deep.RegionHeld3
import Derived.Deep.RegionLaw
set_option linter.all false
set_option maxRecDepth 100000
set_option maxHeartbeats 64000000
open Nat renaming reduceAdd → aa
open Nat renaming reduceEqDiff → ae
open List renaming replicate → af
open Nat renaming reduceBEq → ag
open Nat renaming reduceLeDiff → ah
open Int renaming reduceToNat → ai
namespace Go.Proofs.YtalmoejhjceflaaGreat
open Go.RowKit Go.Proofs.Tryz
variable {b:Exit->AS->Prop} {c:Exit->AS->List PV->Prop} {n m:Nat} {e f:Code} {g:List NItem} {h:List PV} {j:TypeId} {w:World} {l:Operand} {o:List Nat} {p:NItem} {q:Array Oper} {r:Func}
def zU (w:World) (g N:Nat) (L:List NItem):Prop:=
 ∃f,w.rowIs g 177 N f/\L.length*2<=N/\ ∀j b,L[j]?=some b->f (j*2)= .int .i64 b.key/\f (j*2+1)=b.val
theorem zU.ext {b:World} (h:zU w n m g) (e:fm w b):zU b n m g:=by
 obtain⟨f,c,j,l⟩:=h;exact⟨f,jN c e,j,l⟩
theorem zU.cell0 (h:zU w n m g) {j:Nat} (b:g[j]?=some p):w.cell? ⟨n,j*2,none⟩=some (.int .i64 p.key):=by
 obtain⟨f,c,l,e⟩:=h;have:=(aeI.1 b).1;rw[c.cell (by omega),(e j p b).1]
theorem zU.cell1 (h:zU w n m g) {j:Nat} (b:g[j]?=some p):w.cell? ⟨n,j*2+1,none⟩=some (.slice p.at_ p.vals.length p.cap):=by
 obtain⟨f,c,l,e⟩:=h;have:=(aeI.1 b).1;rw[c.cell (by omega),(e j p b).2];rfl
theorem zU.frozen (h:zU w n m g) (j:Nat):w.frozen? ⟨n,j,none⟩=false:=by
 obtain⟨f,b,c,e⟩:=h;exact b.frozen j
theorem zU.set (h:zU w n m g) {i:Nat} (o:i<g.length) (b:NItem):
  zU ((w.setCell ⟨n,i*2,none⟩ (.int .i64 b.key)).setCell ⟨n,i*2+1,none⟩ (.slice b.at_ b.vals.length b.cap)) n m (g.set i b):=by
 obtain⟨f,l,q,r⟩:=h;refine⟨_,(l.set (i*2) _).set (i*2+1) _,by grind,fun j p c=>?_⟩;rw[afG]at c;by_cases e:i=j
 ·subst e;rw[if_pos rfl,if_pos o]at c;cases c;constructor
  ·simp
  rw[if_pos rfl];rfl
 grind
def fh (c:NItem):List NItem->List NItem
 |[]=>[]
 |b::l=>if AU b c then fh b l else b::fh b l
def dn:List NItem->List NItem
 |[]=>[]
 |a::l=>a::fh a l
theorem C6 {P:Program} (w:World) (t e p:TypeId) (z:Value) (h:P.underlying t=some (.slice e)) (l: ∀w,(zeroValue e).run P w= .ok z w) (q: ∀v∈z.cells,v.oneCell'=true) (x:0<z.cells.size) (b o n c:Nat) (u:0<n)
  (r: ∀j,j<n*z.cells.size->(w.cell? ⟨b,o+j,none⟩).isSome=true) (s: ∀j,j<n*z.cells.size->w.frozen? ⟨b,o+j,none⟩=false):
  (Builtin.clear_ #[t] p #[.slice (some ⟨b,o,none⟩) n c]).run P w= .ok (.tuple #[]) (w.setCells b o (Builtin.zeroCells z.cells n).toList):=by
 have g:(Builtin.zeroCells z.cells n).toList.length=n*z.cells.size:=by simp[Builtin.zeroCells]
 have f:=run_storeCells_cells (P:=P) b o (Builtin.zeroCells z.cells n).toList 0 w (by grind) (by grind) (by
  grind [Builtin.zeroCells,Nat.mod_lt])
 simp only[ago]at f;obtain⟨m,rfl⟩: ∃m,n=m+1:=⟨n-1,by omega⟩;simp[Builtin.clear_,run_underlying h,l,f]
theorem ItemOk.gb {b:World} (h:ItemOk w n p) (c:w.grownBy b (some n)):ItemOk b n p:=⟨h.rd.gb h.ne c,h.ne,h.le⟩
theorem yl {k:Nat} {a:NItem} (e: ∀j a b,j+1<k+1->g[j+1]?=some a->g[j]?=some b->AU a b=false) (c:g[k]?=some a):dn g=g.take (k+1)++fh a (g.drop (k+1)):=by
 induction k generalizing a with
 |zero=>
  cases g with
  |nil=>simp at c
  |cons b l=>grind [dn]
 |succ k f=>
  grind [List.drop_eq_getElem_cons,fh]
theorem ym (e: ∀j a b,j+1<g.length->g[j+1]?=some a->g[j]?=some b->AU a b=false):dn g=g:=by
 cases m:g with
 |nil=>rfl
 |cons a l=>
  have c:0<g.length:=by grind
  obtain⟨b,f⟩:=getElem?_of_lt (l:=g) (k:=g.length-1) (by omega);have:=yl (k:=g.length-1) (fun j a b h=>e j a b (by omega)) f;grind [fh]
theorem Ds {a:NItem} (c:g[n+1]?=some a) (e:AU a p=true):fh p (g.drop (n+1))=fh a (g.drop (n+1+1)):=by
 grind [List.drop_eq_getElem_cons,fh]
theorem QH {a:NItem} (c:g[n+1]?=some a) (e:AU a p=false):fh p (g.drop (n+1))=a::fh a (g.drop (n+1+1)):=by
 grind [List.drop_eq_getElem_cons,fh]
theorem Vt {pre:List NItem} (h:pre.length<=n):(pre++g.drop pre.length)[n]?=g[n]?:=by
 grind
theorem Zn {pre:List NItem} {a:NItem} (h:pre.length<g.length):(pre++g.drop pre.length).set pre.length a=(pre++[a])++g.drop (pre++[a]).length:=by
 grind [List.drop_eq_getElem_cons]
theorem yQ (g cap:Nat) (L:List NItem) (bx sx so:Nat) (w:World) (hL:zU w g (cap*2) L) (hcap:L.length<=cap) (hlen:L.length<=4611686018427387904)
  (hok: ∀it∈L,ItemOk w g it) (h1:w.cell? ⟨bx,0,none⟩=some (.pointer (some ⟨sx,so,none⟩))) (h2:w.cell? ⟨sx,so+1,none⟩=some (.func (Fn.func 132) #[] #[])) (hbx:bx≠g) (hsx:sx≠g):
  Calls prog 199 #[.slice (some ⟨g,0,none⟩) L.length cap,.func (Fn.func 200) #[] #[.pointer (some ⟨bx,0,none⟩)]] w fun e w'=>
   e= .returned (.slice (some ⟨g,0,none⟩) (dn L).length cap)/\zU w' g (cap*2) (dn L)/\w.grownBy w' (some g):=by
 have HL:=aeV hL;have HOK:=aeV hok;have HB1:=aeV h1;have HB2:=aeV h2;have HN1:=aeV hbx;have HN2:=aeV hsx;clear hL hok h1 h2 hbx hsx;have hz59: ∀w,(zeroValue 177).run prog w= .ok (.agg #[.int .i64 0,.slice none 0 0]) w:=fun w=>by kernel_rfl
 have HZ:=aeV hz59;clear hz59;by_cases hsz:L.length<2
 ·have HC:Hid (dn L=L):=aeV (ym (fun j a b h=>by omega))
  go_enter func199,ntmps199
  go_wp2_with fail
  go_ret
  rw[HC.out];exact⟨rfl,HL.out,World.grownBy.refl _ _⟩
 have hszb:decide ((L.length:Int)<2)=false:=by simp;omega
 go_enter func199,ntmps199
 go_wp2_with fail
 clear hszb
 go_loopw [5,6,7] (fun i _ _ wr=> ∃k:Nat,1<=k/\k<=L.length/\i= .int .i64 k/\Hid (fm w wr)/\Hid (∀j a b,j+1<k->L[j+1]?=some a->L[j]?=some b->AU a b=false)) (fun i _ _ _=>L.length-(intOf i).toNat)
 case atStart=>exact⟨1,by omega,by omega,rfl,aeV (fm.refl _),aeV (fun j a b h=>by omega)⟩
 case round=>
  obtain⟨k,hk1,hk,rfl,HE,HQ⟩:=hrel;by_cases hlt:k<L.length
  ·obtain⟨a,ha⟩:=getElem?_of_lt hlt;obtain⟨b,hb⟩:=getElem?_of_lt (l:=L) (k:=k-1) (by omega);have HA:=aeV ha;have HB:=aeV hb;clear ha hb;have HL1:=aeV (HL.out.ext (HE.out.drew));have t1:=HL1.out.cell0 HA.out;have t2:=HL1.out.cell1 HA.out;have t3:=HL1.out.cell0 HB.out;have t4:=HL1.out.cell1 HB.out;have HE1:=aeV HE.out.drew;clear HE;have a1:IntKind.i64.wrap ((k:Int)-1)=(k:Int)-1:=aht _ (by omega);have a2:0<=(k:Int)-1:=by omega
   have a3:((k:Int)-1).toNat=k-1:=by omega
   have a4:(k:Int)-1<(L.length:Int):=by omega
   have a5:(1:Int)<=(k:Int):=by omega
   go_wp2_with fail
   refine ee 10 (by kernel_rfl) (by kernel_rfl) ?_;simp only[af6,agX,agp,agx];generalize wr.drew=w3 at*
   iterate 10 still_step
   refine wpStill_nil ?_;have HC:=aeV (Ck a b bx sx so w3 g ((HOK.out a (adQ HA.out)).ext HE1.out) ((HOK.out b (adQ HB.out)).ext HE1.out) (HE1.out.cell HB1.out) (HE1.out.cell HB2.out));unfold NItem.agg at HC;clear t1 t2 t3 t4 HL1 a1 a2 a3 a4 a5;cases heq:AU a b with
   |false=>
    rw[heq]at HC;have HEQ:=aeV heq;clear heq
    go_wp2_with fail
    refine HC.out.mono ?_;rintro e w' ⟨rfl,he⟩;have HE2:=aeV (HE1.out.trans he);clear he
    go_wp2_with fail
    go_roundw
    case rel=>
     refine⟨k+1,by omega,by omega,by go_num,HE2,aeV (fun j x y hj hx hy=>?_)⟩;by_cases e:j+1=k
     ·subst e;rw[HA.out]at hx;have hB:=HB.out;rw[show j+1-1=j from by omega,hy]at hB;cases hx;cases hB;exact HEQ.out
     exact HQ.out j x y (by omega) hx hy
    grind [intOf]
   |true=>
    rw[heq]at HC;have HEQ:=aeV heq;clear heq;have HCP:Hid (dn L=L.take k++fh a (L.drop (k+1))):=aeV (by
     obtain⟨m,rfl⟩: ∃m,k=m+1:=⟨k-1,by omega⟩;rw[yl (k:=m) HQ.out HB.out,Ds HA.out HEQ.out])
    go_wp2_with fail
    refine HC.out.mono ?_;rintro e w' ⟨rfl,he⟩;have HE2:=aeV (HE1.out.trans he);clear he HC HE1
    go_wp2_with fail
    obtain⟨wo,rfl⟩: ∃wo:World,wo=wr:=⟨_,rfl⟩
    go_loopw [7,5] (fun s i wx=> ∃(j:Nat) (pre:List NItem) (last:NItem),1<=j/\j<=L.length-k/\s= .int .i64 j/\i= .int .i64 (pre.length:Nat)/\k<=pre.length/\pre.length+1<=k+j/\Hid (L[k+j-1]?=some last)/\Hid (dn L=pre++fh last (L.drop (k+j)))/\Hid (zU wx g (cap*2) (pre++L.drop pre.length))/\Hid (w.grownBy wx (some g))) (fun s _ _=>L.length-(intOf s).toNat)
    case atStart=>
     have hlt':(L.take k).length=k:=by simp_all
     refine⟨1,L.take k,a,by omega,by omega,rfl,by rw[hlt'],by omega,by omega,aeV (by rw[show k+1-1=k from by omega];exact HA.out),HCP,aeV ?_,aeV (ii HE2.out g)⟩;rw[hlt',List.take_append_drop];exact HL.out.ext HE2.out
    case round=>
     clear HE2 HCP HEQ HQ HA HB;obtain⟨j,pre,last,hj1,hj,rfl,rfl,hp1,hp2,HLA,HCP,HLS,HGB⟩:=hrel;by_cases hjl:j<L.length-k
     ·obtain⟨a2,ha2⟩:=getElem?_of_lt (l:=L) (k:=k+j) (by omega);have m1:(pre++L.drop pre.length)[k+j]?=some a2:=by rw[Vt (by omega)];exact ha2
      have m2:(pre++L.drop pre.length)[k+(j-1)]?=some last:=by rw[Vt (by omega),show k+(j-1)=k+j-1 from by omega];exact HLA.out
      have t1:=HLS.out.cell0 m1;have t2:=HLS.out.cell1 m1;have t3:=HLS.out.cell0 m2;have t4:=HLS.out.cell1 m2;rw[ahr]at t1 t2 t3 t4;have HA2:=aeV ha2;have HM1:=aeV m1;clear ha2 m1 m2;have t1':wr.drew.cell? _=_:=t1;have t2':wr.drew.cell? _=_:=t2;have t3':wr.drew.cell? _=_:=t3;have t4':wr.drew.cell? _=_:=t4;have HGB1:Hid (w.grownBy wr.drew (some g)):=aeV (lF HGB.out (ii ((fm.refl _).drew) g));have HLS1:Hid (zU wr.drew g (cap*2) (pre++L.drop pre.length)):=aeV (HLS.out.ext ((fm.refl _).drew));clear t1 t2 t3 t4 HGB HLS;have hjz:(j:Int)<((L.length-k:Nat):Int):=by omega
      have a1:IntKind.i64.wrap ((j:Int)-1)=(j:Int)-1:=aht _ (by omega);have a2':0<=(j:Int)-1:=by omega
      have a3:((j:Int)-1).toNat=j-1:=by omega
      have a4:(j:Int)-1<((L.length-k:Nat):Int):=by omega
      have a5:(1:Int)<=(j:Int):=by omega
      go_wp2_with fail
      refine ee 10 (by kernel_rfl) (by kernel_rfl) ?_;simp only[af6,agX,agp,agx];generalize wr.drew=w3 at*
      iterate 10 still_step
      refine wpStill_nil ?_;have HC:=aeV (Ck a2 last bx sx so w3 g ((HOK.out a2 (adQ HA2.out)).gb HGB1.out) ((HOK.out last (adQ HLA.out)).gb HGB1.out) (r8 HGB1.out HB1.out HN1.out) (r8 HGB1.out HB2.out HN2.out));unfold NItem.agg at HC;clear t3' t4' a1 a2' a3 a4 a5;cases heq:AU a2 last with
      |true=>
       rw[heq]at HC;have HEQ:=aeV heq;clear heq t1' t2'
       go_wp2_with fail
       refine HC.out.mono ?_;rintro e w4 ⟨rfl,he⟩;have HGB2:=aeV (lF HGB1.out (ii he g));have HLS2:=aeV (HLS1.out.ext he);clear he
       go_wp2_with fail
       go_roundw
       case rel=>
        refine⟨j+1,pre,a2,by omega,by omega,by go_num,rfl,hp1,by omega,aeV (by rw[show k+(j+1)-1=k+j from by omega];exact HA2.out),aeV ?_,HLS2,HGB2⟩;obtain⟨m,hm⟩: ∃m,k+j=m+1:=⟨k+j-1,by omega⟩;have h1:=HA2.out;rw[hm]at h1;rw[HCP.out,hm,Ds h1 HEQ.out,show k+(j+1)=m+1+1 from by omega]
       case measure=>simp[intOf];omega
      |false=>
       rw[heq]at HC;have HEQ:=aeV heq;clear heq;have hpl:pre.length<L.length:=by omega
       have hpz:(pre.length:Int)<(L.length:Int):=by omega
       obtain⟨p,hp⟩: ∃p,p=pre.length:=⟨_,rfl⟩
       go_wp2_with fail
       refine HC.out.mono ?_;rintro e w4 ⟨rfl,he⟩;have HGB2:=aeV (lF HGB1.out (ii he g));have HLS2:=aeV (HLS1.out.ext he);have s1:=he.cell t1';have s2:=he.cell t2';have hlm:pre.length<(pre++L.drop pre.length).length:=by rw[afg,aia];omega
       obtain⟨q,hq⟩:=getElem?_of_lt hlm;have s3:=HLS2.out.cell0 hq;have s4:=HLS2.out.cell1 hq;have s5:=HLS2.out.frozen (pre.length*2);have s6:=HLS2.out.frozen (pre.length*2+1);have HSET:=aeV (HLS2.out.set hlm a2);clear he t1' t2' hq hlm HC hp
       go_wp2_with fail
       go_roundw
       case rel=>
        refine⟨j+1,pre++[a2],a2,by omega,by omega,by go_num,by simp,by simp;omega,by simp;omega,aeV (by rw[show k+(j+1)-1=k+j from by omega];exact HA2.out),aeV ?_,aeV ?_,aeV (Fe (Fe HGB2.out _ _) _ _)⟩
        ·obtain⟨m,hm⟩: ∃m,k+j=m+1:=⟨k+j-1,by omega⟩;have h1:=HA2.out;rw[hm]at h1;rw[HCP.out,hm,QH h1 HEQ.out,show k+(j+1)=m+1+1 from by omega]
         simp
        have:=HSET.out;rw[Zn hpl]at this;exact this
       case measure=>simp[intOf];omega
     have hjl':j=L.length-k:=by omega
     have HF:Hid (dn L=pre):=aeV (by rw[HCP.out,show k+j=L.length from by omega,ags];simp[fh]);have hpl:pre.length<L.length:=by omega
     have hcl: ∀ty,(Builtin.clear_ #[171] ty #[.slice (some ⟨g,pre.length*2,none⟩) (L.length-pre.length) (cap-pre.length)]).run prog wr= .ok (.tuple #[]) (wr.setCells g (pre.length*2) (Builtin.zeroCells #[.int .i64 0,.slice none 0 0] (L.length-pre.length)).toList):=fun ty=>by
      obtain⟨f,f1,f2,f3⟩:=HLS.out;refine C6 wr _ 177 ty (.agg #[.int .i64 0,.slice none 0 0]) underlying171 HZ.out (by simp[Value.cells,Value.oneCell']) (by simp[Value.cells]) g _ _ _ (by omega) (fun j hj=>?_) (fun j hj=>f1.frozen _);simp[Value.cells]at hj;rw[f1.cell (by omega)];rfl
     have HCL:Hid (zU (wr.setCells g (pre.length*2) (Builtin.zeroCells #[.int .i64 0,.slice none 0 0] (L.length-pre.length)).toList) g (cap*2) pre):=aeV (by
      obtain⟨f,f1,f2,f3⟩:=HLS.out;obtain⟨f',q1,q2,_⟩:=v6 (Builtin.zeroCells #[.int .i64 0,.slice none 0 0] (L.length-pre.length)).toList (pre.length*2) wr f f1;refine⟨f',q1,by omega,fun i it hi=>?_⟩;have hlt:=(aeI.1 hi).1;have:=f3 i it (by simp_all[aff]);rw[q2 _ (by omega),q2 _ (by omega)];exact this)
     have HGB3:Hid (w.grownBy (wr.setCells g (pre.length*2) (Builtin.zeroCells #[.int .i64 0,.slice none 0 0] (L.length-pre.length)).toList) (some g)):=aeV (yr (b:=wr) _ _ HGB.out);clear hjl'
     go_wp2_with fail
     go_ret
     rw[HF.out];exact⟨rfl,HCL.out,HGB3.out⟩
  have HC:Hid (dn L=L):=aeV (ym (fun j a b h=>HQ.out j a b (by omega)))
  go_wp2_with fail
  go_ret
  rw[HC.out];exact⟨rfl,HL.out.ext HE.out,ii HE.out g⟩
end Go.Proofs.YtalmoejhjceflaaGreat
namespace Go.Proofs
open Go.Shelf
def Tryz.sortK_ren:Go.Shelf.Ren:=⟨fun|6=>198|15=>127|14=>229|28=>184|29=>185|20=>244|21=>245|22=>246|23=>247|24=>248|25=>249|26=>250|27=>251|46=>254|47=>216|48=>217|49=>255|50=>256|57=>257|n=>n,fun|22=>171|24=>177|25=>170|3=>3|39=>164|0=>0|53=>165|55=>116|4=>4|46=>213|45=>212|50=>51|5=>5|9=>9|66=>250|70=>254|76=>268|77=>269|n=>n,fun|n=>n⟩
theorem Tryz.sortK:Go.Proofs.SlLaysF0.n6 prog Tryz.sortK_ren:={
 mixed:=by kernel_rfl
 f6:=⟨f198.name,by decide,func198.trans (congrArg some (by kernel_rfl))⟩
 f14:=⟨f229.name,by decide,func229.trans (congrArg some (by kernel_rfl))⟩
 f15:=func127.trans (congrArg some (by kernel_rfl))
 f20:=⟨f244.name,by decide,func244.trans (congrArg some (by kernel_rfl))⟩
 f21:=⟨f245.name,by decide,func245.trans (congrArg some (by kernel_rfl))⟩
 f22:=⟨f246.name,by decide,func246.trans (congrArg some (by kernel_rfl))⟩
 f23:=⟨f247.name,by decide,func247.trans (congrArg some (by kernel_rfl))⟩
 f24:=⟨f248.name,by decide,func248.trans (congrArg some (by kernel_rfl))⟩
 f25:=⟨f249.name,by decide,func249.trans (congrArg some (by kernel_rfl))⟩
 f26:=⟨f250.name,by decide,func250.trans (congrArg some (by kernel_rfl))⟩
 f27:=⟨f251.name,by decide,func251.trans (congrArg some (by kernel_rfl))⟩
 f28:=func184.trans (congrArg some (by kernel_rfl))
 f29:=func185.trans (congrArg some (by kernel_rfl))
 f46:=⟨f254.name,by decide,func254.trans (congrArg some (by kernel_rfl))⟩
 f47:=func216.trans (congrArg some (by kernel_rfl))
 f48:=func217.trans (congrArg some (by kernel_rfl))
 f49:=⟨f255.name,by decide,func255.trans (congrArg some (by kernel_rfl))⟩
 f50:=⟨f256.name,by decide,func256.trans (congrArg some (by kernel_rfl))⟩
 f57:=⟨f257.name,by decide,func257.trans (congrArg some (by kernel_rfl))⟩
 t0:=underlying0
 a0:=isAgg0
 z0:=sizeOf0
 v0:=zeroValue0
 t3:=underlying3
 a3:=isAgg3
 z3:=sizeOf3
 v3:=zeroValue3
 t4:=underlying4
 a4:=isAgg4
 z4:=sizeOf4
 v4:=zeroValue4
 t5:=underlying5
 a5:=isAgg5
 z5:=sizeOf5
 v5:=zeroValue5
 t9:=underlying9
 a9:=isAgg9
 z9:=sizeOf9
 v9:=zeroValue9
 t22:=underlying171
 a22:=isAgg171
 z22:=sizeOf171
 v22:=zeroValue171
 t25:=underlying170
 a25:=isAgg170
 z25:=sizeOf170
 v25:=zeroValue170
 t39:=underlying164
 a39:=isAgg164
 z39:=sizeOf164
 v39:=zeroValue164
 t45:=underlying212
 a45:=isAgg212
 z45:=sizeOf212
 v45:=zeroValue212
 t46:=underlying213
 a46:=isAgg213
 z46:=sizeOf213
 v46:=zeroValue213
 t50:=underlying51
 a50:=isAgg51
 z50:=sizeOf51
 v50:=zeroValue51
 t53:=underlying165
 a53:=isAgg165
 z53:=sizeOf165
 v53:=zeroValue165
 t55:=underlying116
 a55:=isAgg116
 z55:=sizeOf116
 v55:=zeroValue116
 t66:=underlying250
 a66:=isAgg250
 z66:=sizeOf250
 v66:=zeroValue250
 t70:=underlying254
 a70:=isAgg254
 z70:=sizeOf254
 v70:=zeroValue254
 t76:=underlying268
 a76:=isAgg268
 z76:=sizeOf268
 v76:=zeroValue268
 t77:=underlying269
 a77:=isAgg269
 z77:=sizeOf269
 v77:=zeroValue269}
end Go.Proofs
namespace Go.Proofs.YtalmoejhjceflaaGreat
open Go.RowKit Go.Proofs.Tryz
variable {b:Exit->AS->Prop} {c:Exit->AS->List PV->Prop} {n m:Nat} {e f:Code} {g:List NItem} {h:List PV} {j:TypeId} {w:World} {l:Operand} {o:List Nat} {p:NItem} {q:Array Oper} {r:Func}
section
open Go.Sort (flatK putRowK HoldsK get_flatK size_flatK)
def UA (b:NItem):List Value:=[.int .i64 b.key,.slice b.at_ b.vals.length b.cap]
theorem Gb {w:World} {N:Nat} {f:Nat->Value} (h:w.rowIs n m N f) (d:Array Value):(Sort.putRow id w n 0 d).rowIs n m N (fun k=>if k<d.size then d[k]! else f k):=by
 obtain⟨c,e,b,j⟩:=h;refine⟨Sort.putCells id 0 d c,?_,by simp[Sort.putCells,b],fun i l=>?_⟩
 ·grind [Sort.putRow,Sort.mapBlock,Sort.onCells]
 grind [Sort.putCells]
theorem F6 (w:World) (g:Nat) (d:Array Value) (k:Nat) (b:k≠g):(Sort.putRow id w g 0 d).heap[k]?=w.heap[k]?:=by
 grind [Sort.putRow,Sort.mapBlock]
section
variable {α:Type} [Inhabited α] (enc:α->List Value) (w:World) (g n:Nat) (d:Array α) (os:Array Obj)
theorem JH:w.grownBy (sortWorldK enc 2 w g 0 n d os) (some g):=by
 unfold sortWorldK putRowK;refine⟨rfl,rfl,rfl,?_,fun k c b=>?_⟩
 ·simp
 show((Sort.putRow id (Sort.ahead w n) g 0 _).heap++os)[k]?=w.heap[k]?;rw[ahP (by simp_all),F6 _ _ _ _ (fun e=>b (by rw[e]))];rfl
theorem RX {N:Nat} {f:Nat->Value} (h:w.rowIs g m N f):(sortWorldK enc 2 w g 0 n d os).rowIs g m N (fun k=>if k<(flatK enc 2 d).size then(flatK enc 2 d)[k]! else f k):=by
 have b:=Gb (w:=Sort.ahead w n) h (flatK enc 2 d);refine b.of_block ?_;unfold sortWorldK putRowK;show((Sort.putRow id (Sort.ahead w n) g 0 _).heap++os)[g]?=_;rw[ahP b.lt]
end
structure yL (w:World) (g:Nat) where
 it:NItem
 ok:ItemOk w g it
instance (w:World) (g:Nat):Inhabited (yL w g):=⟨⟨⟨0,[],none,0⟩,⟨RdI.nil _ _ _,(by simp),by simp⟩⟩⟩
def yq (w:World) (g:Nat) (x:yL w g):List Value:=UA x.it
def uQ (w:World) (g:Nat) (L:List NItem) (h: ∀b∈L,ItemOk w g b):Array (yL w g):=(L.attach.map fun x=>(⟨x.1,h x.1 x.2⟩:yL w g)).toArray
theorem pB (h: ∀b∈g,ItemOk w n b):(uQ w n g h).size=g.length:=by
 grind [uQ]
theorem Ao (h: ∀b∈g,ItemOk w n b):(uQ w n g h).toList.map (fun x:yL w n=>x.it)=g:=by
 simp_all[uQ]
theorem Or (d:Array (yL w n)) {j:Nat} {it:NItem} (c:(d.toList.map (fun x:yL w n=>x.it))[j]?=some it):
  (flatK (yq w n) 2 d)[j*2]! = .int .i64 it.key/\(flatK (yq w n) 2 d)[j*2+1]! =it.val:=by
 have b:j<d.size:=by grind
 grind [get_flatK,yq,UA,NItem.val]
theorem Fh (o:zU w n m g) (h: ∀b∈g,ItemOk w n b):HoldsK (yq w n) 2 w n 0 (uQ w n g h):=by
 obtain⟨f,e,s,l⟩:=o;intro t r;rw[size_flatK,pB]at r;have q:t/2<g.length:=by omega
 obtain⟨b,c⟩:=getElem?_of_lt q;have p:=Or (uQ w n g h) (j:=t/2) (it:=b) (by grind [Ao]);obtain⟨u,v⟩:=l _ _ c;rw[afm];refine⟨?_,e.frozen t⟩;rw[e.cell (by omega)];grind
theorem ItemOk.sortW {d:Array (yL w n)} {b:Array Obj} (h:ItemOk w n p):ItemOk (sortWorldK (yq w n) 2 w n 0 m d b) n p:=h.gb (JH _ _ _ _ _ _)
theorem KY (w:World) (g size:Nat):CmpLays prog 132 #[] (yq w g) 2 (fun a b=>l6 a.it b.it) g 0 size w:=fun m e dk c x y=>
 nA x.it.key y.it.key x.it.at_ y.it.at_ x.it.cap y.it.cap x.it.vals y.it.vals _ x.ok.sortW.rd y.ok.sortW.rd x.ok.le y.ok.le
def EB (L:List NItem):Prop:= ∀(i j:Nat) a b,i<j->L[i]?=some a->L[j]?=some b-> ¬l6 b a<0
theorem Gr (g cap:Nat) (L:List NItem) (w:World) (E:zU w g (cap*2) L) (m:L.length<4611686018427387904) (l: ∀A∈L,ItemOk w g A):
  Calls prog 198 #[.slice (some ⟨g,0,none⟩) L.length cap,.func (Fn.func 132) #[] #[]] w fun e y=>
   ∃p,e= .returned (.tuple #[])/\p.Perm L/\EB p/\zU y g (cap*2) p/\w.grownBy y (some g):=by
 have B: ∀args w,(callFunc 132 args).run prog w= .ok (.enter 132 args) w:=enters_of func132 (by kernel_rfl) rfl;obtain⟨f,q,C,D⟩:=E;have t:=q.lt;have c:=AnyQ.slices_SortFunc (α:=yL w g) Tryz.sortK 2 (fun w=>by kernel_rfl) (fun w=>by kernel_rfl) (yq w g) (fun _=>rfl) (fun x v z=>by simp[yq,UA]at z;rcases z with rfl|rfl<;>rfl) (fun a b=>l6 a.it b.it) (ad8 fun x:yL w g=>x.it) 132 #[] g 0 cap (uQ w g L l) w B (KY w g _) (Fh ⟨f,q,C,D⟩ l) t (by rw[pB];exact m)
 change Calls prog 198 _ _ _ at c
 rw[pB]at c;refine c.mono fun e y ⟨F,h,n,R,H,J,K⟩=>?_
 obtain⟨o,_,u⟩:=H;rw[pB]at o;have s:(h.toList.map (fun x:yL w g=>x.it)).length=L.length:=by simp[o]
 refine⟨h.toList.map (fun x:yL w g=>x.it),F,?_,?_,?_,by grind [JH]⟩
 ·have I:h.toList.Perm (uQ w g L l).toList:=by
   have M:h.extract 0 L.length=h:=by grind
   grind [uQ]
  grind [Ao]
 ·intro i j a b r P Q;have G:j<h.size:=by grind
  have N:h[i]!.it=a:=by
   grind
  have O:h[j]!.it=b:=by
   grind
  have:=J i j (afl _) r (by omega);grind [ltOf]
 rw[K];refine⟨_,RX _ _ _ _ _ _ q,by omega,fun j A G=>?_⟩;grind [Or,size_flatK]
def Cw (v:Value) (q:Nat->Value):Nat->Value:=fun j=>if j=0 then v else if j=1 then .func (Fn.func 132) #[] #[]else q j
theorem JP (u v:Value) (q:Nat->Value) (j:Nat):(if j=0 then v else Cw u q j)=Cw v q j:=by
 grind [Cw]
theorem WB (sx g cap N:Nat) (q:Nat->Value) (hN:2<=N) (L:List NItem) (w:World) (hL:zU w g (cap*2) L) (hcap:L.length<=cap) (hlen:L.length<=4611686018427387903) (hok: ∀it∈L,ItemOk w g it)
  (hS:w.rowIs sx 173 N (Cw (.slice (some ⟨g,0,none⟩) L.length cap) q)) (hsx:sx≠g):
  Calls prog 136 #[.pointer (some ⟨sx,0,none⟩)] w fun e w'=>
   ∃L',e= .returned (.tuple #[])/\L'.Perm L/\EB L'/\zU w' g (cap*2) (dn L')/\w'.cell? ⟨sx,0,none⟩=some (.slice (some ⟨g,0,none⟩) (dn L').length cap)/\w'.rowIs sx 173 N (Cw (.slice (some ⟨g,0,none⟩) (dn L').length cap) q)/\
    (∀k,k<w.heap.size->k≠g->k≠sx->w'.heap[k]?=w.heap[k]?)/\w.heap.size<=w'.heap.size/\w'.os=w.os/\w'.tape=w.tape/\w'.output=w.output:=by
 have HL:=aeV hL;have HOK:=aeV hok;have HS:=aeV hS;have HN:=aeV hsx;have hglt:g<w.heap.size:=by obtain⟨f,h1,_⟩:=hL;exact h1.lt
 have hslt:=hS.lt;clear hL hok hS hsx
 go_enter func136,ntmps136
 go_wp2_with fail
 have c0:(w.alloc (.cells #[.pointer (some ⟨sx,0,none⟩)] 237)).drew.cell? ⟨w.heap.size,0,none⟩=some (.pointer (some ⟨sx,0,none⟩)):=by go_simp
 have HE0:Hid (fm w (w.alloc (.cells #[.pointer (some ⟨sx,0,none⟩)] 237)).drew):=aeV ((fm.refl _).alloc _).drew;have hz0:w.heap.size<(w.alloc (.cells #[.pointer (some ⟨sx,0,none⟩)] 237)).drew.heap.size:=by simp[World.drew]
 generalize w.alloc (.cells #[.pointer (some ⟨sx,0,none⟩)] 237)=w1 at*
 refine ee 8 (by kernel_rfl) (by kernel_rfl) ?_;simp only[af6,agX,agp,agx];generalize w1.drew=w2 at*
 have s0:w2.cell? ⟨sx,0,none⟩=some (.slice (some ⟨g,0,none⟩) L.length cap):=(jN HS.out HE0.out).cell (by omega);have s1:w2.cell? ⟨sx,1,none⟩=some (.func (Fn.func 132) #[] #[]):=(jN HS.out HE0.out).cell (by omega)
 iterate 8 still_step
 refine wpStill_nil ?_;have HC:=aeV (Gr g cap L w2 (HL.out.ext HE0.out) (by omega) (fun it hit=>(HOK.out it hit).ext HE0.out));clear s1
 go_wp2_with fail
 refine HC.out.mono ?_;rintro e w3 ⟨L',rfl,hperm,hsorted,hlst,hgb⟩;have HP:=aeV hperm;have HSO:=aeV hsorted;have HLS:=aeV hlst;have HG3:=aeV hgb;have HLL:Hid (L'.length=L.length):=aeV hperm.length_eq;clear hperm hsorted hlst hgb HC s0
 go_wp2_with fail
 have HOK3:Hid (∀it∈L',ItemOk w3 g it):=aeV (fun it hit=>((HOK.out it (HP.out.subset hit)).ext HE0.out).gb HG3.out);have HS3:Hid (w3.rowIs sx 173 N (Cw (.slice (some ⟨g,0,none⟩) L.length cap) q)):=aeV ((jN HS.out HE0.out).of_block (HG3.out.block sx (aeT hslt HE0.out.size) (fun e=>HN.out (by injection e))));have d0:w3.cell? ⟨w.heap.size,0,none⟩=some (.pointer (some ⟨sx,0,none⟩)):=r8 HG3.out c0 (by grind);have d1:w3.cell? ⟨sx,0,none⟩=some (.slice (some ⟨g,0,none⟩) L.length cap):=HS3.out.cell (by omega);have d2:w3.frozen? ⟨sx,0,none⟩=false:=HS3.out.frozen 0;have hcon:=yQ g cap L' w.heap.size sx 0 w3.drew (HLS.out.ext ((fm.refl _).drew)) (by rw[HLL.out];exact hcap) (by rw[HLL.out];omega) (fun it hit=>(HOK3.out it hit).ext ((fm.refl _).drew)) d0 (show w3.drew.cell? ⟨sx,0+1,none⟩=_ from HS3.out.cell (i:=1) (by omega)) (by omega) HN.out;rw[HLL.out]at hcon;have HC:=aeV hcon;clear hcon c0;have HG4:Hid (w2.grownBy w3.drew (some g)):=aeV (lF HG3.out (ii ((fm.refl _).drew) g))
 go_region_law (go_simp;go_at_call 199;refine HC.out.mono ?_;rintro e w5 ⟨rfl,hlst,hgb⟩;have HLS5:=aeV hlst;have HG5:=aeV hgb;have HS5:Hid (w5.rowIs sx 173 N (Cw (.slice (some ⟨g,0,none⟩) L.length cap) q)):=aeV (HS3.out.of_block (hgb.block sx HS3.out.lt (fun e=>HN.out (by injection e))));have f0:w5.cell? ⟨w.heap.size,0,none⟩=some (.pointer (some ⟨sx,0,none⟩)):=r8 hgb d0 (by show w.heap.size≠g;omega);have f1:w5.cell? ⟨sx,0,none⟩=some (.slice (some ⟨g,0,none⟩) L.length cap):=HS5.out.cell (by omega);have f2:w5.frozen? ⟨sx,0,none⟩=false:=HS5.out.frozen 0;clear hlst hgb)
 all_goals
  go_wp2_with fail
  go_end0
  have hrow:=(HS5.out.set 0 (.slice (some ⟨g,0,none⟩) (dn L').length cap)).congr fun j _=>JP _ _ _ j
  have hgg:=lF (lF (ii HE0.out g) HG4.out) HG5.out;refine⟨L',rfl,HP.out,HSO.out,?_,hrow.cell (by omega),hrow,fun k hk hkg hks=>?_,?_,hgg.os,hgg.tape,hgg.output⟩
  ·obtain⟨f,q1,q2,q3⟩:=HLS5.out;exact⟨f,q1.setOther (agv HN.out) _,q2,q3⟩
  ·rw[ahQ _ _ _ _ hks];exact hgg.block k hk (fun e=>hkg (by injection e))
  simpa[World.setCell] using hgg.size
end
theorem Gs (w:World):
  Calls prog 198 #[.slice none 0 0,.func (Fn.func 132) #[] #[]] w fun e w'=>e= .returned (.tuple #[])/\ ∃n,w'=w.drewN n:=by
 have hl: ∀w,Calls prog 127 #[.int .u64 0] w fun e w'=>e= .returned (.int .i64 0)/\w=w':=fun w=>by
  go_enter func127,ntmps127
  go_wp2
  go_ret
  refine⟨?_,rfl⟩;show Ending.returned (.int .i64 (wrap64 (wrap64 (Lib.len8 0))))=_;rw[show Lib.len8 0=0 from by rfl,IntWalk.wrap64_in 0 ⟨by omega,by omega⟩,IntWalk.wrap64_in 0 ⟨by omega,by omega⟩]
 have hi: ∀w,Calls prog 244 #[.slice none 0 0,.int .i64 0,.int .i64 0,.func (Fn.func 132) #[] #[]] w fun e w'=>e= .returned (.tuple #[])/\w=w':=fun w=>by
  go_enter func244,ntmps244
  go_wp2
  refine wp_loop_rounds 1 ?_;rw[rounds_succ]
  go_wp2
  go_end0
  simp
 have hp: ∀w,Calls prog 229 #[.slice none 0 0,.int .i64 0,.int .i64 0,.int .i64 0,.func (Fn.func 132) #[] #[]] w fun e w'=>e= .returned (.tuple #[])/\w=w':=fun w=>by
  have HI:=aeV hi;clear hi hl
  go_enter func229,ntmps229
  go_wp2_with fail
  refine wp_loop_rounds 1 ?_;rw[rounds_succ]
  go_wp2_with (go_at_call 244;refine(HI.out _).mono ?_;rintro e w' ⟨rfl,rfl⟩)
  refine bodyPost_ret (results_none rfl _ _ _) rfl ?_
  simp
 have HP:=aeV hp;have HLn:=aeV hl;clear hp hl hi
 go_enter func198,ntmps198
 go_wp2_with (first|(go_at_call 127;refine(HLn.out _).mono ?_;rintro e w' ⟨rfl,rfl⟩)|(go_at_call 229;refine(HP.out _).mono ?_;rintro e w' ⟨rfl,rfl⟩))
 go_end0
 exact⟨rfl,0,rfl⟩
theorem yR (w:World) (fv:Value):
  Calls prog 199 #[.slice none 0 0,fv] w fun e w'=>e= .returned (.slice none 0 0)/\w=w':=by
 go_enter func199,ntmps199
 go_wp2_with fail
 go_ret
 simp
theorem WC (sx N:Nat) (q:Nat->Value) (hN:2<=N) (w:World) (hS:w.rowIs sx 173 N (Cw (.slice none 0 0) q)):
  Calls prog 136 #[.pointer (some ⟨sx,0,none⟩)] w fun e w'=>
   e= .returned (.tuple #[])/\w'.rowIs sx 173 N (Cw (.slice none 0 0) q)/\
    (∀k,k<w.heap.size->k≠sx->w'.heap[k]?=w.heap[k]?)/\w.heap.size<=w'.heap.size/\w'.os=w.os/\w'.tape=w.tape/\w'.output=w.output:=by
 have HS:=aeV hS;have hslt:=hS.lt;clear hS
 go_enter func136,ntmps136
 go_wp2_with fail
 have c0:(w.alloc (.cells #[.pointer (some ⟨sx,0,none⟩)] 237)).drew.cell? ⟨w.heap.size,0,none⟩=some (.pointer (some ⟨sx,0,none⟩)):=by go_simp
 have HE0:Hid (fm w (w.alloc (.cells #[.pointer (some ⟨sx,0,none⟩)] 237)).drew):=aeV ((fm.refl _).alloc _).drew;generalize w.alloc (.cells #[.pointer (some ⟨sx,0,none⟩)] 237)=w1 at*
 refine ee 8 (by kernel_rfl) (by kernel_rfl) ?_;simp only[af6,agX,agp,agx];generalize w1.drew=w2 at*
 have s0:w2.cell? ⟨sx,0,none⟩=some (.slice none 0 0):=(jN HS.out HE0.out).cell (by omega);have s1:w2.cell? ⟨sx,1,none⟩=some (.func (Fn.func 132) #[] #[]):=(jN HS.out HE0.out).cell (by omega)
 iterate 8 still_step
 refine wpStill_nil ?_;have HC:=aeV (Gs w2);clear s1
 go_wp2_with fail
 refine HC.out.mono ?_;rintro e w3 ⟨rfl,n,rfl⟩;have HE3:=aeV (HE0.out.drewN n);have d0:(w2.drewN n).cell? ⟨w.heap.size,0,none⟩=some (.pointer (some ⟨sx,0,none⟩)):=c0;have d1:(w2.drewN n).cell? ⟨sx,0,none⟩=some (.slice none 0 0):=s0;have d2:(w2.drewN n).frozen? ⟨sx,0,none⟩=false:=(jN HS.out HE3.out).frozen 0;clear HC s0 c0 HE0;generalize w2.drewN n=w3 at*
 have HC:Hid (∀(w:World) (fv:Value),Calls prog 199 #[.slice none 0 0,fv] w fun e w'=>e= .returned (.slice none 0 0)/\w=w'):=aeV yR
 go_wp2_with fail
 go_region_law (go_simp;go_at_call 199;refine(HC.out _ _).mono ?_;rintro e w5 ⟨rfl,rfl⟩)
 all_goals
  go_wp2_with fail
  go_end0
  refine⟨rfl,?_,fun k hk hks=>?_,?_,HE3.out.os,HE3.out.tape,HE3.out.output⟩
  ·exact((jN HS.out HE3.out).drew.set 0 (.slice none 0 0)).congr fun j _=>JP _ _ _ j
  ·show((w3.drew.setCell ⟨sx,0,none⟩ (.slice none 0 0)).heap[k]?)=_;rw[ahQ _ _ _ _ hks];exact HE3.out.block k hk
  have:=HE3.out.size;simpa[World.setCell,World.drew] using this
def NItem.dat (b:NItem):Int×List Int:=(b.key,b.vals)
theorem tP: ∀{l:List NItem} {p c:NItem},c∈fh p l->c∈l
 |[],_,_,h=>by simp[fh]at h
 |b::l,p,c,h=>by
  unfold fh at h;split at h
  ·exact afy _ (tP h)
  rcases afn.1 h with rfl|h
  ·simp
  exact afy _ (tP h)
theorem Id (h:p∈dn g):p∈g:=by
 cases g with
 |nil=>simp[dn]at h
 |cons a l=>
  grind [dn,tP]
theorem Az: ∀(l:List NItem) (p:NItem),(fh p l).length<=l.length
 |[],_=>by simp[fh]
 |b::l,p=>by
  unfold fh;have:=Az l b;grind
theorem Ic (L:List NItem):(dn L).length<=L.length:=by
 cases L with
 |nil=>simp[dn]
 |cons a l=>grind [Az,dn]
instance (a b:Int×List Int):Decidable (qA a b):=inferInstanceAs (Decidable (_\/_))
theorem Aw {a:NItem}:l6 a p<0↔qA a.dat p.dat:=by unfold l6 qA;rw[NY];rfl
theorem Ix {a:NItem}:AU a p=true↔a.dat=p.dat:=by
 unfold AU l6;rw[beq_iff_eq,QE];constructor
 ·rintro⟨c,e⟩;exact Prod.ext c e
 intro h;exact⟨congrArg Prod.fst h,congrArg Prod.snd h⟩
theorem yk: ∀{l:List NItem} {p:NItem},(∀(i j:Nat) a b,i<j->(p::l)[i]?=some a->(p::l)[j]?=some b-> ¬l6 b a<0)->
  yY ((p::fh p l).map NItem.dat)/\ ∀y,y∈(p::fh p l).map NItem.dat↔y∈(p::l).map NItem.dat
 |[],p,_=>by simp[fh,yY]
 |b::l,p,h=>by
  have n: ∀(i j:Nat) a c,i<j->(b::l)[i]?=some a->(b::l)[j]?=some c-> ¬l6 c a<0:=fun i j a c u x m=>h (i+1) (j+1) a c (by omega) (by grind) (by grind)
  obtain⟨s,t⟩:=yk n;have g: ¬l6 b p<0:=h 0 1 p b (by omega) rfl rfl;unfold fh;split
  ·grind [Ix]
  rename_i e;rw[Ix]at e;refine⟨?_,fun y=>?_⟩
  ·rw[aeX];refine agc.2 ⟨fun y o=>?_,s⟩;rw[t y]at o;obtain⟨c,m,rfl⟩:=aeL.1 o;obtain⟨j,z,v⟩:=afW m;have q: ¬l6 c p<0:=h 0 (j+1) p c (by omega) rfl (by grind);rw[Aw]at q;by_cases f:qA p.dat c.dat
   ·exact f
   have r:=xw q f;exfalso;have w: ¬l6 c b<0:=by
    cases j with
    |zero=>grind
    |succ j=>exact n 0 (j+1) b c (by omega) rfl (by grind)
   rw[Aw,r]at w;rw[Aw]at g;grind [xw]
  grind
theorem E3 {b:List (Int×List Int)} (f:(g.map NItem.dat).Perm b) (c:EB g):(dn g).map NItem.dat=nk b:=by
 have e:yY ((dn g).map NItem.dat)/\ ∀y,y∈(dn g).map NItem.dat↔y∈g.map NItem.dat:=by
  cases g with
  |nil=>simp[dn,yY]
  |cons a l=>exact yk c
 grind [ze,Er,x5]
section
structure aaS (P:Program) (b:Nat) (ty:TypeId) (cs:List PV) where
 i:Nat
 f:FuncId
 args:List TV
 res:CallRes
 h:CallT P b ty f args cs res cs
 ok:lentOk args res cs=true
def aaS.a {P:Program} {b:Nat} {g:TypeId} {e:List PV} (c:aaS P b g e):dD P:=⟨c.i,c.f,c.args,c.res⟩
section
variable {P:Program} {b:Nat} {ty:TypeId} {cs:List PV} {Q:Exit->AS->List PV->Prop} {s:AS}
end
end
section
theorem ty_int164:CZ prog 164=some .u64:=by kernel_rfl
def zI (b:Nat) (_ty:TypeId) (c:List PV) (w:World):Prop:=
 b<w.heap.size/\ ∀(j:Nat) x,c[j]?=some x-> ∃v:Value,x= .raw v/\w.cell? ⟨b,j,none⟩=some v/\v.oneCell'=true
theorem zI.lt (c:zI n j h w):n<w.heap.size:=c.1
def yN (b:Nat) (f:TypeId) (c:World) (O X:Nat->Prop) (s:AS) (e:List PV) (a:Act) (w:World):Prop:=dP c O X s a w/\zI b f e c/\ ¬O b
theorem yN.box {f:World} {O X:Nat->Prop} {s:AS} {a:Act} (c:yN n j w O X s h a f):zI n j h f:=by
 obtain⟨⟨_,_,u,g,_⟩,m,r⟩:=c;have l:=m.lt;refine⟨aeT l g.keep.size,fun e x t=>?_⟩;obtain⟨v,o,p,q⟩:=m.2 e x t;exact⟨v,o,by rw[iX (g.keep.block n l r)];exact p,q⟩
section
variable {P:Program} {b:Nat} {ty:TypeId} {cs cs':List PV} {s s':AS} {w0 w:World} {O X:Nat->Prop} {a:Act}
def qC (P:Program) (b:Nat) (ty:TypeId) (c:Code) (Q:Exit->AS->List PV->Prop) (s:AS) (cs:List PV):Prop:=
 ∀(w0:World) (O X:Nat->Prop) (a:Act) (w:World),yN b ty w0 O X s cs a w->c.wp P (fun e f g=> ∃s' cs',Q e s' cs'/\yN b ty w0 O X s' cs' f g) a w
variable {Q:Exit->AS->List PV->Prop}
theorem abF (h:bv P e (fun f s'=>Q f s' cs) s):qC P b ty e Q s cs:=fun w0 O X a w r=>
 wp_mono (h _ _ _ _ _ r.1) fun f l m ⟨s',g,j⟩=>⟨s',cs,g,j,r.2⟩
theorem yN.weak (h:bN s s') (r:yN b ty w0 O X s cs a w):yN b ty w0 O X s' cs a w:=⟨h _ _ _ _ _ r.1,r.2⟩
theorem qC.weak (h:bN s s') (k:qC P b ty e Q s' cs):qC P b ty e Q s cs:=fun _ _ _ _ _ r=>k _ _ _ _ _ (r.weak h)
theorem Hc (h:Q .normal s cs):qC P b ty .skip Q s cs:=fun _ _ _ _ _ r=>wp_skip ⟨s,cs,h,r⟩
theorem NJ (h:Q .ret s cs):qC P b ty .ret Q s cs:=fun _ _ _ _ _ r=>wp_ret ⟨s,cs,h,r⟩
theorem NK (h:qC P b ty e (tg (qC P b ty f Q) Q) s cs):qC P b ty (.seq e f) Q s cs:=fun _ _ _ _ _ r=>
 wp_seq (wp_mono (h _ _ _ _ _ r) fun c a w ⟨s',cs',g,j⟩=>by
  cases c with
  |normal=>exact g _ _ _ _ _ j
  |_=>exact⟨s',cs',g,j⟩)
theorem Hb {v:Bool} (n:s.ev l=some (.raw (.bool v))) (q:v=true->qC P b ty e Q s cs) (o:v=false->qC P b ty f Q s cs):qC P b ty (.cond l e f) Q s cs:=fun _ _ _ _ _ r=>by
 obtain⟨⟨t,p,u,j,g⟩,_⟩:=id r;have m:=(bo (bE g l _ n)).1;exact wp_cond_split m (fun h=>q h _ _ _ _ _ r) (fun h=>o h _ _ _ _ _ r)
theorem abE (g:s.ev l=some (.raw (.bool true))) (h:qC P b ty e Q s cs):qC P b ty (.cond l e f) Q s cs:=Hb g (fun _=>h) (fun h=>by cases h)
theorem abD (g:s.ev l=some (.raw (.bool false))) (h:qC P b ty f Q s cs):qC P b ty (.cond l e f) Q s cs:=Hb g (fun h=>by cases h) (fun _=>h)
/-! Regions. -/
theorem Tn (c:List (ar P)) (f:List Nat) {id:Nat} (h: ∀K:AS->Prop,(∀s',qC P b ty e Q s' cs->K s')->bM P (c.map ar.a) f (aV q q.toList 0) (some s) K):qC P b ty (.seq (.region id q false) e) Q s cs:=
 NK (abF (uK c f (h _ fun _ h=>h)))
theorem Dc {id:Nat} (h: ∀K:AS->Prop,(∀s',qC P b ty e Q s' cs->K s')->bM P [] [] (aV q q.toList 0) (some s) K):qC P b ty (.seq (.region id q false) e) Q s cs:=Tn [] [] h
def CallG (P:Program) (b:Nat) (ty:TypeId) (f:FuncId) (args:List TV) (cs:List PV) (res:CallRes):Prop:=callable P f=true/\ ∀w,zI b ty cs w->Kp P f args res w
theorem H6 {f:FuncId} {args:List TV} {res:CallRes} (t:P.funcs[f]?=some r) (q:r.body=some e) (l:callable P f=true) (h:qC P b ty e (fun g s k=>(g= .normal\/g= .ret)/\k=cs/\ ∃s',bN s s'/\qn P r res s') ⟨args++af (r.ntmps-args.length) .undef,fun _=>[]⟩ cs):CallG P b ty f args cs res:=
 ⟨l,fun w u=>At (zI b ty cs) t q l (fun w0 X a p j=>wp_mono (h w0 _ X a w0 ⟨j,p,fun h=>h⟩) fun g v x ⟨s',k,⟨m,_,n⟩,o⟩=>⟨s',⟨m,n⟩,o.1⟩) w u⟩
end
structure ns (P:Program) (b:Nat) (ty:TypeId) (cs:List PV) where
 i:Nat
 f:FuncId
 args:List TV
 res:CallRes
 h:CallG P b ty f args cs res
 ok:cs=cs
def ns.a {P:Program} {b:Nat} {g:TypeId} {e:List PV} (c:ns P b g e):dD P:=⟨c.i,c.f,c.args,c.res⟩
section
variable {P:Program} {b:Nat} {ty:TypeId} {cs cs':List PV} {s s':AS} {w0 w:World} {O X:Nat->Prop} {a:Act} {Q:Exit->AS->List PV->Prop}
theorem Q8 (c:List (ar P)) (e:List (ns P b ty cs)) (g:zI b ty cs w):pf P (c.map ar.a++e.map ns.a) w:=fun j f=>by
 rcases afD.1 f with h|h
 ·exact(ar.ok c).at w j h
 obtain⟨x,_,rfl⟩:=aeL.1 h;exact x.h.2 w g
theorem ac1 (f:List (ar P)) (g:List (ns P b ty cs)) {i:Nat} {c:Oper} {l:AS} (e:yN b ty w0 O X s cs a w) (h:bs P (f.map ar.a++g.map ns.a) o q i c s=some l) {K:Act->World->Prop} {Q:Exit->Act->World->Prop} (m: ∀v j,yN b ty w0 O X l cs (a.put c.dst v) j->K (a.put c.dst v) j):if Region.wanted c (yielded q a.tmps)then c.wp P a w K Q else K (a.put c.dst undef) w:=
 yj (Q8 f g e.box) e.1 h fun v j n=>m v j ⟨n,e.2⟩
theorem Wh (c:List (ar P)) (e:List (ns P b ty cs)) {z:List Nat} {f:Array Oper} {Q:Exit->Act->World->Prop}:
  ∀(l:List Oper) (k:Nat) (s s':AS) (a:Act) (w:World),(∀(j:Nat) o,l[j]?=some o->f[k+j]?=some o)->ja P (c.map ar.a++e.map ns.a) z f (l.zipIdx k) s=some s'->yN b ty w0 O X s cs a w->
   (∀q p,yN b ty w0 O X s' cs q p->Q .normal q p)->wpOps P f Q (List.range' k l.length) a w
 |[],k,s,s',a,w,_,h,r,g=>by
  simp only[ag8,ja]at h;injection h with h
  subst h;exact g a w r
 |o::l,k,s,s',a,w,t,h,r,g=>by
  simp only[agt,ja]at h;split at h
  ·rename_i A m;simp only[ae6,afj,wpOps];have x:f[k]?=some o:=by have:=t 0 o rfl;simpa using this
   rw[x];simp only;have:=ac1 (Q:=Q) c e r m (K:=wpOps P f Q (List.range' (k+1) l.length)) (fun v p y=>Wh c e l (k+1) A s' _ _ (fun j o u=>by have:=t (j+1) o (by simpa using u);rwa[show k+(j+1)=k+1+j by omega]at this) h y g);split at this
   ·rename_i n;rw[if_pos n];exact .inl this
   rename_i n;rw[if_neg n];exact this
  cases h
theorem Ql (f:List (ns P b ty cs)) (c:List (ar P)) (l:List Nat) {id:Nat} (h:bM P (c.map ar.a++f.map ns.a) l (aV q q.toList 0) (some s) (fun s'=>Q .normal s' cs)):qC P b ty (.region id q false) Q s cs:=fun w0 O X a w r=>by
 obtain⟨s',n,p⟩:=aO P _ l q q.toList 0 s _ h;refine wp_region ?_;rw[afi];have:=Wh (w0:=w0) (O:=O) (X:=X) c f (Q:=fun e g m=> ∃s' k,Q e s' k/\yN b ty w0 O X s' k g m) q.toList 0 s s' a w (fun j o t=>by simpa using t) n r (fun g m u=>⟨s',cs,p,u⟩);simpa using this
theorem Af (f:List (ns P b ty cs)) (c:List (ar P)) (g:List Nat) {id:Nat} (h: ∀K:AS->Prop,(∀s',qC P b ty e Q s' cs->K s')->bM P (c.map ar.a++f.map ns.a) g (aV q q.toList 0) (some s) K):qC P b ty (.seq (.region id q false) e) Q s cs:=
 NK (Ql f c g (h _ fun _ h=>h))
end
end
section
theorem Rc (h: ¬n=0):n/4294967296<n:=Nat.div_lt_self (by omega) (by omega)
def aD (n:Nat):List Nat:=if n=0 then[]else n%4294967296::aD (n/4294967296)
termination_by n
decreasing_by omega
def fR {b:Type} (f:b->List PV) (r:List b):List PV:=[.sl (ls f r)]
def fZ (z:Int):List PV:=[.raw (.bool (decide (z<0))),.sl (ls fU (aD z.natAbs))]
def cZ (z:Int):List AV:=[.p (.raw (.bool (decide (z<0)))),.p (.sl (ls fU (aD z.natAbs)))]
abbrev tZ (z:Int):TV:= .agg [.p (.raw (.bool (decide (z<0)))),.p (.sl (ls fU (aD z.natAbs)))]
abbrev eY (l:List Nat):TV:= .one (.p (.sl (ls fU l)))
abbrev dq (M:List (List Int)):TV:= .one (.p (.sl (ls (fR fZ) M)))
abbrev bV (M:List (List Int)):TV:= .one (.p (.sl (ls (fR fI) M)))
abbrev d7 (l:List Int):TV:= .one (.p (.sl (ls fI l)))
abbrev qE (l:List Int):TV:= .one (.p (.sl (ls fZ l)))
abbrev Gq (l:List Nat):TV:= .one (.p (.sl (ls fN l)))
def Oq (a:Int×List Int):List PV:=[.raw (.int .i64 a.1),.sl (ls fI a.2)]
abbrev C7 (l:List (Int×List Int)):TV:= .one (.p (.sl (ls Oq l)))
abbrev tIt (k:Int) (x:List Int):TV:= .agg [.p (.raw (.int .i64 k)),.p (.sl (ls fI x))]
abbrev tR (n d:Int):TV:= .agg [.p (.raw (.bool (decide (n<0)))),.p (.sl (ls fU (aD n.natAbs))),.p (.raw (.bool (decide (d<0)))),.p (.sl (ls fU (aD d.natAbs)))]
abbrev Ig (x:List Int) (b:Bool):TV:= .tup [(false,[.p (.sl (ls fI x))]),(false,[.p (.raw (.bool b))])]
abbrev jk:TV:= .one .junk
def j4 (l:List TV):List TV:=jk::jk::jk::jk::l
def j16 (l:List TV):List TV:=j4 (j4 (j4 (j4 l)))
def rN (n:Nat):TV:= .raw (.int .i64 (n:Int))
theorem HmA:Hm []=fun _=>[]:=rfl
theorem HmB (k:Nat) (F:List OObj) (l:List (Nat×List OObj)):Hm ((k,F)::l)=fun a=>if a=k then F else Hm l a:=rfl
def wk:=adv @wkL.eq_1<|adv @wkL.eq_2<|adv @wkL.eq_3<|adv @Zx.eq_def<|adv @FR.eq_def<|adv @j4.eq_1<|adv @j16.eq_1<|adv @rN.eq_1<|True.intro
def kd:=adv @AS.ev.eq_def<|adv @AS.put.eq_def<|adv @Bool.and_false<|adv @Bool.and_self<|adv @Bool.and_true<|adv @afq<|adv @Bool.not_false<|adv @Bool.not_true<|adv @Bool.or_false<|adv @Bool.or_true<|adv @ah4<|adv @ar.a.eq_1<|adv @CallRes.plain.eq_1<|adv @HmA<|adv @HmB<|adv @aiL<|adv @Int.toNat_natCast<|adv @List.all_cons.{0}<|adv @List.all_nil.{0}<|adv @List.append_nil.{0}<|adv @List.cons_append.{0}<|adv @List.contains_cons.{0}<|adv @List.contains_nil.{0}<|adv @List.drop_succ_cons.{0}<|adv @List.drop_zero.{0}<|adv @List.find?_cons.{0}<|adv @List.find?_nil.{0}<|adv @List.getElem?_cons_succ.{0}<|adv @List.getElem?_cons_zero.{0}<|adv @List.getElem?_toArray.{0}<|adv @List.isEmpty_cons.{0}<|adv @List.isEmpty_nil.{0}<|adv @List.isEmpty_toArray.{0}<|adv @List.length_cons.{0}<|adv @List.length_map.{0,0}<|adv @List.length_nil.{0}<|adv @List.map_cons.{0,0}<|adv @List.map_nil.{0,0}<|adv @List.nil_append.{0}<|adv @List.set_cons_succ.{0}<|adv @List.set_cons_zero.{0}<|adv @List.take_succ_cons.{0}<|adv @List.take_zero.{0}<|adv @ago<|adv @aeJ<|adv @afm<|adv @Option.bind_some.{0,0}<|adv @Option.map_none.{0,0}<|adv @Option.map_some.{0,0}<|adv @underlying116<|adv @underlying165<|adv @underlying2<|adv @underlying25<|adv @underlying3<|adv @underlying5<|adv @Value.oneCell'.eq_def<|adv @Yv<|adv @abP<|adv @and_false<|adv @and_self<|adv @and_true<|adv @adF.eq_def<|adv @beq_self_eq_true.{0}<|adv @fQ.eq_def<|adv @KS.eq_def<|adv @cellsOf.eq_def<|adv @aer<|adv @aes<|adv @decide_false<|adv @decide_true<|adv @dM.eq_def<|adv @iY.eq_def<|adv @kH.eq_def<|adv @b9.eq_def<|adv @gy.eq_1<|adv @gy.eq_2<|adv @Dx.eq_def<|adv @QR.eq_def<|adv @fI.eq_1<|adv @fN.eq_1<|adv @fU.eq_1<|adv @false_and<|adv @mR.eq_1<|adv @mR.eq_2<|adv @gn.eq_def<|adv @f5.eq_def<|adv @ifF<|adv @ifT<|adv @if_false.{1}<|adv @if_true.{1}<|adv @Lu.eq_def<|adv @isPure.eq_def<|adv @aY.eq_def<|adv @oI.eq_1<|adv @bi.eq_def<|adv @Fw<|adv @LA<|adv @jp<|adv @Bf<|adv @zp<|adv @fO<|adv @Fy<|adv @nG<|adv @jh<|adv @ld<|adv @tX.eq_1<|adv @tX.eq_2<|adv @Zi<|adv @kN<|adv @iM<|adv @acu<|adv @acv<|adv @Zj<|adv @Vx.eq_def<|adv @Rn<|adv @C1.eq_def<|adv @newsOf.eq_def<|adv @DS.eq_def<|adv @Bq.eq_def<|adv @iu.eq_def<|adv @noRefTV.eq_def<|adv @ms.eq_def<|adv @jj.eq_def<|adv @nI.eq_def<|adv @Zw.eq_def<|adv @Rv<|adv @LX<|adv @LY<|adv @Zy<|adv @Zz<|adv @Rw<|adv @By<|adv @VO<|adv @Rx<|adv @VP<|adv @Jb<|adv @Ry<|adv @C2<|adv @C3<|adv @ZA<|adv @VQ<|adv @FV<|adv @C4<|adv @ZB<|adv @ZC<|adv @VR<|adv @FX<|adv @VS<|adv @Rz<|adv @RC<|adv @acE<|adv @nJ.eq_def<|adv @Jd.eq_1<|adv @aV.eq_1<|adv @aV.eq_2<|adv @putCells.eq_1<|adv @vR.eq_def<|adv @te.eq_def<|adv @dA.eq_def<|adv @renO.eq_1<|adv @renTV.eq_def<|adv @uh.eq_def<|adv @BR.eq_1<|adv @BR.eq_2<|adv @xM.eq_def<|adv @D8<|adv @Wi<|adv @R8<|adv @true_and<|adv @GC.eq_def<|adv @Se<|adv @Sf<|adv @Sg<|adv @Sh<|adv @Si<|adv @Sj<|adv @Sk<|adv @Sl<|adv @Sm<|adv @Sn<|adv @PP<|adv @Xc<|adv @So<|adv @Sp<|adv @Xd<|adv @Xe<|adv @JU<|adv @Xf<|adv @PQ<|adv @Xg<|adv @zF<|adv @JV<|adv @aaq<|adv @wD<|adv @rQ<|adv @Xh<|adv @Xi<|adv @Xj<|adv @Xk<|adv @JW<|adv @Xl<|adv @wF<|adv @Xm<|adv @Xn<|adv @Xp<|adv @adf<|adv @Xq<|adv @aar<|adv @aas<|adv @PR<|adv @aat<|adv @PS<|adv @JX<|adv @JY<|adv @yJ<|adv @yK<|adv @JZ<|adv @J0<|adv @J1<|adv @J2<|adv @J3<|adv @J4<|adv @J5<|adv @J6<|adv @J7<|adv @J8<|adv @J9<|adv @Kb<|adv @Kc<|adv @Kd<|adv @Ke<|adv @Kf<|adv @MS<|adv @MT<|adv @MU<|adv @MV<|adv @qh<|adv @qi<|adv @MW<|adv @MX<|adv @MY<|adv @MZ<|adv @M3<|adv @Sr<|adv @ty_int164<|adv @Ss<|adv @aau<|adv @aav<|adv @aaw<|adv @Su<|adv @Sv<|adv @Sw<|adv @Sx<|adv @Sy<|adv @SA<|adv @SB<|adv @SC<|adv @SD<|adv @wG<|adv @Xr<|adv @Xs<|adv @Kg<|adv @M4<|adv @M5<|adv @CF<|adv @CG<|adv @CH<|adv @qj<|adv @M6<|adv @M7<|adv @M8<|adv @CI<|adv @Xt<|adv @Xu<|adv @Xv<|adv @Xw<|adv @Xx<|adv @Xy<|adv @Xz<|adv @XA<|adv @XC<|adv @XD<|adv @XE<|adv @XF<|adv @aax<|adv @XG<|adv @XH<|adv @aay<|adv @aaz<|adv @PT<|adv @aaA<|adv @XI<|adv @aaB<|adv @GD<|adv @PU<|adv @adg<|adv @zG<|adv @wH<|adv @aaC<|adv @aaD<|adv @aaE<|adv @aaF<|adv @PW<|adv @aaG<|adv @M9<|adv @Na<|adv @Nb<|adv @Nc<|adv @Nd<|adv @Nf<|adv @Ng<|adv @Nh<|adv @Ni<|adv @Nj<|adv @Nk<|adv @Nl<|adv @XJ<|adv @Nm<|adv @Nn<|adv @No<|adv @SE<|adv @SF<|adv @SG<|adv @Kh<|adv @SH<|adv @XK<|adv @SI<|adv @o8<|adv @SJ<|adv @SK<|adv @SL<|adv @Ep<|adv @SM<|adv @unP.eq_def<|adv @aK.eq_1<|adv @wrS.eq_def<|adv @j4.eq_1<|adv @j16.eq_1<|adv @rN.eq_1<|True.intro
def kx:=adv @fR.eq_1<|adv @fZ.eq_1<|adv @cZ.eq_1<|adv @tZ.eq_1<|adv @eY.eq_1<|adv @dq.eq_1<|adv @bV.eq_1<|adv @d7.eq_1<|adv @qE.eq_1<|adv @Gq.eq_1<|adv @Oq.eq_1<|adv @C7.eq_1<|adv @tIt.eq_1<|adv @tR.eq_1<|adv @Ig.eq_1<|True.intro
abbrev nV (P:Program) (l:List (dD P)) (b:Array Oper) (s c:AS):Prop:= ∀K:AS->Prop,K c->bM P l [] (aV b b.toList 0) (some s) K
section
variable {P:Program} {s s':AS} {y:Code} {id pk:Nat} {ops:Array Oper} {α:Prop}
theorem aZ (h:nV P [] ops s s':=by intro K k;simp only[kd,Nat.reduceAdd,Nat.reduceEqDiff,Nat.reduceBEq,Nat.reduceLeDiff,Int.reduceToNat,Nat.reduceMul,reduceCtorEq,Int.reduceLE,kx];exact k) (k:bv P y b s'):bv P (.seq (.region id ops false) y) b s:=am fun K f=>h K (f s' k)
theorem ax (h:nV P [] ops s s':=by intro K k;simp(disch:=omega) only[kd,Nat.reduceAdd,Nat.reduceEqDiff,Nat.reduceBEq,Nat.reduceLeDiff,Int.reduceToNat,Nat.reduceMul,reduceCtorEq,Int.reduceLE,kx,aH,eD];exact k) (k:bv P y b s'):bv P (.seq (.region id ops false) y) b s:=am fun K f=>h K (f s' k)
theorem aF (x:α) (h:α->nV P [] ops s s':=by intro x K k;simp(disch:=omega) only[kd,Nat.reduceAdd,Nat.reduceEqDiff,Nat.reduceBEq,Nat.reduceLeDiff,Int.reduceToNat,Nat.reduceMul,reduceCtorEq,Int.reduceLE,kx,aH,eD,x];exact k) (k:bv P y b s'):bv P (.seq (.region id ops false) y) b s:=am fun K f=>h x K (f s' k)
theorem aE (h:nV P [] ops s s':=by intro K k;simp(disch:=omega) only[kd,Nat.reduceAdd,Nat.reduceEqDiff,Nat.reduceBEq,Nat.reduceLeDiff,Int.reduceToNat,Nat.reduceMul,reduceCtorEq,Int.reduceLE,kx,aH,eD,List.replicate];exact k) (k:bv P y b s'):bv P (.seq (.region id ops false) y) b s:=am fun K f=>h K (f s' k)
theorem je (x:α) (h:α->nV P [] ops s s':=by intro x K k;simp(disch:=omega) only[kd,Nat.reduceAdd,Nat.reduceEqDiff,Nat.reduceBEq,Nat.reduceLeDiff,Int.reduceToNat,Nat.reduceMul,reduceCtorEq,Int.reduceLE,kx,aH,eD,List.replicate,x];exact k) (k:bv P y b s'):bv P (.seq (.region id ops false) y) b s:=am fun K f=>h x K (f s' k)
theorem d9 (x:α) (h:α->nV P [] ops s s':=by intro x K k;simp only[kd,Nat.reduceAdd,Nat.reduceEqDiff,Nat.reduceBEq,Nat.reduceLeDiff,Int.reduceToNat,Nat.reduceMul,reduceCtorEq,Int.reduceLE,kx,x];exact k) (k:bv P y b s'):bv P (.seq (.region id ops false) y) b s:=am fun K f=>h x K (f s' k)
theorem Aj (h:nV prog [] ops s s':=by intro K k;simp(disch:=omega) only[kd,Nat.reduceAdd,Nat.reduceEqDiff,Nat.reduceBEq,Nat.reduceLeDiff,Int.reduceToNat,Nat.reduceMul,reduceCtorEq,Int.reduceLE,kx,aH,eD];exact k) (c:cz [] ops=true:=by kernel_rfl) (k:bv prog y b s'):bv prog (.seq (.region id ops true) y) b s:=kC bZ c fun K f=>h K (f s' k)
theorem iH (x:α) (h:α->nV prog [] ops s s':=by intro x K k;simp(disch:=omega) only[kd,Nat.reduceAdd,Nat.reduceEqDiff,Nat.reduceBEq,Nat.reduceLeDiff,Int.reduceToNat,Nat.reduceMul,reduceCtorEq,Int.reduceLE,kx,aH,eD,x];exact k) (c:cz [] ops=true:=by kernel_rfl) (k:bv prog y b s'):bv prog (.seq (.region id ops true) y) b s:=kC bZ c fun K f=>h x K (f s' k)
theorem bu (c:List (ar P)) (h:nV P (c.map ar.a) ops s s':=by intro K k;simp only[kd,Nat.reduceAdd,Nat.reduceEqDiff,Nat.reduceBEq,Nat.reduceLeDiff,Int.reduceToNat,Nat.reduceMul,reduceCtorEq,Int.reduceLE,kx];exact k) (k:bv P y b s'):bv P (.seq (.region id ops false) y) b s:=bf c [] fun K f=>h K (f s' k)
theorem bD (c:List (ar P)) (h:nV P (c.map ar.a) ops s s':=by intro K k;simp(disch:=omega) only[kd,Nat.reduceAdd,Nat.reduceEqDiff,Nat.reduceBEq,Nat.reduceLeDiff,Int.reduceToNat,Nat.reduceMul,reduceCtorEq,Int.reduceLE,kx,aH,eD];exact k) (k:bv P y b s'):bv P (.seq (.region id ops false) y) b s:=bf c [] fun K f=>h K (f s' k)
theorem ce (c:List (ar P)) (x:α) (h:α->nV P (c.map ar.a) ops s s':=by intro x K k;simp(disch:=omega) only[kd,Nat.reduceAdd,Nat.reduceEqDiff,Nat.reduceBEq,Nat.reduceLeDiff,Int.reduceToNat,Nat.reduceMul,reduceCtorEq,Int.reduceLE,kx,aH,eD,x];exact k) (k:bv P y b s'):bv P (.seq (.region id ops false) y) b s:=bf c [] fun K f=>h x K (f s' k)
theorem fJ (c:List (ar P)) (x:α) (h:α->nV P (c.map ar.a) ops s s':=by intro x K k;simp only[kd,Nat.reduceAdd,Nat.reduceEqDiff,Nat.reduceBEq,Nat.reduceLeDiff,Int.reduceToNat,Nat.reduceMul,reduceCtorEq,Int.reduceLE,kx,x];exact k) (k:bv P y b s'):bv P (.seq (.region id ops false) y) b s:=bf c [] fun K f=>h x K (f s' k)
theorem dR (c:List (ar prog)) (h:nV prog (c.map ar.a) ops s s':=by intro K k;simp(disch:=omega) only[kd,Nat.reduceAdd,Nat.reduceEqDiff,Nat.reduceBEq,Nat.reduceLeDiff,Int.reduceToNat,Nat.reduceMul,reduceCtorEq,Int.reduceLE,kx,aH,eD];exact k) (e:cz [] ops=true:=by kernel_rfl) (k:bv prog y b s'):bv prog (.seq (.region id ops true) y) b s:=rT bZ c [] e fun K f=>h K (f s' k)
theorem dF (c:List (ar prog)) (x:α) (h:α->nV prog (c.map ar.a) ops s s':=by intro x K k;simp(disch:=omega) only[kd,Nat.reduceAdd,Nat.reduceEqDiff,Nat.reduceBEq,Nat.reduceLeDiff,Int.reduceToNat,Nat.reduceMul,reduceCtorEq,Int.reduceLE,kx,aH,eD,x];exact k) (e:cz [] ops=true:=by kernel_rfl) (k:bv prog y b s'):bv prog (.seq (.region id ops true) y) b s:=rT bZ c [] e fun K f=>h x K (f s' k)
theorem aAl (h:nV P [] ops s s':=by intro K k;simp only[kd,Nat.reduceAdd,Nat.reduceEqDiff,Nat.reduceBEq,Nat.reduceLeDiff,Int.reduceToNat,Nat.reduceMul,reduceCtorEq,Int.reduceLE,kx];exact k) (k:b .normal s'):bv P (.region id ops false) b s:=cJ fun K f=>h K (f s' k)
theorem bK (h:nV P [] ops s s':=by intro K k;simp(disch:=omega) only[kd,Nat.reduceAdd,Nat.reduceEqDiff,Nat.reduceBEq,Nat.reduceLeDiff,Int.reduceToNat,Nat.reduceMul,reduceCtorEq,Int.reduceLE,kx,aH,eD];exact k) (k:b .normal s'):bv P (.region id ops false) b s:=cJ fun K f=>h K (f s' k)
theorem dz (x:α) (h:α->nV P [] ops s s':=by intro x K k;simp(disch:=omega) only[kd,Nat.reduceAdd,Nat.reduceEqDiff,Nat.reduceBEq,Nat.reduceLeDiff,Int.reduceToNat,Nat.reduceMul,reduceCtorEq,Int.reduceLE,kx,aH,eD,x];exact k) (k:b .normal s'):bv P (.region id ops false) b s:=cJ fun K f=>h x K (f s' k)
theorem aaT (h:nV P [] ops s s':=by intro K k;simp(disch:=omega) only[kd,Nat.reduceAdd,Nat.reduceEqDiff,Nat.reduceBEq,Nat.reduceLeDiff,Int.reduceToNat,Nat.reduceMul,reduceCtorEq,Int.reduceLE,kx,aH,eD,List.replicate];exact k) (k:b .normal s'):bv P (.region id ops false) b s:=cJ fun K f=>h K (f s' k)
theorem df (x:α) (h:α->nV P [] ops s s':=by intro x K k;simp only[kd,Nat.reduceAdd,Nat.reduceEqDiff,Nat.reduceBEq,Nat.reduceLeDiff,Int.reduceToNat,Nat.reduceMul,reduceCtorEq,Int.reduceLE,kx,x];exact k) (k:b .normal s'):bv P (.region id ops false) b s:=cJ fun K f=>h x K (f s' k)
theorem jz (x:α) (h:α->nV prog [] ops s s':=by intro x K k;simp(disch:=omega) only[kd,Nat.reduceAdd,Nat.reduceEqDiff,Nat.reduceBEq,Nat.reduceLeDiff,Int.reduceToNat,Nat.reduceMul,reduceCtorEq,Int.reduceLE,kx,aH,eD,x];exact k) (c:cz [] ops=true:=by kernel_rfl) (k:b .normal s'):bv prog (.region id ops true) b s:=Kx bZ c fun K f=>h x K (f s' k)
theorem adA (c:List (ar P)) (h:nV P (c.map ar.a) ops s s':=by intro K k;simp only[kd,Nat.reduceAdd,Nat.reduceEqDiff,Nat.reduceBEq,Nat.reduceLeDiff,Int.reduceToNat,Nat.reduceMul,reduceCtorEq,Int.reduceLE,kx];exact k) (k:b .normal s'):bv P (.region id ops false) b s:=qJ c [] fun K f=>h K (f s' k)
theorem NP (c:List (ar P)) (h:nV P (c.map ar.a) ops s s':=by intro K k;simp(disch:=omega) only[kd,Nat.reduceAdd,Nat.reduceEqDiff,Nat.reduceBEq,Nat.reduceLeDiff,Int.reduceToNat,Nat.reduceMul,reduceCtorEq,Int.reduceLE,kx,aH,eD];exact k) (k:b .normal s'):bv P (.region id ops false) b s:=qJ c [] fun K f=>h K (f s' k)
theorem nU (c:List (ar P)) (x:α) (h:α->nV P (c.map ar.a) ops s s':=by intro x K k;simp(disch:=omega) only[kd,Nat.reduceAdd,Nat.reduceEqDiff,Nat.reduceBEq,Nat.reduceLeDiff,Int.reduceToNat,Nat.reduceMul,reduceCtorEq,Int.reduceLE,kx,aH,eD,x];exact k) (k:b .normal s'):bv P (.region id ops false) b s:=qJ c [] fun K f=>h x K (f s' k)
theorem abM (c:List (ar prog)) (h:nV prog (c.map ar.a) ops s s':=by intro K k;simp(disch:=omega) only[kd,Nat.reduceAdd,Nat.reduceEqDiff,Nat.reduceBEq,Nat.reduceLeDiff,Int.reduceToNat,Nat.reduceMul,reduceCtorEq,Int.reduceLE,kx,aH,eD];exact k) (e:cz [] ops=true:=by kernel_rfl) (k:b .normal s'):bv prog (.region id ops true) b s:=ou bZ c [] e fun K f=>h K (f s' k)
theorem fP (c:List (ar prog)) (x:α) (h:α->nV prog (c.map ar.a) ops s s':=by intro x K k;simp(disch:=omega) only[kd,Nat.reduceAdd,Nat.reduceEqDiff,Nat.reduceBEq,Nat.reduceLeDiff,Int.reduceToNat,Nat.reduceMul,reduceCtorEq,Int.reduceLE,kx,aH,eD,x];exact k) (e:cz [] ops=true:=by kernel_rfl) (k:b .normal s'):bv prog (.region id ops true) b s:=ou bZ c [] e fun K f=>h x K (f s' k)
theorem adB (e:nV P [] ops s s':=by intro K k;simp(disch:=omega) only[kd,Nat.reduceAdd,Nat.reduceEqDiff,Nat.reduceBEq,Nat.reduceLeDiff,Int.reduceToNat,Nat.reduceMul,reduceCtorEq,Int.reduceLE,kx,aH,eD];exact k) (k:qC P n j y c s' h):qC P n j (.seq (.region id ops false) y) c s h:=Dc fun K f=>e K (f s' k)
theorem aaU (e:nV P [] ops s s':=by intro K k;simp(disch:=omega) only[kd,Nat.reduceAdd,Nat.reduceEqDiff,Nat.reduceBEq,Nat.reduceLeDiff,Int.reduceToNat,Nat.reduceMul,reduceCtorEq,Int.reduceLE,kx,aH,eD,List.replicate];exact k) (k:qC P n j y c s' h):qC P n j (.seq (.region id ops false) y) c s h:=Dc fun K f=>e K (f s' k)
theorem dG (e:nV P [] ops s s':=by intro K k;simp(disch:=omega) only[kd,Nat.reduceAdd,Nat.reduceEqDiff,Nat.reduceBEq,Nat.reduceLeDiff,Int.reduceToNat,Nat.reduceMul,reduceCtorEq,Int.reduceLE,kx,aH,eD];exact k) (k:fx P n j y c s' h):fx P n j (.seq (.region id ops false) y) c s h:=rV fun K f=>e K (f s' k)
theorem l5 (x:α) (e:α->nV P [] ops s s':=by intro x K k;simp(disch:=omega) only[kd,Nat.reduceAdd,Nat.reduceEqDiff,Nat.reduceBEq,Nat.reduceLeDiff,Int.reduceToNat,Nat.reduceMul,reduceCtorEq,Int.reduceLE,kx,aH,eD,x];exact k) (k:fx P n j y c s' h):fx P n j (.seq (.region id ops false) y) c s h:=rV fun K f=>e x K (f s' k)
theorem aaV (e:nV P [] ops s s':=by intro K k;simp(disch:=omega) only[kd,Nat.reduceAdd,Nat.reduceEqDiff,Nat.reduceBEq,Nat.reduceLeDiff,Int.reduceToNat,Nat.reduceMul,reduceCtorEq,Int.reduceLE,kx,aH,eD,List.replicate];exact k) (k:fx P n j y c s' h):fx P n j (.seq (.region id ops false) y) c s h:=rV fun K f=>e K (f s' k)
theorem KJ (x:α) (e:α->nV P [] ops s s':=by intro x K k;simp(disch:=omega) only[kd,Nat.reduceAdd,Nat.reduceEqDiff,Nat.reduceBEq,Nat.reduceLeDiff,Int.reduceToNat,Nat.reduceMul,reduceCtorEq,Int.reduceLE,kx,aH,eD,List.replicate,x];exact k) (k:fx P n j y c s' h):fx P n j (.seq (.region id ops false) y) c s h:=rV fun K f=>e x K (f s' k)
theorem aaW (g:List (ar P)) (e:nV P (g.map ar.a) ops s s':=by intro K k;simp(disch:=omega) only[kd,Nat.reduceAdd,Nat.reduceEqDiff,Nat.reduceBEq,Nat.reduceLeDiff,Int.reduceToNat,Nat.reduceMul,reduceCtorEq,Int.reduceLE,kx,aH,eD];exact k) (k:fx P n j y c s' h):fx P n j (.seq (.region id ops false) y) c s h:=Ai g [] fun K f=>e K (f s' k)
theorem TA (g:List (ar P)) (x:α) (e:α->nV P (g.map ar.a) ops s s':=by intro x K k;simp(disch:=omega) only[kd,Nat.reduceAdd,Nat.reduceEqDiff,Nat.reduceBEq,Nat.reduceLeDiff,Int.reduceToNat,Nat.reduceMul,reduceCtorEq,Int.reduceLE,kx,aH,eD,x];exact k) (k:fx P n j y c s' h):fx P n j (.seq (.region id ops false) y) c s h:=Ai g [] fun K f=>e x K (f s' k)
theorem sW (e:nV P [] ops s s':=by intro K k;simp(disch:=omega) only[kd,Nat.reduceAdd,Nat.reduceEqDiff,Nat.reduceBEq,Nat.reduceLeDiff,Int.reduceToNat,Nat.reduceMul,reduceCtorEq,Int.reduceLE,kx,aH,eD];exact k) (k:c .normal s' h):fx P n j (.region id ops false) c s h:=Qs fun K f=>e K (f s' k)
theorem EJ (x:α) (e:α->nV prog [] ops s s':=by intro x K k;simp(disch:=omega) only[kd,Nat.reduceAdd,Nat.reduceEqDiff,Nat.reduceBEq,Nat.reduceLeDiff,Int.reduceToNat,Nat.reduceMul,reduceCtorEq,Int.reduceLE,kx,aH,eD,x];exact k) (g:cz [] ops=true:=by kernel_rfl) (k:c .normal s' h):fx prog n j (.region id ops true) c s h:=KF bZ g fun K f=>e x K (f s' k)
theorem bU {b:Type} {L:iz b} {g:b} {Q:Exit->AS->b->Prop} (h:nV P [] ops s s':=by intro K k;simp(disch:=omega) only[kd,Nat.reduceAdd,Nat.reduceEqDiff,Nat.reduceBEq,Nat.reduceLeDiff,Int.reduceToNat,Nat.reduceMul,reduceCtorEq,Int.reduceLE,kx,aH,eD];exact k) (c:cY o ops=true:=by kernel_rfl) (k:eF P L o y Q s' g):eF P L o (.seq (.region id ops false) y) Q s g:=wW c fun K f=>h K (f s' k)
theorem dh {b:Type} {L:iz b} {g:b} {Q:Exit->AS->b->Prop} (x:α) (h:α->nV P [] ops s s':=by intro x K k;simp(disch:=omega) only[kd,Nat.reduceAdd,Nat.reduceEqDiff,Nat.reduceBEq,Nat.reduceLeDiff,Int.reduceToNat,Nat.reduceMul,reduceCtorEq,Int.reduceLE,kx,aH,eD,x];exact k) (c:cY o ops=true:=by kernel_rfl) (k:eF P L o y Q s' g):eF P L o (.seq (.region id ops false) y) Q s g:=wW c fun K f=>h x K (f s' k)
theorem Ty {b:Type} {L:iz b} {g:b} {Q:Exit->AS->b->Prop} (h:nV P [] ops s s':=by intro K k;simp(disch:=omega) only[kd,Nat.reduceAdd,Nat.reduceEqDiff,Nat.reduceBEq,Nat.reduceLeDiff,Int.reduceToNat,Nat.reduceMul,reduceCtorEq,Int.reduceLE,kx,aH,eD,List.replicate];exact k) (c:cY o ops=true:=by kernel_rfl) (k:eF P L o y Q s' g):eF P L o (.seq (.region id ops false) y) Q s g:=wW c fun K f=>h K (f s' k)
theorem Ak {c:Type} {L:iz c} {g:c} {Q:Exit->AS->c->Prop} (b:List (ar P)) (h:nV P (b.map ar.a) ops s s':=by intro K k;simp(disch:=omega) only[kd,Nat.reduceAdd,Nat.reduceEqDiff,Nat.reduceBEq,Nat.reduceLeDiff,Int.reduceToNat,Nat.reduceMul,reduceCtorEq,Int.reduceLE,kx,aH,eD];exact k) (e:cY o ops=true:=by kernel_rfl) (k:eF P L o y Q s' g):eF P L o (.seq (.region id ops false) y) Q s g:=ox b [] e fun K f=>h K (f s' k)
theorem Tz {c:Type} {L:iz c} {g:c} {Q:Exit->AS->c->Prop} (b:List (ar P)) (x:α) (h:α->nV P (b.map ar.a) ops s s':=by intro x K k;simp(disch:=omega) only[kd,Nat.reduceAdd,Nat.reduceEqDiff,Nat.reduceBEq,Nat.reduceLeDiff,Int.reduceToNat,Nat.reduceMul,reduceCtorEq,Int.reduceLE,kx,aH,eD,x];exact k) (e:cY o ops=true:=by kernel_rfl) (k:eF P L o y Q s' g):eF P L o (.seq (.region id ops false) y) Q s g:=ox b [] e fun K f=>h x K (f s' k)
theorem tD {b:Type} {L:iz b} {g:b} {Q:Exit->AS->b->Prop} (h:nV P [] ops s s':=by intro K k;simp(disch:=omega) only[kd,Nat.reduceAdd,Nat.reduceEqDiff,Nat.reduceBEq,Nat.reduceLeDiff,Int.reduceToNat,Nat.reduceMul,reduceCtorEq,Int.reduceLE,kx,aH,eD];exact k) (c:cY o ops=true:=by kernel_rfl) (k:Q .normal s' g):eF P L o (.region id ops false) Q s g:=wV c fun K f=>h K (f s' k)
theorem jW {b:Type} {L:iz b} {g:b} {Q:Exit->AS->b->Prop} (x:α) (h:α->nV P [] ops s s':=by intro x K k;simp(disch:=omega) only[kd,Nat.reduceAdd,Nat.reduceEqDiff,Nat.reduceBEq,Nat.reduceLeDiff,Int.reduceToNat,Nat.reduceMul,reduceCtorEq,Int.reduceLE,kx,aH,eD,x];exact k) (c:cY o ops=true:=by kernel_rfl) (k:Q .normal s' g):eF P L o (.region id ops false) Q s g:=wV c fun K f=>h x K (f s' k)
theorem Tx {c:Type} {L:iz c} {g:c} {Q:Exit->AS->c->Prop} (b:List (ar P)) (x:α) (h:α->nV P (b.map ar.a) ops s s':=by intro x K k;simp(disch:=omega) only[kd,Nat.reduceAdd,Nat.reduceEqDiff,Nat.reduceBEq,Nat.reduceLeDiff,Int.reduceToNat,Nat.reduceMul,reduceCtorEq,Int.reduceLE,kx,aH,eD,x];exact k) (e:cY o ops=true:=by kernel_rfl) (k:Q .normal s' g):eF P L o (.region id ops false) Q s g:=Hl b [] e fun K f=>h x K (f s' k)
theorem aG {p q:Prop} (a:p) (b:q):p/\q:=⟨a,b⟩
theorem aI {c:TV} (x:α) (e:b .ret s=((Exit.ret= .normal\/Exit.ret= .ret)/\ ∃s',bN s s'/\qn P r ⟨[],c⟩ s'):=by rfl) (h:α->uh P s r.results.toList=some c:=by intro x;simp(disch:=omega) only[kd,Nat.reduceAdd,Nat.reduceEqDiff,Nat.reduceBEq,Nat.reduceLeDiff,Int.reduceToNat,Nat.reduceMul,reduceCtorEq,Int.reduceLE,kx,aH,eD,x]) (f:s.H 1000=[]:=by rfl) (g:noRefTV c=true:=by rfl):bv P .ret b s:=aM (e.mpr ⟨.inr rfl,bQ f (h x) g⟩)
theorem aB {f:FuncId} {args:List TV} {res:CallRes} (j:P.funcs[f]?=some r) (g:r.body=some e) (l:r.ntmps=n) (h:bv P e (fun b s=>(b= .normal\/b= .ret)/\ ∃s',bN s s'/\qn P r res s') ⟨args++af (n-args.length) .undef,fun _=>[]⟩) (o:callable P f=true:=by kernel_rfl):CallC P f args res:=b6 j g o (by rw[l];exact h)
theorem aew (g:s.ev l=some (.raw (.bool false))) (h:bv P f b s):bv P (.cond l e .skip) (l8 (bv P f b) b) s:=aq g (al h)
theorem aex (g:s.ev l=some (.raw (.bool true))) (h:bv P f b s):bv P (.cond l .skip e) (l8 (bv P f b) b) s:=aC g (al h)
theorem aey (m:s.ev l=some (.raw (.bool false))) (g:qC P n j f c s h):qC P n j (.cond l e .skip) (tg (qC P n j f c) c) s h:=abD m (Hc g)
theorem aez (m:s.ev l=some (.raw (.bool true))) (g:qC P n j f c s h):qC P n j (.cond l .skip e) (tg (qC P n j f c) c) s h:=abE m (Hc g)
theorem aeE (m:s.ev l=some (.raw (.bool false))) (g:fx P n j f c s h):fx P n j (.cond l e .skip) (tg (fx P n j f c) c) s h:=cw m (jV g)
theorem aeF (m:s.ev l=some (.raw (.bool true))) (g:fx P n j f c s h):fx P n j (.cond l .skip e) (tg (fx P n j f c) c) s h:=iG m (jV g)
theorem aeA {k:Nat} (g:s.ev l=some (.raw (.bool false))) (h:Hd P k f b s):Hd P k (.cond l e .skip) (l8 (Hd P k f b) b) s:=abG g (Hf h)
theorem aeB {k:Nat} (g:s.ev l=some (.raw (.bool true))) (h:Hd P k f b s):Hd P k (.cond l .skip e) (l8 (Hd P k f b) b) s:=abH g (Hf h)
theorem aeC {b:Type} {L:iz b} {g:b} {Q:Exit->AS->b->Prop} (j:s.ev l=some (.raw (.bool false))) (h:eF P L o f Q s g):eF P L o (.cond l e .skip) (wC (eF P L o f Q) Q) s g:=dO j (cb h)
theorem aeD {b:Type} {L:iz b} {g:b} {Q:Exit->AS->b->Prop} (j:s.ev l=some (.raw (.bool true))) (h:eF P L o f Q s g):eF P L o (.cond l .skip e) (wC (eF P L o f Q) Q) s g:=d8 j (cb h)
end
end
theorem km (l:List Nat) (s:l.length<=1073741824):CallC prog 72 [eY l] ⟨[],eY (dC l)⟩:=by
 refine aB func72 rfl ntmps72 (aE (k:=aZ (k:=?_)));refine EG (G:={n:Nat//n<=l.length/\dC l=dC (l.take n)}) (fun n=>⟨(eY l::jk::.raw (.slice none 0 0)::.raw (.int .i64 n.1)::j16 (jk::jk::[])),Hm []⟩) (fun n=>n.1) ⟨l.length,aeJ _,by simp⟩ ?_ ?_
 ·refine ak trivial ?_;simp[wk]
 rintro⟨n,t,r⟩;simp only;by_cases q:0<n
 ·obtain⟨a,o⟩:=getElem?_of_lt (l:=l) (k:=n-1) (by omega);have m:((n:Int)-1).toNat=n-1:=by omega
  refine aj (aF (aG m o) (k:=?_));have p:l.take n=l.take (n-1)++[a]:=by
   have:=agm (i:=n-1) (l:=l) (by omega);grind
  refine aX rfl (fun g=>al ?_) (fun g=>aT ?_)
  ·have j:a=0:=by grind
   refine ao (bK (k:=?_));refine⟨⟨n-1,by omega,?_⟩,by simp only;omega,ak trivial ?_⟩
   ·simp_all[ko]
   have e:((n-1:Nat):Int)=(n:Int)-1:=by omega
   simp[wk,e]
  have j:a≠0:=by grind
  have b:dC l=l.take n:=by grind [sU]
  show bv _ _ _ _;have c:(l.take n).length=n:=by simp;omega
  refine aF (aG @afl (aG (fj n4) (aG c (jg n4)))) (k:=?_);refine aM ⟨.inr rfl,dI 21 (bj rfl) ?_ rfl⟩;simp(disch:=omega) only[kd,results72,b];grind
 have h:n=0:=by omega
 subst h;have b:dC l=[]:=by grind [dC]
 refine aj (ax (k:=aX rfl (fun g=>by cases g) (fun g=>aT (aF (aG @afl (fj n4)) (k:=?_)))));refine aM ⟨.inr rfl,dI 21 (bj (f:=fU) (l:=[]) rfl) ?_ rfl⟩;simp(disch:=omega) only[kd,results72,b];simp[ls]
end Go.Proofs.YtalmoejhjceflaaGreat
