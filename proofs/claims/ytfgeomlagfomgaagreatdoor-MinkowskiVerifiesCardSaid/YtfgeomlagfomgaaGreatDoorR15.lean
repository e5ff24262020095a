/-
  Part 16 of a proof (walks and plain facts).
-/
import Derived.Test.YtfgeomlagfomgaaGreatDoorR14
set_option linter.all false
set_option maxRecDepth 100000
set_option maxHeartbeats 64000000
open Nat renaming reduceAdd → aa
open List renaming replicate → ae
open Nat renaming reduceBEq → af
open Nat renaming add_zero → an
open List renaming getElem?_eq_none → aq
open List renaming mem_of_getElem? → au
open List renaming length_replicate → aw
open List renaming getElem?_map → ax
namespace Go.Proofs.YtfgeomlagfomgaaGreatDoor
open Go.RowKit
theorem zW {w w':World} (h:Ext w w'):Keep (fun _=>False) w w':=⟨h.os,h.tape,h.output,h.size,fun k hk _=>h.block k hk⟩
theorem Aa {w w':World} (h:Keep (fun _=>False) w w'):Ext w w':=⟨h.os,h.tape,h.output,h.size,fun k hk=>h.block k hk (fun h=>h)⟩
theorem D4 {w w':World} {X:Nat->Prop} (h:Ext w w') (hX: ∀b,X b->b<w.heap.size):iF w (fun _=>False) X (famH 0 []) (fun _ _=>none) w':=by
 have e: ∀a,famH 0 [] a=[]:=fun a=>by unfold famH;split<;>rfl
 refine⟨zW h,fun a r o ho=>?_,fun a r a' r' o o' b c c' ho=>?_,fun a r o b c ho=>?_,fun b hb=>Nat.lt_of_lt_of_le (hX b hb) h.size,fun a r o ho=>?_⟩<;>(rw[e]at ho;simp at ho)
theorem ij {P:Program} {f:FuncId} {args:List TV} {r:TV} (hc:callable P f=true) (h: ∀(X:Nat->Prop) (w:World) (vs:Array Value),(∀b,X b->b<w.heap.size)->vs.size=args.length->
  (∀(j:Nat) t,args[j]?=some t-> ∃v:Value,vs[j]?=some v/\t.rel (fun _ _=>none) (fun _=>[]) X w v)->Calls P f vs w fun e w'=> ∃v,e= .returned v/\(∀ρ H Y,r.rel ρ H Y w' v)/\Ext w w'):CallC P f args ⟨[],r⟩:=
 ⟨hc,fun X w vs hX hvs ha=>(h X w vs hX hvs ha).mono fun e w' ⟨v,h1,h2,h3⟩=>⟨v,h1,fun _ _=>none,D4 h3 hX,h2 _ _ _⟩⟩
theorem CallC.calls {P:Program} {f:FuncId} {args:List TV} {r:TV} (h:CallC P f args ⟨[],r⟩) {w:World} {vs:Array Value} (hvs:vs.size=args.length)
  (ha: ∀(j:Nat) t,args[j]?=some t-> ∃v:Value,vs[j]?=some v/\t.rel (fun _ _=>none) (fun _=>[]) (fun _=>False) w v):Calls P f vs w fun e w'=> ∃v,e= .returned v/\(∃ρ H X,r.rel ρ H X w' v)/\Ext w w':=
 (h.2 (fun _=>False) w vs (fun b h=>h.elim) hvs ha).mono fun e w' ⟨v,h1,ρ,h2,h3⟩=>⟨v,h1,⟨_,_,_,h3⟩,Aa h2.keep⟩
theorem sG {ρ:fo} {H:OH} {X:Nat->Prop} {w:World} (v:Int) (b:Bool):(GE v b).rel ρ H X w (.tuple #[.int .i64 v,.bool b]):=by
 refine⟨#[.int .i64 v,.bool b],rfl,rfl,fun j c cs hj=>?_⟩
 match j,hj with
 |0,hj=>
  simp at hj;obtain⟨rfl,rfl⟩:=hj;exact⟨_,rfl,.inr ⟨rfl,_,rfl,cz.raw _ rfl⟩⟩
 |1,hj=>
  simp at hj;obtain⟨rfl,rfl⟩:=hj;exact⟨_,rfl,.inr ⟨rfl,_,rfl,cz.raw _ rfl⟩⟩
 |j+2,hj=>simp at hj
theorem uS {ρ:fo} {H:OH} {X:Nat->Prop} {w:World} (b:Bool):(TV.raw (.bool b)).rel ρ H X w (.bool b):=cz.raw _ rfl
theorem lW {X:Nat->Prop} {w:World} {u v:Value} (h:cz X w (.raw u) v):v=u:=by cases h;rfl
theorem ke {X:Nat->Prop} {w:World} {l:List Int} {v:Value} (h:cz X w (.sl (ls fI l)) v): ∃A c,v= .slice A l.length c/\l.length<=c/\l.length<=9223372036854775807/\RdI .i64 w A l:=by
 generalize hx:PV.sl (ls fI l)=x at h;cases h with
 |raw v h=>cases hx
 |ptr b off cs f hX hb hc hr=>cases hx
 |nil a c=>
  injection hx with hx
  have hl:l=[]:=by simpa[ls] using hx
  subst hl;exact⟨a,c,rfl,Nat.zero_le _,by simp,RdI.nil _ _ _⟩
 |sl b off es cap xs f hX hb hes hcap hm hc hr=>
  injection hx with hx
  subst hx;rw[dW]at hcap hm;refine⟨some ⟨b,off,none⟩,cap,by rw[dW],hcap,hm,fun hne=>⟨b,off,rfl,fun i x hx=>?_⟩⟩;rw[ax]at hx;obtain⟨z,hz,rfl⟩:=Option.map_eq_some_iff.1 hx;have h1:(ls fI l)[i]?=some (fI z):=by rw[eZ,hz];rfl
  have he:es=1:=by rw[<- hes _ (au h1)];rfl
  subst he;have h2:=hc i _ 0 _ h1 rfl;have h3:=lW (hr i _ 0 _ h1 rfl);rw[h3,Nat.mul_one,an]at h2;exact h2
theorem oc {X:Nat->Prop} {w:World} {M:List (List Int)} {v:Value} (h:cz X w (.sl (ls (fR fI) M)) v): ∃A c,v= .slice A M.length c/\M.length<=c/\M.length<=9223372036854775807/\qD .i64 w A M:=by
 generalize hx:PV.sl (ls (fR fI) M)=x at h;cases h with
 |raw v h=>cases hx
 |ptr b off cs f hX hb hc hr=>cases hx
 |nil a c=>
  injection hx with hx
  have hl:M=[]:=by simpa[ls] using hx
  subst hl;exact⟨a,c,rfl,Nat.zero_le _,by simp,qD.nil _ _ _⟩
 |sl b off es cap xs f hX hb hes hcap hm hc hr=>
  injection hx with hx
  subst hx;rw[dW]at hcap hm;refine⟨some ⟨b,off,none⟩,cap,by rw[dW],hcap,hm,fun hne=>⟨b,off,rfl,fun i r hi=>?_⟩⟩;have h1:(ls (fR fI) M)[i]?=some (fR fI r):=by rw[eZ,hi];rfl
  have he:es=1:=by rw[<- hes _ (au h1)];rfl
  subst he;have h2:=hc i _ 0 _ h1 rfl;have h3:=ke (hr i _ 0 _ h1 rfl);rw[Nat.mul_one,an]at h2;exact⟨_,h2,h3⟩
theorem MF {w:World} {l:List Int} {A:Option Addr} {c:Nat} (hl:l.length<=c) (hm:l.length<=9223372036854775807) (h:RdI .i64 w A l):cz (fun _=>False) w (.sl (ls fI l)) (.slice A l.length c):=by
 cases l with
 |nil=>exact cz.nil _ _
 |cons z0 l0=>
  obtain⟨b,off,rfl,hc⟩:=h (by simp);have h0:=hc 0 (.int .i64 z0) (by simp);have hb:b<w.heap.size:=jV h0;have:=cz.sl (X:=fun _=>False) (w:=w) b off 1 c (ls fI (z0::l0)) (fun i _=> .int .i64 ((z0::l0).getD i 0)) (fun h=>h) hb (fun e he=>by
   obtain⟨z,_,rfl⟩:=List.mem_map.1 he;rfl) (by rw[dW];exact hl) (by rw[dW];exact hm) (fun i e j x he hx=>by
   rw[eZ]at he;obtain⟨z,hz,rfl⟩:=Option.map_eq_some_iff.1 he;cases j with
   |succ j=>simp[fI]at hx
   |zero=>
    have:=hc i (.int .i64 z) (by rw[ax,hz];rfl);simp only[Nat.mul_one,an,List.getD_eq_getElem?_getD,hz,Option.getD_some];exact this) (fun i e j x he hx=>by
   rw[eZ]at he;obtain⟨z,hz,rfl⟩:=Option.map_eq_some_iff.1 he;cases j with
   |succ j=>simp[fI]at hx
   |zero=>
    simp[fI]at hx;subst hx;simp only[List.getD_eq_getElem?_getD,hz,Option.getD_some];exact cz.raw _ rfl)
  rw[dW]at this;exact this
theorem MG {w:World} {M:List (List Int)} {A:Option Addr} {c:Nat} (hl:M.length<=c) (hm:M.length<=9223372036854775807) (h:qD .i64 w A M):cz (fun _=>False) w (.sl (ls (fR fI) M)) (.slice A M.length c):=by
 cases M with
 |nil=>exact cz.nil _ _
 |cons r0 M0=>
  obtain⟨b,off,rfl,hc⟩:=h (by simp);obtain⟨v0,h0,_⟩:=hc 0 r0 rfl;have hb:b<w.heap.size:=jV h0;have:=cz.sl (X:=fun _=>False) (w:=w) b off 1 c (ls (fR fI) (r0::M0)) (fun i _=>(w.cell? ⟨b,off+i,none⟩).getD undef) (fun h=>h) hb (fun e he=>by
   obtain⟨z,_,rfl⟩:=List.mem_map.1 he;rfl) (by rw[dW];exact hl) (by rw[dW];exact hm) (fun i e j x he hx=>by
   rw[eZ]at he;obtain⟨r,hr,rfl⟩:=Option.map_eq_some_iff.1 he;cases j with
   |succ j=>simp[fR]at hx
   |zero=>
    obtain⟨v,h1,h2⟩:=hc i r hr;simp only[Nat.mul_one,an,h1,Option.getD_some]) (fun i e j x he hx=>by
   rw[eZ]at he;obtain⟨r,hr,rfl⟩:=Option.map_eq_some_iff.1 he;cases j with
   |succ j=>simp[fR]at hx
   |zero=>
    simp[fR]at hx;subst hx;obtain⟨v,h1,B,c',rfl,h3,h4,h5⟩:=hc i r hr;simp only[h1,Option.getD_some];exact MF h3 h4 h5)
  rw[dW]at this;exact this
/-! The program's functions. -/
theorem mB {args:List TV} {vs:Array Value} {X:Nat->Prop} {w:World} (h: ∀(j:Nat) t,args[j]?=some t-> ∃v:Value,vs[j]?=some v/\t.rel (fun _ _=>none) (fun _=>[]) X w v) {j:Nat} {x:PV} (hj:args[j]?=some (.one (.p x))): ∃v:Value,vs[j]?=some v/\cz X w x v:=h j _ hj
theorem Jz (M:List (List Int)) (x y:List Int):CallC Tryz.prog 47 [slI M,iC x,iC y] ⟨[],FE M x y⟩:=by
 refine ij (by kernel_rfl) fun X w vs hX hvs ha=>?_
 obtain⟨v0,e0,r0⟩:=mB ha (j:=0) rfl;obtain⟨v1,e1,r1⟩:=mB ha (j:=1) rfl;obtain⟨v2,e2,r2⟩:=mB ha (j:=2) rfl;obtain⟨A,c,rfl,hc,hl,hR⟩:=oc r0;obtain⟨B,d,rfl,hd,hlx,hx⟩:=ke r1;obtain⟨C,d',rfl,hd',hly,hy⟩:=ke r2;obtain rfl:vs= #[.slice A M.length c,.slice B x.length d,.slice C y.length d']:=by
  apply Array.ext_getElem?;intro j
  match j with
  |0=>exact e0
  |1=>exact e1
  |2=>exact e2
  |j+3=>rw[Array.getElem?_eq_none (by simp at hvs;omega)];rfl
 obtain⟨v,b,g1,g2⟩:=ud M x y;refine(wJ A B C c d d' M x y w hR hx hy hl hc hlx hly).mono fun e w' ⟨h1,h2⟩=>?_
 rw[g2]at h1;rw[g1];exact⟨_,h1,fun _ _ _=>sG v b,h2⟩
theorem Et (M:List (List Int)) (x:List Int):CallC Tryz.prog 93 [slI M,iC x] ⟨[],FE M x x⟩:=by
 refine ij (by kernel_rfl) fun X w vs hX hvs ha=>?_
 obtain⟨v0,e0,r0⟩:=mB ha (j:=0) rfl;obtain⟨v1,e1,r1⟩:=mB ha (j:=1) rfl;obtain⟨A,c,rfl,hc,hl,hR⟩:=oc r0;obtain⟨B,d,rfl,hd,hlx,hx⟩:=ke r1;obtain rfl:vs= #[.slice A M.length c,.slice B x.length d]:=by
  apply Array.ext_getElem?;intro j
  match j with
  |0=>exact e0
  |1=>exact e1
  |j+2=>rw[Array.getElem?_eq_none (by simp at hvs;omega)];rfl
 obtain⟨v,b,g1,g2⟩:=ud M x x;refine(Jb A B c d M x w hR hx hl hc hlx).mono fun e w' ⟨h1,h2⟩=>?_
 rw[g2]at h1;rw[g1];exact⟨_,h1,fun _ _ _=>sG v b,h2⟩
def A0 (v:Value) (a:Nat) (g:Nat->Value):Nat->Value:=fun j=>if j=0 then v else if j=1 then .int .i64 (a:Int)else g j
theorem F0 (tx n:Nat) (A:Option Addr) (c:Nat) (l:List Int) (a:Nat) (g:Nat->Value) (w:World) (hn:2<=n) (hl:RdI .i8 w A l) (hb: ∀z∈l,-128<=z/\z<=127) (ll:l.length<=9223372036854775807) (ha:a<=l.length) (hT:w.rowIs tx 95 n (A0 (.slice A l.length c) a g)) (hne:l≠[]-> ∀p,A=some p->p.block≠tx):
  Calls Tryz.prog 68 #[.pointer (some ⟨tx,0,none⟩)] w fun e w'=>e= .returned (.int .i64 (l.getD a 0))/\w'.rowIs tx 95 n (A0 (.slice A l.length c) (gF l a) g)/\w.grownBy w' (some tx):=by
 have HT:=Lib.hid hT;have HL:=Lib.hid hl;have HB:=Lib.hid hb;have HN:=Lib.hid hne;clear hT hl hb hne;have t0:w.cell? ⟨tx,0,none⟩=some (.slice A l.length c):=HT.out.cell (by omega);have t1:w.cell? ⟨tx,1,none⟩=some (.int .i64 (a:Int)):=HT.out.cell (by omega);have t2:w.frozen? ⟨tx,1,none⟩=false:=HT.out.frozen 1;by_cases hlt:a<l.length
 ·obtain⟨z,hz⟩:=getElem?_of_lt hlt;obtain⟨b,off,rfl,hc⟩:=HL.out.at_ hz;have hbt:b≠tx:=HN.out (by rintro rfl;simp at hlt) _ rfl;have hzb:=HB.out z (au hz);have hz1:=hzb.1;have hz2:=hzb.2;have HZ:Hid (l.getD a 0=z):=Lib.hid (by rw[List.getD_eq_getElem?_getD,hz];rfl);have HNx:Hid (gF l a=a+1):=Lib.hid (if_pos hlt);clear hz hzb
  go_enter Tryz.func68,Tryz.ntmps68
  go_wp2_with fail
  go_quiet (fail)
  go_wp2_with fail
  have hrow:=((mZ HT.out nq).set 1 (.int .i64 ((a:Int)+1))).congr (g:=A0 (.slice (some ⟨b,off,none⟩) l.length c) (a+1) g) (fun j hj=>by
   match j,hj with
   |0,_=>rfl
   |1,_=>simp[A0]
   |j+2,_=>simp[A0])
  have HROW:=Lib.hid hrow;have HG:=Lib.hid (OK (qS ((Ext.refl w).drewN nq) tx) 1 (.int .i64 ((a:Int)+1)));have s0:((w.drewN nq).setCell ⟨tx,1,none⟩ (.int .i64 ((a:Int)+1))).cell? ⟨tx,0,none⟩=some (.slice (some ⟨b,off,none⟩) l.length c):=HROW.out.cell (i:=0) (by omega);have s1:((w.drewN nq).setCell ⟨tx,1,none⟩ (.int .i64 ((a:Int)+1))).cell? ⟨tx,1,none⟩=some (.int .i64 ((a:Int)+1)):=by
   have:=HROW.out.cell (i:=1) (by omega);rw[this];simp[A0]
  have s2:((w.drewN nq).setCell ⟨tx,1,none⟩ (.int .i64 ((a:Int)+1))).cell? ⟨b,off+a,none⟩=some (.int .i8 z):=D0 HG.out hc hbt;have a1:IntKind.i64.wrap ((a:Int)+1-1)=(a:Int):=by rw[Int.add_sub_cancel];exact IntWalk.i64_in _ (by omega)
  have a2:(a:Int)<(l.length:Int):=by omega
  clear t0 t1 t2 hc hrow;generalize(w.drewN nq).setCell ⟨tx,1,none⟩ (.int .i64 ((a:Int)+1))=w3 at*
  go_quiet (fail)
  go_wp2_with fail
  go_ret
  rw[HZ.out,HNx.out];exact⟨rfl,mZ HROW.out _,zZ HG.out (qS ((Ext.refl _).drewN _) tx)⟩
 go_enter Tryz.func68,Tryz.ntmps68
 have HZ:Hid (l.getD a 0=0):=Lib.hid (by rw[List.getD_eq_getElem?_getD,aq (by omega)];rfl);have HNx:Hid (gF l a=a):=Lib.hid (if_neg hlt)
 go_wp2_with fail
 go_quiet (fail)
 go_wp2_with fail
 go_ret
 rw[HZ.out,HNx.out];exact⟨rfl,mZ HT.out _,qS ((Ext.refl _).drewN _) tx⟩
def f8 (z:Int):List PV:=[.raw (.int .i8 z)]
abbrev GB (L:List Int) (a:Nat):List PV:=[.sl (ls f8 L),.raw (.int .i64 (a:Int))]
abbrev dE (b:Nat):TV:= .raw (.pointer (some ⟨b,0,none⟩))
def I8 (L:List Int):Prop:= ∀z∈L,-128<=z/\z<=127
theorem I8.getD {L:List Int} (h:I8 L) (a:Nat): -128<=L.getD a 0/\L.getD a 0<=127:=by
 rw[List.getD_eq_getElem?_getD];cases hx:L[a]? with
 |none=>simp
 |some z=>exact h z (au hx)
theorem MH {X:Nat->Prop} {w:World} {l:List Int} {v:Value} (h:cz X w (.sl (ls f8 l)) v): ∃A c,v= .slice A l.length c/\l.length<=9223372036854775807/\RdI .i8 w A l/\(l≠[]-> ∀p,A=some p-> ¬X p.block):=by
 generalize hx:PV.sl (ls f8 l)=x at h;cases h with
 |raw v h=>cases hx
 |ptr b off cs f hX hb hc hr=>cases hx
 |nil a c=>
  injection hx with hx
  have hl:l=[]:=by simpa[ls] using hx
  subst hl;exact⟨a,c,rfl,by simp,RdI.nil _ _ _,fun h=>absurd rfl h⟩
 |sl b off es cap xs f hX hb hes hcap hm hc hr=>
  injection hx with hx
  subst hx;rw[dW]at hcap hm;refine⟨some ⟨b,off,none⟩,cap,by rw[dW],hm,fun hne=>⟨b,off,rfl,fun i x hx=>?_⟩,fun _ p hp=>by injection hp with hp;subst hp;exact hX⟩;rw[ax]at hx;obtain⟨z,hz,rfl⟩:=Option.map_eq_some_iff.1 hx;have h1:(ls f8 l)[i]?=some (f8 z):=by rw[eZ,hz];rfl
  have he:es=1:=by rw[<- hes _ (au h1)];rfl
  subst he;have h2:=hc i _ 0 _ h1 rfl;have h3:=lW (hr i _ 0 _ h1 rfl);rw[h3,Nat.mul_one,an]at h2;exact h2
theorem G8 (b:Nat) (L:List Int) (a:Nat) (hL:I8 L) (ha:a<=L.length):CallT Tryz.prog b 95 68 [dE b] (GB L a) ⟨[],.raw (.int .i64 (L.getD a 0))⟩ (GB L (gF L a)):=by
 refine⟨by kernel_rfl,fun X w vs hX hXb hbox hvs hargs=>?_⟩;obtain⟨cells,c,h1,h2,h3,h4,h5,h6⟩:=hbox;obtain⟨v0,e0,r0⟩:=hargs 0 _ rfl;have hv0:v0= .pointer (some ⟨b,0,none⟩):=lW r0;subst hv0;obtain rfl:vs= #[.pointer (some ⟨b,0,none⟩)]:=by
  apply Array.ext_getElem?;intro j
  match j with
  |0=>exact e0
  |j+1=>rw[Array.getElem?_eq_none (by simp at hvs;omega)];rfl
 obtain⟨v,c0,_,r1⟩:=h6 0 _ rfl;obtain⟨u,c1,_,r2⟩:=h6 1 _ rfl;have hu:=lW r2;subst hu;obtain⟨A,cap,rfl,hl,hrd,hb⟩:=MH r1;have hsz:cells.size=c*2:=h2;have hrow:w.rowIs b 95 (c*2) (A0 (.slice A L.length cap) a fun j=>(cells[j]?).getD undef):=by
  refine⟨cells,h1,hsz,fun i hi=>?_⟩
  match i with
  |0=>exact c0
  |1=>exact c1
  |i+2=>simp[A0,hsz,hi]
 have hblk:L≠[]-> ∀p,A=some p->p.block≠b:=fun hne p hp he=>hb hne p hp (by rw[he];exact hXb)
 refine(F0 b (c*2) A cap L a _ w (by omega) hrd hL hl ha hrow hblk).mono fun e w' ⟨q1,⟨cells',q2,q3,q4⟩,q5⟩=>?_
 have hbut: ∀k,k<w.heap.size->k≠b->w'.heap[k]?=w.heap[k]?:=fun k hk hne=>q5.block k hk (by simp;exact hne)
 have hXo: ∀j,Xo X (fun _ _=>none) (famH 0 []) j->X j:=fun j hj=>by
  rcases hj with hj|⟨_,_,_,_,_,g⟩
  ·exact hj
  cases g
 refine⟨_,q1,fun _ _=>none,?_,cz.raw _ rfl,cells',c,q2,q3,h3,h4,h5,fun j x hx=>?_⟩
 ·have e: ∀a,famH 0 [] a=[]:=fun a=>by unfold famH;split<;>rfl
  refine⟨⟨q5.os,q5.tape,q5.output,q5.size,fun k hk hn=>hbut k hk hn⟩,fun a r o ho=>?_,fun a r a' r' o o' b c c' ho=>?_,fun a r o b c ho=>?_,fun j hj=>Nat.lt_of_lt_of_le (hX j hj) q5.size,fun a r o ho=>?_⟩<;>(rw[e]at ho;simp at ho)
 match j,hx with
 |0,hx=>
  have hx:x= .sl (ls f8 L):=by simpa using hx.symm
  subst hx;refine⟨.slice A L.length cap,q4 0 (by omega),rfl,r1.later (fun j _ hj=>hXo j hj) q5.size fun p u hp hn hu=>?_⟩;rw[qN (hbut p.block hp (fun he=>hn (by rw[he];exact hXb)))];exact hu
 |1,hx=>
  have hx:x= .raw (.int .i64 (gF L a:Nat)):=by simpa using hx.symm
  subst hx;exact⟨_,q4 1 (by omega),rfl,cz.raw _ rfl⟩
 |j+2,hx=>simp at hx
def mi (L:List Int) (a n:Nat):Nat:=((L.getD a 0)%256).toNat%n
theorem lC {n:Nat} (L:List Int) (a:Nat) (h:0<n):mi L a n<n:=Nat.mod_lt _ h
theorem Fb (L:List Int) (a n:Nat):Int.tmod (L.getD a 0%256) (n:Int)=(mi L a n:Int):=by
 have h:L.getD a 0%256=((L.getD a 0%256).toNat:Int):=by omega
 unfold mi;rw[Int.ofNat_tmod,<- h]
theorem PE (x:Int):IntKind.u8.wrap x=x%256:=by rw[IntKind.wrap_u8]
theorem nQ {L:List Int} {a:Nat} (h:a<=L.length):gF L a<=L.length:=by unfold gF;split<;>omega
theorem xv (b:Nat) (L:List Int) (a n:Nat) (hL:I8 L) (ha:a<=L.length) (hn1:0<n) (hn:n<=100):CallT Tryz.prog b 95 67 [dE b,.raw (.int .i64 (n:Int))] (GB L a) ⟨[],.raw (.int .i64 (mi L a n:Int))⟩ (GB L (gF L a)):=by
 have c1:=G8 b L a hL ha;have e1:=Fb L a n;have e2:=PE (L.getD a 0);refine mD Tryz.func67 rfl (by kernel_rfl) ?_;rw[Tryz.ntmps67];refine aZ fun _ K=>?_;simp only[kd,dE,aa,ae];apply K
 refine qG 1 c1 [] [] (by kernel_rfl) (by rfl) (by rfl) fun _ K=>?_;simp(disch:=omega) only[kd,List.map,dE,aa,e2,aO,e1];apply K
 (refine nE ⟨.inr rfl,rfl,aG rfl ?_ rfl⟩;simp(disch:=omega) only[kd,Tryz.results67])
section
def i9 (r:List Int):OObj:=⟨2,1,lc fI r⟩
abbrev kI (d n c i:Nat) (f:FF):List OObj:=⟨27,1,fO d (ae i c)++ae (n-i) pb⟩::(mat i c f).map i9
abbrev mxI (d n c:Nat) (f:FF):List OObj:=⟨27,1,fO d (ae n c)⟩::(mat n c f).map i9
theorem lK (d n c:Nat) (f:FF):kI d n c n f=mxI d n c f:=by simp[kI,mxI]
theorem i4 {i n:Nat} (d c:Nat) (h:i<=n):(fO d (ae i c)++ae (n-i) pb).length=n:=by simp[cq];omega
theorem qW {i k n:Nat} (d c:Nat) (h:k<i):(fO d (ae i c)++ae (n-i) pb)[k]?=some [.sl d (k+1) 0 c]:=by
 rw[List.getElem?_append_left (by simp[cq];exact h),bK d c h]
theorem oV {i n:Nat} (d c:Nat) (h:i<n):(fO d (ae i c)++ae (n-i) pb)[i]?=some pb:=by
 rw[List.getElem?_append_right (by simp[cq]),cq,aw,Nat.sub_self,List.getElem?_replicate,if_pos (by omega)]
theorem bS {n i:Nat} (c:Nat) (f:FF) (h:i<n):((mat n c f).map i9)[i]?=some ⟨2,1,lc fI (bz c (f i))⟩:=by
 rw[ax,bs _ _ h];rfl
theorem da {n i j:Nat} (c:Nat) (f:FF) (v:Int):((mat n c f).map i9).set i ⟨2,1,(lc fI (bz c (f i))).set j [.p (.raw (.int .i64 v))]⟩=(mat n c (upd f i j v)).map i9:=by
 have e:(⟨2,1,(lc fI (bz c (f i))).set j [.p (.raw (.int .i64 v))]⟩:OObj)=i9 (bz c fun b=>if b=j then v else f i b):=by
  rw[<- qh,i9,<- yc];rfl
 rw[e,<- List.map_set,yg];rfl
theorem cj {n c:Nat} {f g:FF} (h: ∀i j,i<n->j<c->f i j=g i j):(mat n c f).map i9=(mat n c g).map i9:=by rw[dR h]
theorem lL {i n c:Nat} (d:Nat) (f:FF) (hi:i<n) (h0: ∀j,j<c->f i j=0):
  (⟨27,1,(fO d (ae i c)++ae (n-i) pb).set i [.sl d (i+1) 0 c]⟩::((mat i c f).map i9++[⟨2,1,ae c [.raw (.int .i64 0)]⟩]):List OObj)=kI d n c (i+1) f:=by
 have e1:(fO d (ae i c)++ae (n-i) pb).set i [.sl d (i+1) 0 c]=fO d (ae (i+1) c)++ae (n-(i+1)) pb:=by
  rw[List.set_append_right _ _ (by simp[cq]),cq,aw,Nat.sub_self,List.replicate_succ' (n:=i),ni,aw,List.append_assoc]
  congr 1
  rw[show n-i=n-(i+1)+1 by omega,List.replicate_succ];rfl
 have e2:(⟨2,1,ae c [.raw (.int .i64 0)]⟩:OObj)=i9 (bz c (f i)):=by
  rw[i9]
  congr 1
  apply List.ext_getElem?;intro j;rw[List.getElem?_replicate,Cj];by_cases hj:j<c
  ·rw[if_pos hj,aR _ hj,h0 j hj];rfl
  rw[if_neg hj,aq (by rw[bv];omega)];rfl
 rw[e1,e2,kI,uo,List.map_append];rfl
theorem bZ (d e n c:Nat) (f:FF):(mxI d n c f).map (dj e)=mxI e n c f:=by
 simp only[mxI,List.map_cons,List.map_map]
 congr 1
 ·simp[dj,EF]
 exact List.map_congr_left fun r _=>by simp[dj,i9,uk]
theorem bU {H:OH} {d n c:Nat} {f:FF} (h:H d=mxI d n c f):r6 H d:=fun r o ho e he x hx=>by
 rw[h]at ho;cases r with
 |succ r=>
  rw[List.getElem?_cons_succ,ax]at ho;obtain⟨l,hl,rfl⟩:=Option.map_eq_some_iff.1 ho;exact .inl (dy _ _ l e he x hx)
 |zero=>
  simp at ho;subst ho;simp only at he;obtain⟨k,hk⟩:=List.mem_iff_getElem?.1 he;have hkn:k<n:=by
   have:=(List.getElem?_eq_some_iff.1 hk).1;rwa[cq,aw]at this
  rw[bK d c hkn]at hk;injection hk with hk
  subst hk;simp at hx;subst hx;refine .inr ⟨k+1,0,c,i9 (bz c (f k)),rfl,?_,dy _ _ _⟩;rw[h,List.getElem?_cons_succ,ax,bs _ _ hkn];rfl
theorem gD {H:OH} {d n c:Nat} {f:FF} (h:H d=mxI d n c f):fD H d (.one (.sl d 0 0 n))=slI (mat n c f):=by
 have e:((fO d (ae n c)).map (List.map (gQ H d)))=ls (fR fI) (mat n c f):=by
  apply List.ext_getElem?;intro i;rw[ax,eZ];by_cases hi:i<n
  ·rw[bK d c hi,bs _ _ hi];simp only[Option.map_some,List.map_cons,List.map_nil,gQ,h,List.getElem?_cons_succ,bS _ _ hi,fR,fE,pP,nK];rw[List.drop_zero,List.take_of_length_le (by rw[bv];omega)]
  rw[aq (by rw[cq,aw];omega),aq (by rw[aU];omega)];rfl
 simp only[fD,eG,if_true,h,List.getElem?_cons_zero];rw[List.drop_zero,List.take_of_length_le (by rw[cq,aw];omega),e]
theorem xZ {H:OH} {d n c:Nat} {f:FF} (h:H d=mxI d n c f):eG H d (.sl d 0 0 n)= .p (.sl (ls (fR fI) (mat n c f))):=TV.one.inj (gD h)
abbrev kP (k:Nat) (b:Bool):TV:= .tup [(false,[.sl 0 0 0 k]),(false,[.p (.raw (.bool b))])]
theorem CJ {fn:Func} {d k c:Nat} {F:FF} {b:Bool} {s:AS} (hd:s.H d=mxI d k c F)
  (hres:uU Tryz.prog s fn.results.toList=some (.tup [(false,[.sl d 0 0 k]),(false,[.p (.raw (.bool b))])])) (h5:d<=4999):
  ∃s',b8 s s'/\oA Tryz.prog fn ⟨mxI 0 k c F,kP k b⟩ s':=
 ⟨s,b8.refl s,_,d,hres,qj (by simp[iv,ew]) h5,by rw[hd,bZ],rfl⟩
section
variable {P:Program} {fu:FuncId} {args:List TV} {n c:Nat} {g:FF}
theorem CallC.fzI (h:CallC P fu args ⟨mxI 0 n c g,.one (.sl 0 0 0 n)⟩):CallC P fu args ⟨[],slI (mat n c g)⟩:=
 h.weak ((bC 0 (bU (d:=0) (n:=n) (c:=c) (f:=g) rfl)).trans (aE (tm:=[slI (mat n c g)]) (l:=[(0,[])]) ⟨rfl,trivial⟩ (by
  simp[wk];exact(gD (H:=famH 0 (mxI 0 n c g)) (d:=0) (n:=n) (c:=c) (f:=g) rfl).symm)))
theorem CallC.fzT {rest:List (Bool×List AV)} (h:CallC P fu args ⟨mxI 0 n c g,.tup ((false,[.sl 0 0 0 n])::rest)⟩) (hr: ∀t∈rest,∀x∈t.2,isPure x=true):
  CallC P fu args ⟨[],.tup ((false,[.p (.sl (ls (fR fI) (mat n c g)))])::rest)⟩:=by
 refine h.weak ((bC 0 (bU (d:=0) (n:=n) (c:=c) (f:=g) rfl)).trans (aE (tm:=[.tup ((false,[.p (.sl (ls (fR fI) (mat n c g)))])::rest)]) (l:=[(0,[])]) ⟨rfl,trivial⟩ ?_));have e1:=xZ (H:=famH 0 (mxI 0 n c g)) (d:=0) (n:=n) (c:=c) (f:=g) rfl;have pv: ∀x,isPure x=true->eG (famH 0 (mxI 0 n c g)) 0 x=x/\yo [0] x=true:=fun x hx=>by cases x<;>first|exact⟨rfl,rfl⟩|cases hx
 have e2:rest.map (fun t=>(t.1,t.2.map (eG (famH 0 (mxI 0 n c g)) 0)))=rest:=by
  refine(List.map_congr_left fun t ht=>?_).trans (List.map_id rest);show(t.1,t.2.map _)=t;rw[(List.map_congr_left fun x hx=>(pv x (hr t ht x hx)).1).trans (List.map_id t.2)]
 refine⟨.inr ⟨?_,?_⟩,trivial⟩
 ·show _=fD (famH 0 (mxI 0 n c g)) 0 (.tup ((false,[.sl 0 0 0 n])::rest));simp only[fD,List.map_cons,List.map_nil];rw[e1,e2]
 show(List.all _ _)=true;simp only[List.all_cons,List.all_nil,Bool.and_true,List.all_eq_true,Bool.and_eq_true];exact⟨rfl,fun t ht x hx=>(pv x (hr t ht x hx)).2⟩
end
def kD (L:List Int) (a:Nat):Nat->Nat
 |0=>a
 |i+1=>gF L (kD L a i)
theorem qH {L:List Int} {a:Nat} (h:a<=L.length): ∀i,kD L a i<=L.length
 |0=>h
 |i+1=>nQ (qH h i)
def gC (L:List Int) (a most:Nat):Nat->Nat->Int:=fun i j=>if i=j then 1+(mi L (kD L a i) most:Int)else 0
def Fo (L:List Int) (a most i:Nat):Nat->Nat->Int:=fun x y=>if x<i then gC L a most x y else 0
theorem If (L:List Int) (a most i x y:Nat):upd (Fo L a most i) i i (1+(mi L (kD L a i) most:Int)) x y=Fo L a most (i+1) x y:=by
 unfold upd Fo gC;by_cases h1:x=i
 ·subst h1;by_cases h2:y=x
  ·subst h2;simp
  simp[h2,Ne.symm h2]
 have:x<i+1↔x<i:=by omega
 simp[h1,this]
theorem lH (b:Nat) (L:List Int) (a n most:Nat) (hL:I8 L) (ha:a<=L.length) (hn:n<=8) (hm1:0<most) (hmm:most<=100):
  CallT Tryz.prog b 95 85 [dE b,.raw (.int .i64 (n:Int)),.raw (.int .i64 (most:Int))] (GB L a) ⟨mxI 0 n n (gC L a most),.one (.sl 0 0 0 n)⟩ (GB L (kD L a n)):=by
 refine mD Tryz.func85 rfl (by kernel_rfl) ?_;rw[Tryz.ntmps85];refine aZ fun _ K=>?_;simp only[kd,dE,aa,ae];apply K
 refine aZ fun _ K=>?_;simp(disch:=omega) only[kd,aa];apply K
 refine df (aZ fun _ K=>?_);simp only[kd,aa];apply K;refine mt (G:=jP n) (fun g=>⟨(dE b::rN n::rN most::j4 (.one (.sl 10 0 0 n)::j4 (.raw (.int .i64 (n:Int))::rN g.i::j16 (jk::jk::jk::[])))),Hm [(10,kI 10 n n g.i (Fo L a most g.i))]⟩) (fun g=>GB L (kD L a g.i)) (fun g=>n-g.i) ⟨0,by omega⟩ ?_ rfl ?_
 ·refine aE ⟨?_,trivial⟩ ?_
  ·show[_]=_;simp[fO,mat]
  simp[wk]
 rintro⟨i,hi⟩;simp only;by_cases hm:i<n
 ·have c1:=xv b L (kD L a i) most hL (qH ha i) hm1 hmm;have hbl:=lC (n:=most) L (kD L a i) hm1;have k1:=oV (i:=i) (n:=n) 10 n hm;have k2:=i4 (i:=i) (n:=n) 10 n hi;have k3:=aU i n (Fo L a most i);have k4:=lL (i:=i) (n:=n) (c:=n) 10 (Fo L a most i) hm (fun j hj=>by unfold Fo;rw[if_neg (by omega)]);have k5:=qW (i:=i+1) (k:=i) (n:=n) 10 n (by omega);have k6:=i4 (i:=i+1) (n:=n) 10 n (by omega);have k7:=bS (n:=i+1) n (Fo L a most i) (i:=i) (by omega);have k8:=aR (Fo L a most i i) hm;refine aZ fun _ K=>?_;simp(disch:=omega) only[kd,dE];apply K
  refine xB rfl ?_;refine df (dQ ?_);refine aZ fun _ K=>?_;simp only[kd];apply K
  refine aZ fun _ K=>?_;simp(disch:=omega) only[kd,aa,Nat.reduceEqDiff,k1,Nat.reduceLeDiff,aw,List.all_replicate,k3,k4,af];apply K
  refine fi.weak (aE (tm:=(dE b::rN n::rN most::j4 (.one (.sl 10 0 0 n)::rN i::jk::jk::jk::rN n::rN i::j16 (jk::jk::jk::[])))) (l:=[(10,kI 10 n n (i+1) (Fo L a most i))]) ⟨?_,trivial⟩ (by simp[wk])) ?_
  ·first|exact k4|rfl
  refine lB aW 7 c1 [] [] (by kernel_rfl) (by kernel_rfl) (by rfl) (by rfl) fun _ K=>?_;simp(disch:=omega) only[kd,dE,aa,k5,aO,k7,k8,da];apply K
  show fi _ _ _ _ _ _ _;refine fB fun _ K=>?_;simp(disch:=omega) only[kd,aO];apply K
  refine⟨⟨i+1,by omega⟩,by simp only;omega,aE ⟨?_,trivial⟩ ?_,rfl⟩
  ·show _::_=_::_;rw[cj fun x y _ _=>If L a most i x y]
  simp[wk]
 have hin:i=n:=by omega
 subst hin;refine aZ fun _ K=>?_;simp(disch:=omega) only[kd,dE];apply K
 refine xA rfl ?_;show fi _ _ _ _ _ _ _;have e:kI 10 i i i (Fo L a most i)=mxI 10 i i (gC L a most):=by
  rw[lK];show _::_=_::_;rw[cj fun x y hx _=>show Fo L a most i x y=gC L a most x y by unfold Fo;rw[if_pos hx]]
 rw[e];refine aZ fun _ K=>?_;simp only[kd];apply K
 refine nE ⟨.inr rfl,rfl,_,b8.refl _,?_⟩;refine⟨.one (.sl 10 0 0 i),10,?_,rfl,?_,rfl⟩
 ·simp(disch:=omega) only[kd,Tryz.results85]
 exact(bZ 10 0 _ _ _).symm
end
theorem Na (m:Nat):swp (m+1) m idF=G0 m:=by
 funext a;unfold swp G0 oq;by_cases h1:a=m+1
 ·subst h1;simp
 by_cases h2:a=m
 ·subst h2;simp
 simp[h1,h2]
def PM (n:Nat) (f:FF):Option Ch->TV
 |none=> .tup [(false,[.p (.raw (.slice none 0 0))]),(false,[.p (.raw (.bool false))])]
 |some c=> .tup [(false,[.p (.sl (ls (fR fZ) (mat n n (NM f c))))]),(false,[.p (.raw (.bool true))])]
structure RQ (n:Nat) (f:FF) where
 i:Nat
 hi:i<=n
 h:scanF f n=scanI f (n-i) i
structure RS (i:Nat) (f:FF) where
 k:Nat
 hk:k<=i
 h:scanJ f i i=scanJ f i k
theorem Pn (n:Nat) (f:FF) (hn1:1<=n) (hn:n<=8) (hp: ∀k,k<n->0<dk f (k+1)) (hf: ∀i j,i<n->j<n->Sz (f i j) 1024):
  CallC Tryz.prog 64 [slM (mat n n f)] ⟨[],PM n f (scanF f n)⟩:=by
 have hL:=qC n f hn1 (by omega) hf;have hI:=sV n hn1 (by omega);have hml:=aU n n f;refine aI Tryz.func64 rfl (by kernel_rfl) ?_;rw[Tryz.ntmps64];refine aC fun _ K=>?_;simp only[kd,slM,ae];apply K
 refine aF [⟨1,_,_,_,hL⟩] [] fun _ K=>?_;simp only[kd,slM,Qj,aa];apply K
 refine aF [⟨2,_,_,_,hI⟩] [] fun _ K=>?_;simp only[kd,aa,hml];apply K
 refine aD (aC fun _ K=>?_);simp only[kd,aa,hml];apply K;refine aT (G:=RQ n f) (fun g=>⟨(slM (mat n n f)::jk::jk::jk::kZ (yZ n f)::jk::.one (.sl 18 0 0 n)::j4 (j4 (j4 (jk::jk::jk::rN n::rN g.i::j16 (j16 (j16 (j4 (j4 (jk::jk::jk::[]))))))))),Hm [(18,gK 18 n n idF)]⟩) (fun g=>n-g.i) ⟨0,by omega,rfl⟩ ?_ ?_
 ·refine aE ⟨?_,trivial⟩ ?_
  ·exact gu 0 18 n n _
  simp[wk]
 rintro⟨i,hi,hsc⟩;simp only;by_cases hm:i<n
 ·have hsc2:scanI f (n-i) i=match scanJ f i i with
   |some j=>some (.add i j)
   |none=>if 0<i/\ ¬LovF f i then some (.swp (i-1))else scanI f (n-(i+1)) (i+1):=by
   rw[show n-i=n-(i+1)+1 by omega];rfl
  refine aC fun _ K=>?_;simp(disch:=omega) only[kd,slM,kZ];apply K
  refine bu rfl ?_;refine aD (aJ ?_);refine aC fun _ K=>?_;simp only[kd];apply K
  refine aD (aC fun _ K=>?_);simp(disch:=omega) only[kd,aa,aO];apply K;refine aT (G:=RS i f) (fun g=>⟨(slM (mat n n f)::jk::jk::jk::kZ (yZ n f)::jk::.one (.sl 18 0 0 n)::jk::rN i::.raw (.int .i64 ((g.k:Int)-1))::j4 (j4 (j4 (.raw (.int .i64 (n:Int))::rN i::j16 (j16 (j16 (j4 (j4 (jk::jk::jk::[]))))))))),Hm [(18,gK 18 n n idF)]⟩) (fun g=>g.k) ⟨i,by omega,rfl⟩ ?_ ?_
  ·refine aE ⟨rfl,trivial⟩ ?_;simp[wk]
  rintro⟨k,hk,hsj⟩;simp only;cases k with
  |zero=>
   refine aD (aC fun _ K=>?_);simp(disch:=omega) only[kd,slM,kZ];apply K;refine aN rfl (bE ?_);show bf _ _ _ _;have hsj0:scanJ f i i=none:=hsj;rw[hsj0]at hsc2;by_cases h0:0<i
   ·have c1:=zg n f i (by omega) hm h0 hf;by_cases hs:LovF f i
    ·rw[decide_eq_true (show 3*(dd f i*dd f i)<=4*(dd f (i-1)*dd f (i+1)+lam f i (i-1)*lam f i (i-1))from hs)]at c1;have hnx:scanF f n=scanI f (n-(i+1)) (i+1):=by rw[hsc,hsc2];exact if_neg (by simp[hs])
     refine aF [⟨6,_,_,_,c1⟩] [] fun _ K=>?_;simp(disch:=omega) only[kd,slM,kZ,aa];apply K
     refine aN rfl (aK ?_);show bf _ _ _ _;refine aL fun _ K=>?_;simp(disch:=omega) only[kd,aO];apply K
     refine⟨⟨i+1,by omega,hnx⟩,by simp only;omega,aE ⟨rfl,trivial⟩ ?_⟩;simp[wk]
    rw[decide_eq_false (show ¬3*(dd f i*dd f i)<=4*(dd f (i-1)*dd f (i+1)+lam f i (i-1)*lam f i (i-1))from hs)]at c1;have hnx:scanF f n=some (.swp (i-1)):=by rw[hsc,hsc2];exact if_pos ⟨h0,hs⟩
    rw[hnx];have x0:((i:Int)-1).toNat=i-1:=by omega
    have g1:=bK (n:=n) (i:=i) 18 n hm;have g2:=bK (n:=n) (i:=i-1) 18 n (by omega);have g4:((fO 18 (ae n n)).set i [.sl 18 (i-1+1) 0 n])[i-1]?=some [.sl 18 (i-1+1) 0 n]:=by
     rw[List.getElem?_set_ne (by omega),g2]
    refine aF [⟨6,_,_,_,c1⟩] [] fun _ K=>?_;simp(disch:=omega) only[kd,slM,kZ,aa];apply K
    refine aS rfl ?_;refine b9 aW (by kernel_rfl) fun _ K=>?_;simp(disch:=omega) only[kd,aa,aO,x0,g2,g1,g4,Nat.reduceLeDiff,reduceCtorEq];apply K
    refine bf.weak ((si 18 (i+1) (i-1+1) (gK 18 n n (swp i (i-1) idF)) (yl idF hm (by omega) (by omega))).trans (aE (tm:=(j4 (jk::jk::.one (.sl 18 0 0 n)::j16 (j16 (j16 (j16 (j4 (j4 (j4 ([])))))))))) (l:=[(18,gK 18 n n (swp i (i-1) idF))]) ⟨rfl,trivial⟩ (by simp[wk,Gz,k9,pN,sw]))) ?_;rw[show swp i (i-1) idF=G0 (i-1) by rw[<- Na,show i-1+1=i by omega]];refine bf.weak ((bC 18 (jY rfl)).trans (aE (tm:=(j4 (jk::jk::slM (mat n n (G0 (i-1)))::j16 (j16 (j16 (j16 (j4 (j4 (j4 ([])))))))))) (l:=[]) trivial (by simp[wk];exact(NO (H:=Hm [(18,gK 18 n n (G0 (i-1)))]) (d:=18) (n:=n) (c:=n) (f:=G0 (i-1)) rfl).symm))) ?_;refine aC fun _ K=>?_;simp only[kd,aa,slM];apply K
    (refine aH ⟨.inr rfl,aG rfl ?_ rfl⟩;simp(disch:=omega) only[kd,Tryz.results64,PM,NM])
   have hi0:i=0:=by omega
   subst hi0;have hnx:scanF f n=scanI f (n-(0+1)) (0+1):=by rw[hsc,hsc2];exact if_neg (by simp)
   refine aC fun _ K=>?_;simp(disch:=omega) only[kd,aa];apply K
   refine aN rfl (aK ?_);show bf _ _ _ _;refine aL fun _ K=>?_;simp(disch:=omega) only[kd,aO];apply K
   refine⟨⟨1,by omega,hnx⟩,by simp only;omega,aE ⟨rfl,trivial⟩ ?_⟩;simp[wk]
  |succ j=>
   have x1:((j+1:Nat):Int)-1=(j:Int):=by omega
   rw[x1];have c1:=Dl n f i j (by omega) hm (by omega) hf;by_cases hs:SizF f i j
   ·rw[decide_eq_true (show 2*((lam f i j).natAbs:Int)<=dd f (j+1)from hs)]at c1;have hnx:scanJ f i i=scanJ f i j:=by rw[hsj];exact if_pos hs
    refine aD (aC fun _ K=>?_);simp(disch:=omega) only[kd,slM,kZ];apply K;refine aS rfl (aK ?_);refine aD (aJ ?_);refine aF [⟨4,_,_,_,c1⟩] [] fun _ K=>?_;simp only[kd,slM,kZ,aa];apply K
    refine aN rfl (aK ?_);show bf _ _ _ _;refine aL fun _ K=>?_;simp(disch:=omega) only[kd,aa,aO];apply K
    refine⟨⟨j,by omega,hnx⟩,by simp only;omega,aE ⟨rfl,trivial⟩ ?_⟩;simp[wk]
   rw[decide_eq_false (show ¬2*((lam f i j).natAbs:Int)<=dd f (j+1)from hs)]at c1;have hnx:scanJ f i i=some j:=by rw[hsj];exact if_neg hs
   have hnx2:scanF f n=some (.add i j):=by rw[hsc,hsc2,hnx]
   rw[hnx2,show PM n f (some (.add i j))= .tup [(false,[.p (.sl (ls (fR fZ) (mat n n (upd idF j i (cF f i j)))))]),(false,[.p (.raw (.bool true))])]from rfl];have hdp:0<dd f (j+1):=by rw[jX hp (by omega)];exact hp j (by omega)
   have sl:=Ci (n:=n) (i:=i) (j:=j) (by omega) hm (by omega) hf;have sd:=zL (n:=n) (k:=j+1) (by omega) (by omega) hf;have d1:=sW n f i j (by omega) hm (by omega) hf;have d2:=pQ n f (j+1) (by omega) (by omega);rw[show((j+1:Nat):Int)=(j:Int)+1 by omega]at d2;have d3:=Bq (lam f i j) (dd f (j+1)) hdp (sl.mono (by omega)) (sd.mono (by omega));have hnd:=o6 (n:=lam f i j) hdp;have d4:=EU (nN (lam f i j) (dd f (j+1))) (nD (lam f i j) (dd f (j+1))) hnd ((wR sl).mono (by omega)) ((wQ sd).mono (by omega));rw[Ra hdp]at d4;have sq:Sz (qF (lam f i j) (dd f (j+1))) 67174401:=by
    have h1:=CE (l:=lam f i j) hdp;have h2:Sz ((lam f i j).natAbs+1:Int) (67174400+1):=Sz.add (sl.le (by omega)) (l4 (by omega));exact h2.le (by omega)
   have d5:=I7 (qF (lam f i j) (dd f (j+1))) (sq.mono (by omega));rw[show -(qF (lam f i j) (dd f (j+1)))=cF f i j from rfl]at d5;have g1:=bK (n:=n) (i:=j) 18 n (by omega);have g2:=em n idF (show j<n by omega);have g3:=aR (idF j) hm;generalize cF f i j=cc at*
   generalize qF (lam f i j) (dd f (j+1))=qq at*
   generalize nN (lam f i j) (dd f (j+1))=n1 at*
   generalize nD (lam f i j) (dd f (j+1))=n2 at*
   refine aD (aC fun _ K=>?_);simp(disch:=omega) only[kd,slM,kZ];apply K;refine aS rfl (aK ?_);refine aD (aJ ?_);refine aF [⟨4,_,_,_,c1⟩] [] fun _ K=>?_;simp only[kd,slM,kZ,aa];apply K
   refine aS rfl ?_;refine bo aW [⟨8,_,_,_,d1⟩,⟨12,_,_,_,d2⟩,⟨13,_,_,_,d3⟩,⟨14,_,_,_,d4⟩,⟨15,_,_,_,d5⟩] [] (by kernel_rfl) fun _ K=>?_;simp(disch:=omega) only[kd,slM,tZ,kZ,tR,aa,g1,aO,af,g2,fZ,g3,j7];apply K
   refine bf.weak ((aE (tm:=(j4 (jk::jk::.one (.sl 18 0 0 n)::j16 (j16 (j16 (j16 (j4 (j4 (j4 ([])))))))))) (l:=[(18,gK 18 n n (upd idF j i cc))]) ⟨rfl,trivial⟩ (by simp[wk])).trans ((bC 18 (jY rfl)).trans (aE (tm:=(j4 (jk::jk::slM (mat n n (upd idF j i cc))::j16 (j16 (j16 (j16 (j4 (j4 (j4 ([])))))))))) (l:=[]) trivial (by
    simp[wk];exact(NO (H:=Hm [(18,gK 18 n n (upd idF j i cc))]) (d:=18) (n:=n) (c:=n) (f:=upd idF j i cc) rfl).symm)))) ?_
   refine aC fun _ K=>?_;simp only[kd,aa,slM];apply K
   (refine aH ⟨.inr rfl,aG rfl ?_ rfl⟩;simp(disch:=omega) only[kd,Tryz.results64])
 have hin:i=n:=by omega
 subst hin;have hnx:scanF f i=none:=by rw[hsc,Nat.sub_self];rfl
 rw[hnx];refine aC fun _ K=>?_;simp(disch:=omega) only[kd,slM,kZ];apply K
 refine bD rfl ?_;show bf _ _ _ _;refine aC fun _ K=>?_;simp only[kd];apply K
 (refine aH ⟨.inr rfl,aG rfl ?_ rfl⟩;simp(disch:=omega) only[kd,Tryz.results64,PM])
def Rf (L:List Int) (i k:Nat) (s:(Nat->Nat->Int)×Nat):(Nat->Nat->Int)×Nat:=(upd (upd s.1 i k (Int.tmod (L.getD s.2 0) 3)) k i (Int.tmod (L.getD s.2 0) 3),gF L s.2)
def K5 (L:List Int) (i:Nat) (s:(Nat->Nat->Int)×Nat):Nat->(Nat->Nat->Int)×Nat
 |0=>s
 |k+1=>Rf L i k (K5 L i s k)
def po (L:List Int) (s:(Nat->Nat->Int)×Nat):Nat->(Nat->Nat->Int)×Nat
 |0=>s
 |i+1=>K5 L i (po L s i) i
theorem Cf {L:List Int} {i:Nat} {s:(Nat->Nat->Int)×Nat} (h:s.2<=L.length): ∀k,(K5 L i s k).2<=L.length
 |0=>h
 |k+1=>nQ (Cf h k)
theorem Ce {L:List Int} {s:(Nat->Nat->Int)×Nat} (h:s.2<=L.length): ∀i,(po L s i).2<=L.length
 |0=>h
 |i+1=>Cf (Ce h i) i
theorem yT (f:FF) (i j:Nat) (v:Int):upd f i j v i j=v:=by simp[upd]
theorem Fz (b:Nat) (L:List Int) (a n:Nat) (hL:I8 L) (ha:a<=L.length) (hn:n<=8):
  CallT Tryz.prog b 95 83 [dE b,.raw (.int .i64 (n:Int))] (GB L a) ⟨mxI 0 n n (po L (gC L a 6,kD L a n) n).1,.one (.sl 0 0 0 n)⟩ (GB L (po L (gC L a 6,kD L a n) n).2):=by
 have c0:=lH b L a n 6 hL ha hn (by omega) (by omega);rw[show((6:Nat):Int)=6 from rfl]at c0;have hp0:(gC L a 6,kD L a n).2<=L.length:=qH ha n;refine mD Tryz.func83 rfl (by kernel_rfl) ?_;rw[Tryz.ntmps83];refine aZ fun _ K=>?_;simp only[kd,dE,aa,ae];apply K
 refine qG 2 c0 [] [] (by kernel_rfl) (by rfl) (by rfl) fun _ K=>?_;simp only[kd,dE,aa];apply K
 refine df (aZ fun _ K=>?_);simp only[kd,aa];apply K;refine mt (G:=jP n) (fun g=>⟨(dE b::j4 (.one (.sl 10 0 0 n)::j4 (jk::jk::rN n::rN g.i::j16 (j4 (j4 (j4 (jk::jk::jk::[]))))))),Hm [(10,mxI 10 n n (po L (gC L a 6,kD L a n) g.i).1)]⟩) (fun g=>GB L (po L (gC L a 6,kD L a n) g.i).2) (fun g=>n-g.i) ⟨0,by omega⟩ ?_ rfl ?_
 ·refine aE ⟨?_,trivial⟩ ?_
  ·exact bZ 0 10 n n _
  simp[wk]
 rintro⟨i,hi⟩;simp only;have hpi:=Ce hp0 i;by_cases hm:i<n
 ·refine aZ fun _ K=>?_;simp(disch:=omega) only[kd,dE];apply K
  refine xB rfl ?_;refine df (dQ ?_);refine aZ fun _ K=>?_;simp only[kd];apply K
  refine aZ fun _ K=>?_;simp only[kd];apply K
  refine mt (G:=jP i) (fun g=>⟨(dE b::j4 (.one (.sl 10 0 0 n)::rN i::rN g.i::j4 (.raw (.int .i64 (n:Int))::rN i::j16 (j4 (j4 (j4 (jk::jk::jk::[]))))))),Hm [(10,mxI 10 n n (K5 L i (po L (gC L a 6,kD L a n) i) g.i).1)]⟩) (fun g=>GB L (K5 L i (po L (gC L a 6,kD L a n) i) g.i).2) (fun g=>i-g.i) ⟨0,by omega⟩ ?_ rfl ?_
  ·refine aE ⟨rfl,trivial⟩ ?_;simp[wk]
  rintro⟨k,hk⟩;simp only;have hpk:=Cf (i:=i) hpi k;by_cases hm2:k<i
  ·have hst:K5 L i (po L (gC L a 6,kD L a n) i) (k+1)=Rf L i k (K5 L i (po L (gC L a 6,kD L a n) i) k):=rfl;generalize K5 L i (po L (gC L a 6,kD L a n) i) k=s at*
   obtain⟨f,p⟩:=s;simp only at hpk⊢;have c1:=G8 b L p hL hpk;have hb:=hL.getD p;have a1:=bK (n:=n) (i:=i) 10 n hm;have a2:=bK (n:=n) (i:=k) 10 n (by omega);have a3:=bS n f hm;have a5:=aR (f i) (show k<n by omega);have hst2:Rf L i k (f,p)=(upd (upd f i k (Int.tmod (L.getD p 0) 3)) k i (Int.tmod (L.getD p 0) 3),gF L p):=rfl;obtain⟨v,hv⟩: ∃v,Int.tmod (L.getD p 0) 3=v:=⟨_,rfl⟩;rw[hv]at hst2;have a6:=bS n (upd f i k v) hm;have a7:=bS n (upd f i k v) (show k<n by omega);have a8:(bz n (upd f i k v i))[k]?=some v:=by rw[aR _ (by omega),yT]
   have a9:=aR (upd f i k v k) hm;refine df (aZ fun _ K=>?_);simp(disch:=omega) only[kd,aa,dE];apply K;refine ic rfl (kG ?_);refine df (dQ ?_);refine Bv aW 6 c1 [] [] (by kernel_rfl) (by kernel_rfl) (by rfl) (by rfl) fun _ K=>?_;simp(disch:=omega) only[kd,dE,aa,a1,hv,a3,a5,da];apply K
   refine Bt aW (by kernel_rfl) fun _ K=>?_;simp(disch:=omega) only[kd,aa,a2,a1,a6,a8,a7,a9,da];apply K
   show fi _ _ _ _ _ _ _;refine fB fun _ K=>?_;simp(disch:=omega) only[kd,aa,aO];apply K
   refine⟨⟨k+1,by omega⟩,by simp only;omega,aE ⟨?_,trivial⟩ ?_,?_⟩
   ·rw[hst,hst2];rfl
   ·simp[wk]
   simp only;rw[hst,hst2]
  have hki:k=i:=by omega
  subst hki;refine df (aZ fun _ K=>?_);simp(disch:=omega) only[kd,aa,dE];apply K;refine dm rfl (zt ?_);show fi _ _ _ _ _ _ _;refine fB fun _ K=>?_;simp(disch:=omega) only[kd,aO];apply K
  refine⟨⟨k+1,by omega⟩,by simp only;omega,aE ⟨rfl,trivial⟩ ?_,rfl⟩;simp[wk]
 have hin:i=n:=by omega
 subst hin;refine aZ fun _ K=>?_;simp(disch:=omega) only[kd,dE];apply K
 refine xA rfl ?_;show fi _ _ _ _ _ _ _;refine aZ fun _ K=>?_;simp only[kd];apply K
 refine nE ⟨.inr rfl,rfl,_,b8.refl _,?_⟩;refine⟨.one (.sl 10 0 0 i),10,?_,rfl,?_,rfl⟩
 ·simp(disch:=omega) only[kd,Tryz.results83]
 exact(bZ 10 0 _ _ _).symm
def Lx (fork:Bool) (n i:Nat):Nat:=if fork=true/\i+1=n/\3<n then i-2 else i-1
def jo (fork:Bool) (n:Nat):Nat->Nat->Nat->Int
 |0=>fun _ _=>0
 |i+1=>if i=0 then upd (jo fork n i) i i 2 else upd (upd (upd (jo fork n i) i i 2) i (Lx fork n i) (-1)) (Lx fork n i) i (-1)
theorem H6 {fork:Bool} {n i:Nat} (h:0<i):Lx fork n i<i:=by unfold Lx;split<;>omega
theorem pm {f:FF} {i j a b:Nat} {v:Int} (h:a≠i\/b≠j):upd f i j v a b=f a b:=by
 unfold upd;by_cases h1:a=i
 ·subst h1;have h2:b≠j:=by rcases h with h|h;exact absurd rfl h;exact h
  simp[h2]
 simp[h1]
theorem zI (fork:Bool) (n:Nat): ∀i a b,i<=a\/i<=b->jo fork n i a b=0
 |0,_,_,_=>rfl
 |i+1,a,b,h=>by
  have ih:=zI fork n i a b (by omega);unfold jo;split
  ·rw[pm (by omega),ih]
  rename_i h0;have:=H6 (fork:=fork) (n:=n) (show 0<i by omega);rw[pm (by omega),pm (by omega),pm (by omega),ih]
theorem DC (n:Nat) (fork:Bool) (hn:n<=8):
  CallC Tryz.prog 84 [.raw (.int .i64 (n:Int)),.raw (.bool fork)] ⟨mxI 0 n n (jo fork n n),.one (.sl 0 0 0 n)⟩:=by
 refine aI Tryz.func84 rfl (by kernel_rfl) ?_;rw[Tryz.ntmps84];refine aC fun _ K=>?_;simp only[kd,aa,ae];apply K
 refine aC fun _ K=>?_;simp(disch:=omega) only[kd,aa];apply K
 refine aD (aC fun _ K=>?_);simp only[kd,aa];apply K;refine aT (G:=jP n) (fun g=>⟨(.raw (.int .i64 (n:Int))::.raw (.bool fork)::jk::jk::jk::.one (.sl 9 0 0 n)::j4 (jk::rN n::rN g.i::j16 (j16 (j4 (j4 (j4 ([]))))))),Hm [(9,kI 9 n n g.i (jo fork n g.i))]⟩) (fun g=>n-g.i) ⟨0,by omega⟩ ?_ ?_
 ·refine aE ⟨?_,trivial⟩ ?_
  ·show[_]=_;simp[fO,mat]
  simp[wk]
 rintro⟨i,hi⟩;simp only;by_cases hm:i<n
 ·have k1:=oV (i:=i) (n:=n) 9 n hm;have k2:=i4 (i:=i) (n:=n) 9 n hi;have k3:=aU i n (jo fork n i);have k4:=lL (i:=i) (n:=n) (c:=n) 9 (jo fork n i) hm (fun j hj=>zI fork n i i j (by omega));have k5:=qW (i:=i+1) (k:=i) (n:=n) 9 n (by omega);have k6:=i4 (i:=i+1) (n:=n) 9 n (by omega);have k7:=bS (n:=i+1) n (jo fork n i) (i:=i) (by omega);have k8:=aR (jo fork n i i) hm;have hstep:jo fork n (i+1)=if i=0 then upd (jo fork n i) i i 2 else upd (upd (upd (jo fork n i) i i 2) i (Lx fork n i) (-1)) (Lx fork n i) i (-1):=rfl
  generalize jo fork n i=f at*
  refine aC fun _ K=>?_;simp(disch:=omega) only[kd];apply K
  refine bu rfl ?_;refine aD (aJ ?_);refine aC fun _ K=>?_;simp only[kd];apply K
  refine aC fun _ K=>?_;simp(disch:=omega) only[kd,aa,Nat.reduceEqDiff,k1,Nat.reduceLeDiff,aw,List.all_replicate,k3,af];apply K
  refine bf.weak (aE (tm:=(.raw (.int .i64 (n:Int))::.raw (.bool fork)::jk::jk::jk::.one (.sl 9 0 0 n)::rN i::j4 (.raw (.int .i64 (n:Int))::rN i::j16 (j16 (j4 (j4 (j4 ([])))))))) (l:=[(9,kI 9 n n (i+1) f)]) ⟨?_,trivial⟩ (by simp[wk])) ?_
  ·first|exact k4|rfl
  refine aC fun _ K=>?_;simp(disch:=omega) only[kd,aa,k5,k7,k8,da];apply K
  refine aC fun _ K=>?_;simp(disch:=omega) only[kd,aa,aO];apply K
  obtain⟨kz,hkz⟩: ∃kz:Int,kz=if fork=true/\i+1=n/\3<n then(i:Int)-2 else(i:Int)-1:=⟨_,rfl⟩
  refine aD (jc (S:=⟨(.raw (.int .i64 (n:Int))::.raw (.bool fork)::jk::jk::jk::.one (.sl 9 0 0 n)::rN i::.raw (.int .i64 kz)::jk::jk::jk::rN n::rN i::j16 (j16 (j4 (j4 (j4 ([])))))),Hm [(9,kI 9 n n (i+1) (upd f i i 2))]⟩) ?_ ?_)
  ·cases fork with
   |false=>
    rw[if_neg (by simp)]at hkz;refine aC fun _ K=>?_;simp(disch:=omega) only[kd,aa];apply K
    refine aN rfl (aK ?_);show b8 _ _;refine aE ⟨rfl,trivial⟩ ?_;simp[wk,hkz]
   |true=>
    by_cases h1:i+1=n
    ·by_cases h2:3<n
     ·rw[if_pos ⟨rfl,h1,h2⟩]at hkz;refine aC fun _ K=>?_;simp(disch:=omega) only[kd,aa,aO];apply K
      refine aS rfl ?_;refine aL fun _ K=>?_;simp(disch:=omega) only[kd,aa,aO];apply K
      refine aE ⟨rfl,trivial⟩ ?_;simp[wk,hkz]
     rw[if_neg (by omega)]at hkz;refine aC fun _ K=>?_;simp(disch:=omega) only[kd,aa,aO];apply K
     refine aN rfl (aK ?_);show b8 _ _;refine aE ⟨rfl,trivial⟩ ?_;simp[wk,hkz]
    rw[if_neg (by omega)]at hkz;refine aC fun _ K=>?_;simp(disch:=omega) only[kd,aa,aO];apply K
    refine aN rfl (aK ?_);show b8 _ _;refine aE ⟨rfl,trivial⟩ ?_;simp[wk,hkz]
  by_cases h0:i=0
  ·subst h0;rw[if_neg (by omega)]at hkz;rw[if_pos rfl]at hstep;refine aC fun _ K=>?_;simp(disch:=omega) only[kd];apply K
   refine aN rfl (aK ?_);show bf _ _ _ _;refine aL fun _ K=>?_;simp(disch:=omega) only[kd,aO];apply K
   refine⟨⟨1,by omega⟩,by simp only;omega,aE ⟨?_,trivial⟩ ?_⟩
   ·simp only[hstep];rfl
   simp[wk]
  have hkk:kz=((Lx fork n i:Nat):Int):=by
   rw[hkz];unfold Lx;split<;>omega
  have hlt:=H6 (fork:=fork) (n:=n) (show 0<i by omega);rw[if_neg h0]at hstep;subst hkk;generalize Lx fork n i=k at*
  generalize upd f i i 2=f2 at*
  have b1:=qW (i:=i+1) (k:=k) (n:=n) 9 n (by omega);have b2:=bS (n:=i+1) n f2 (i:=i) (by omega);have b3:=aR (f2 i) (show k<n by omega);have b4:=bS (n:=i+1) n (upd f2 i k (-1)) (i:=k) (by omega);have b5:=aR (upd f2 i k (-1) k) hm;refine aC fun _ K=>?_;simp(disch:=omega) only[kd];apply K
  refine aS rfl ?_;refine fH aW (by kernel_rfl) fun _ K=>?_;simp(disch:=omega) only[kd,aa,k5,b1,b2,b3,da,b4,b5];apply K
  show bf _ _ _ _;refine aL fun _ K=>?_;simp(disch:=omega) only[kd,aO];apply K
  refine⟨⟨i+1,by omega⟩,by simp only;omega,aE ⟨?_,trivial⟩ ?_⟩
  ·simp only[hstep];rfl
  simp[wk]
 have hin:i=n:=by omega
 subst hin;refine aC fun _ K=>?_;simp(disch:=omega) only[kd];apply K
 refine bD rfl ?_;show bf _ _ _ _;rw[lK];refine aC fun _ K=>?_;simp only[kd];apply K
 refine aH ⟨.inr rfl,_,b8.refl _,?_⟩;refine⟨.one (.sl 9 0 0 i),9,?_,rfl,?_,rfl⟩
 ·simp(disch:=omega) only[kd,Tryz.results84]
 exact(bZ 9 0 _ _ _).symm
def GoodP (n:Nat) (f:FF):Prop:=SymF f n/\xy f n/\detF n f<=10000
theorem ID (n:Nat) (f:FF) (hn1:1<=n) (hn:n<=8) (hf: ∀i j:Nat,pr (f i j)) (r:Bool) (hr:r=true↔GoodP n f):CallC Tryz.prog 86 [slI (mat n n f)] ⟨[],.raw (.bool r)⟩:=by
 have c1:=vM n n f hn1 (by omega) hn1 (by omega) (fun i j _ _=>hf i j);obtain⟨e,he,c2⟩:=lk n n f hn1 (by omega) hn1 (by omega) (fun i j _ _=>(hf i j).sz (by omega));by_cases h1:e=0
 ·obtain⟨_,_,hs,hp⟩:=he.1 h1;subst h1;have c3:=f7 n f hn1 (by omega) (fun i j _ _=>(hf i j).sz (by omega));have c4:=fX 10000 (by omega) (by omega);have c5:=sS (detF n f) 10000 ((lG (n:=n) (by omega) (fun i j _ _=>(hf i j).sz (by omega))).mono (by omega)) (ns (by decide) (by omega));have hle:=xR (detF n f) 10000;have hrr:r=decide (detF n f<=10000):=by
   cases r with
   |true=>have:=(hr.1 rfl).2.2;simp[this]
   |false=>
    have: ¬detF n f<=10000:=fun h=>by have:=hr.2 ⟨hs,hp,h⟩;cases this
    simp[this]
  rw[hrr];generalize detF n f=d at*
  refine aI Tryz.func86 rfl (by kernel_rfl) ?_;rw[Tryz.ntmps86];refine aC fun _ K=>?_;simp only[kd,slI,ae];apply K
  refine aF [⟨1,_,_,_,c1⟩] [] fun _ K=>?_;simp only[kd,slI,slM,aa];apply K
  refine aF [⟨1,_,_,_,c2⟩,⟨5,_,_,_,c3⟩,⟨6,_,_,_,c4⟩,⟨7,_,_,_,c5⟩] [] fun _ K=>?_;simp(disch:=omega) only[kd,slM,tZ,aa,af,hle];apply K
  (refine aH ⟨.inr rfl,aG rfl ?_ rfl⟩;simp(disch:=omega) only[kd,Tryz.results86])
 have hr0:r=false:=by
  cases r with
  |false=>rfl
  |true=>have:=hr.1 rfl;exact absurd (he.2 ⟨rfl,hn,this.1,this.2.1⟩) h1
 subst hr0;refine aI Tryz.func86 rfl (by kernel_rfl) ?_;rw[Tryz.ntmps86];refine aC fun _ K=>?_;simp only[kd,slI,ae];apply K
 refine aF [⟨1,_,_,_,c1⟩] [] fun _ K=>?_;simp only[kd,slI,slM,aa];apply K
 refine aF [⟨1,_,_,_,c2⟩] [] fun _ K=>?_;simp(disch:=omega) only[kd,slM,aa,af];apply K
 (refine aH ⟨.inr rfl,aG rfl ?_ rfl⟩;simp(disch:=omega) only[kd,Tryz.results86])
end Go.Proofs.YtfgeomlagfomgaaGreatDoor
