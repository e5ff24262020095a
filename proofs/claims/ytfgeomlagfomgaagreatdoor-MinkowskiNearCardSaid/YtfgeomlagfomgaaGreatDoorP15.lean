/-
  Part 16 of a proof (walks and plain facts).
-/
import Derived.Test.YtfgeomlagfomgaaGreatDoorP14
set_option linter.all false
set_option maxRecDepth 100000
set_option maxHeartbeats 64000000
open Nat renaming reduceAdd → aa
open List renaming replicate → ae
open Nat renaming reduceBEq → af
open List renaming getElem?_eq_none → aq
open List renaming mem_of_getElem? → au
open List renaming length_replicate → ax
open List renaming getElem?_map → ay
namespace Go.Proofs.YtfgeomlagfomgaaGreatDoor
open Go.RowKit
theorem y7 {w w':World} (h:Ext w w'):Keep (fun _=>False) w w':=⟨h.os,h.tape,h.output,h.size,fun k hk _=>h.block k hk⟩
theorem zj {w w':World} (h:Keep (fun _=>False) w w'):Ext w w':=⟨h.os,h.tape,h.output,h.size,fun k hk=>h.block k hk (fun h=>h)⟩
theorem Du {w w':World} {X:Nat->Prop} (h:Ext w w') (hX: ∀b,X b->b<w.heap.size):Inv w (fun _=>False) X (famH 0 []) (fun _ _=>none) w':=by
 have e: ∀a,famH 0 [] a=[]:=fun a=>by unfold famH;split<;>rfl
 refine⟨y7 h,fun a r o ho=>?_,fun a r a' r' o o' b c c' ho=>?_,fun a r o b c ho=>?_,fun b hb=>Nat.lt_of_lt_of_le (hX b hb) h.size,fun a r o ho=>?_⟩<;>(rw[e]at ho;simp at ho)
theorem gk {P:Program} {f:FuncId} {args:List TV} {r:TV} (hc:callable P f=true) (h: ∀(X:Nat->Prop) (w:World) (vs:Array Value),(∀b,X b->b<w.heap.size)->vs.size=args.length->
  (∀(j:Nat) t,args[j]?=some t-> ∃v:Value,vs[j]?=some v/\t.rel (fun _ _=>none) (fun _=>[]) X w v)->Calls P f vs w fun e w'=> ∃v,e= .returned v/\(∀ρ H Y,r.rel ρ H Y w' v)/\Ext w w'):CallC P f args ⟨[],r⟩:=
 ⟨hc,fun X w vs hX hvs ha=>(h X w vs hX hvs ha).mono fun e w' ⟨v,h1,h2,h3⟩=>⟨v,h1,fun _ _=>none,Du h3 hX,h2 _ _ _⟩⟩
theorem CallC.calls {P:Program} {f:FuncId} {args:List TV} {r:TV} (h:CallC P f args ⟨[],r⟩) {w:World} {vs:Array Value} (hvs:vs.size=args.length)
  (ha: ∀(j:Nat) t,args[j]?=some t-> ∃v:Value,vs[j]?=some v/\t.rel (fun _ _=>none) (fun _=>[]) (fun _=>False) w v):Calls P f vs w fun e w'=> ∃v,e= .returned v/\(∃ρ H X,r.rel ρ H X w' v)/\Ext w w':=
 (h.2 (fun _=>False) w vs (fun b h=>h.elim) hvs ha).mono fun e w' ⟨v,h1,ρ,h2,h3⟩=>⟨v,h1,⟨_,_,_,h3⟩,zj h2.keep⟩
theorem rZ {ρ:Rho} {H:OH} {X:Nat->Prop} {w:World} (v:Int) (b:Bool):(FV v b).rel ρ H X w (.tuple #[.int .i64 v,.bool b]):=by
 refine⟨#[.int .i64 v,.bool b],rfl,rfl,fun j c cs hj=>?_⟩
 match j,hj with
 |0,hj=>
  simp at hj;obtain⟨rfl,rfl⟩:=hj;exact⟨_,rfl,.inr ⟨rfl,_,rfl,cq.raw _ rfl⟩⟩
 |1,hj=>
  simp at hj;obtain⟨rfl,rfl⟩:=hj;exact⟨_,rfl,.inr ⟨rfl,_,rfl,cq.raw _ rfl⟩⟩
 |j+2,hj=>simp at hj
theorem uq {ρ:Rho} {H:OH} {X:Nat->Prop} {w:World} (b:Bool):(TV.raw (.bool b)).rel ρ H X w (.bool b):=cq.raw _ rfl
theorem lI {X:Nat->Prop} {w:World} {u v:Value} (h:cq X w (.raw u) v):v=u:=by cases h;rfl
theorem ij {X:Nat->Prop} {w:World} {l:List Int} {v:Value} (h:cq X w (.sl (ls fI l)) v): ∃A c,v= .slice A l.length c/\l.length<=c/\l.length<=9223372036854775807/\RdI .i64 w A l:=by
 generalize hx:PV.sl (ls fI l)=x at h;cases h with
 |raw v h=>cases hx
 |ptr b off cs f hX hb hc hr=>cases hx
 |nil a c=>
  injection hx with hx
  have hl:l=[]:=by simpa[ls] using hx
  subst hl;exact⟨a,c,rfl,Nat.zero_le _,by simp,RdI.nil _ _ _⟩
 |sl b off es cap xs f hX hb hes hcap hm hc hr=>
  injection hx with hx
  subst hx;rw[eH]at hcap hm;refine⟨some ⟨b,off,none⟩,cap,by rw[eH],hcap,hm,fun hne=>⟨b,off,rfl,fun i x hx=>?_⟩⟩;rw[ay]at hx;obtain⟨z,hz,rfl⟩:=Option.map_eq_some_iff.1 hx;have h1:(ls fI l)[i]?=some (fI z):=by rw[gF,hz];rfl
  have he:es=1:=by rw[<- hes _ (au h1)];rfl
  subst he;have h2:=hc i _ 0 _ h1 rfl;have h3:=lI (hr i _ 0 _ h1 rfl);rw[h3,Nat.mul_one,Nat.add_zero]at h2;exact h2
theorem nO {X:Nat->Prop} {w:World} {M:List (List Int)} {v:Value} (h:cq X w (.sl (ls (fR fI) M)) v): ∃A c,v= .slice A M.length c/\M.length<=c/\M.length<=9223372036854775807/\rJ .i64 w A M:=by
 generalize hx:PV.sl (ls (fR fI) M)=x at h;cases h with
 |raw v h=>cases hx
 |ptr b off cs f hX hb hc hr=>cases hx
 |nil a c=>
  injection hx with hx
  have hl:M=[]:=by simpa[ls] using hx
  subst hl;exact⟨a,c,rfl,Nat.zero_le _,by simp,rJ.nil _ _ _⟩
 |sl b off es cap xs f hX hb hes hcap hm hc hr=>
  injection hx with hx
  subst hx;rw[eH]at hcap hm;refine⟨some ⟨b,off,none⟩,cap,by rw[eH],hcap,hm,fun hne=>⟨b,off,rfl,fun i r hi=>?_⟩⟩;have h1:(ls (fR fI) M)[i]?=some (fR fI r):=by rw[gF,hi];rfl
  have he:es=1:=by rw[<- hes _ (au h1)];rfl
  subst he;have h2:=hc i _ 0 _ h1 rfl;have h3:=ij (hr i _ 0 _ h1 rfl);rw[Nat.mul_one,Nat.add_zero]at h2;exact⟨_,h2,h3⟩
/-! The program's functions. -/
theorem kU {args:List TV} {vs:Array Value} {X:Nat->Prop} {w:World} (h: ∀(j:Nat) t,args[j]?=some t-> ∃v:Value,vs[j]?=some v/\t.rel (fun _ _=>none) (fun _=>[]) X w v) {j:Nat} {x:PV} (hj:args[j]?=some (.one (.p x))): ∃v:Value,vs[j]?=some v/\cq X w x v:=h j _ hj
theorem IM (M:List (List Int)) (x y:List Int):CallC Tryz.prog 47 [slI M,iP x,iP y] ⟨[],EY M x y⟩:=by
 refine gk (by kernel_rfl) fun X w vs hX hvs ha=>?_
 obtain⟨v0,e0,r0⟩:=kU ha (j:=0) rfl;obtain⟨v1,e1,r1⟩:=kU ha (j:=1) rfl;obtain⟨v2,e2,r2⟩:=kU ha (j:=2) rfl;obtain⟨A,c,rfl,hc,hl,hR⟩:=nO r0;obtain⟨B,d,rfl,hd,hlx,hx⟩:=ij r1;obtain⟨C,d',rfl,hd',hly,hy⟩:=ij r2;obtain rfl:vs= #[.slice A M.length c,.slice B x.length d,.slice C y.length d']:=by
  apply Array.ext_getElem?;intro j
  match j with
  |0=>exact e0
  |1=>exact e1
  |2=>exact e2
  |j+3=>rw[Array.getElem?_eq_none (by simp at hvs;omega)];rfl
 obtain⟨v,b,g1,g2⟩:=tu M x y;refine(vU A B C c d d' M x y w hR hx hy hl hc hlx hly).mono fun e w' ⟨h1,h2⟩=>?_
 rw[g2]at h1;rw[g1];exact⟨_,h1,fun _ _ _=>rZ v b,h2⟩
theorem DQ (M:List (List Int)) (x:List Int):CallC Tryz.prog 93 [slI M,iP x] ⟨[],EY M x x⟩:=by
 refine gk (by kernel_rfl) fun X w vs hX hvs ha=>?_
 obtain⟨v0,e0,r0⟩:=kU ha (j:=0) rfl;obtain⟨v1,e1,r1⟩:=kU ha (j:=1) rfl;obtain⟨A,c,rfl,hc,hl,hR⟩:=nO r0;obtain⟨B,d,rfl,hd,hlx,hx⟩:=ij r1;obtain rfl:vs= #[.slice A M.length c,.slice B x.length d]:=by
  apply Array.ext_getElem?;intro j
  match j with
  |0=>exact e0
  |1=>exact e1
  |j+2=>rw[Array.getElem?_eq_none (by simp at hvs;omega)];rfl
 obtain⟨v,b,g1,g2⟩:=tu M x x;refine(Iv A B c d M x w hR hx hl hc hlx).mono fun e w' ⟨h1,h2⟩=>?_
 rw[g2]at h1;rw[g1];exact⟨_,h1,fun _ _ _=>rZ v b,h2⟩
def Aq (v:Value) (a:Nat) (g:Nat->Value):Nat->Value:=fun j=>if j=0 then v else if j=1 then .int .i64 (a:Int)else g j
theorem Fr (tx n:Nat) (A:Option Addr) (c:Nat) (l:List Int) (a:Nat) (g:Nat->Value) (w:World) (hn:2<=n) (hl:RdI .i8 w A l) (hb: ∀z∈l,-128<=z/\z<=127) (ll:l.length<=9223372036854775807) (ha:a<=l.length) (hT:w.rowIs tx 95 n (Aq (.slice A l.length c) a g)) (hne:l≠[]-> ∀p,A=some p->p.block≠tx):
  Calls Tryz.prog 68 #[.pointer (some ⟨tx,0,none⟩)] w fun e w'=>e= .returned (.int .i64 (l.getD a 0))/\w'.rowIs tx 95 n (Aq (.slice A l.length c) (f9 l a) g)/\w.grownBy w' (some tx):=by
 have HT:=Lib.hid hT;have HL:=Lib.hid hl;have HB:=Lib.hid hb;have HN:=Lib.hid hne;clear hT hl hb hne;have t0:w.cell? ⟨tx,0,none⟩=some (.slice A l.length c):=HT.out.cell (by omega);have t1:w.cell? ⟨tx,1,none⟩=some (.int .i64 (a:Int)):=HT.out.cell (by omega);have t2:w.frozen? ⟨tx,1,none⟩=false:=HT.out.frozen 1;by_cases hlt:a<l.length
 ·obtain⟨z,hz⟩:=getElem?_of_lt hlt;obtain⟨b,off,rfl,hc⟩:=HL.out.at_ hz;have hbt:b≠tx:=HN.out (by rintro rfl;simp at hlt) _ rfl;have hzb:=HB.out z (au hz);have hz1:=hzb.1;have hz2:=hzb.2;have HZ:Hid (l.getD a 0=z):=Lib.hid (by rw[List.getD_eq_getElem?_getD,hz];rfl);have HNx:Hid (f9 l a=a+1):=Lib.hid (if_pos hlt);clear hz hzb
  go_enter Tryz.func68,Tryz.ntmps68
  go_wp2_with fail
  go_quiet (fail)
  go_wp2_with fail
  have hrow:=((mJ HT.out nq).set 1 (.int .i64 ((a:Int)+1))).congr (g:=Aq (.slice (some ⟨b,off,none⟩) l.length c) (a+1) g) (fun j hj=>by
   match j,hj with
   |0,_=>rfl
   |1,_=>simp[Aq]
   |j+2,_=>simp[Aq])
  have HROW:=Lib.hid hrow;have HG:=Lib.hid (N2 (qs ((Ext.refl w).drewN nq) tx) 1 (.int .i64 ((a:Int)+1)));have s0:((w.drewN nq).setCell ⟨tx,1,none⟩ (.int .i64 ((a:Int)+1))).cell? ⟨tx,0,none⟩=some (.slice (some ⟨b,off,none⟩) l.length c):=HROW.out.cell (i:=0) (by omega);have s1:((w.drewN nq).setCell ⟨tx,1,none⟩ (.int .i64 ((a:Int)+1))).cell? ⟨tx,1,none⟩=some (.int .i64 ((a:Int)+1)):=by
   have:=HROW.out.cell (i:=1) (by omega);rw[this];simp[Aq]
  have s2:((w.drewN nq).setCell ⟨tx,1,none⟩ (.int .i64 ((a:Int)+1))).cell? ⟨b,off+a,none⟩=some (.int .i8 z):=Dp HG.out hc hbt;have a1:IntKind.i64.wrap ((a:Int)+1-1)=(a:Int):=by rw[Int.add_sub_cancel];exact IntWalk.i64_in _ (by omega)
  have a2:(a:Int)<(l.length:Int):=by omega
  clear t0 t1 t2 hc hrow;generalize(w.drewN nq).setCell ⟨tx,1,none⟩ (.int .i64 ((a:Int)+1))=w3 at*
  go_quiet (fail)
  go_wp2_with fail
  go_ret
  rw[HZ.out,HNx.out];exact⟨rfl,mJ HROW.out _,y9 HG.out (qs ((Ext.refl _).drewN _) tx)⟩
 go_enter Tryz.func68,Tryz.ntmps68
 have HZ:Hid (l.getD a 0=0):=Lib.hid (by rw[List.getD_eq_getElem?_getD,aq (by omega)];rfl);have HNx:Hid (f9 l a=a):=Lib.hid (if_neg hlt)
 go_wp2_with fail
 go_quiet (fail)
 go_wp2_with fail
 go_ret
 rw[HZ.out,HNx.out];exact⟨rfl,mJ HT.out _,qs ((Ext.refl _).drewN _) tx⟩
def f8 (z:Int):List PV:=[.raw (.int .i8 z)]
abbrev FU (L:List Int) (a:Nat):List PV:=[.sl (ls f8 L),.raw (.int .i64 (a:Int))]
abbrev dq (b:Nat):TV:= .raw (.pointer (some ⟨b,0,none⟩))
def I8 (L:List Int):Prop:= ∀z∈L,-128<=z/\z<=127
theorem I8.getD {L:List Int} (h:I8 L) (a:Nat): -128<=L.getD a 0/\L.getD a 0<=127:=by
 rw[List.getD_eq_getElem?_getD];cases hx:L[a]? with
 |none=>simp
 |some z=>exact h z (au hx)
theorem L2 {X:Nat->Prop} {w:World} {l:List Int} {v:Value} (h:cq X w (.sl (ls f8 l)) v): ∃A c,v= .slice A l.length c/\l.length<=9223372036854775807/\RdI .i8 w A l/\(l≠[]-> ∀p,A=some p-> ¬X p.block):=by
 generalize hx:PV.sl (ls f8 l)=x at h;cases h with
 |raw v h=>cases hx
 |ptr b off cs f hX hb hc hr=>cases hx
 |nil a c=>
  injection hx with hx
  have hl:l=[]:=by simpa[ls] using hx
  subst hl;exact⟨a,c,rfl,by simp,RdI.nil _ _ _,fun h=>absurd rfl h⟩
 |sl b off es cap xs f hX hb hes hcap hm hc hr=>
  injection hx with hx
  subst hx;rw[eH]at hcap hm;refine⟨some ⟨b,off,none⟩,cap,by rw[eH],hm,fun hne=>⟨b,off,rfl,fun i x hx=>?_⟩,fun _ p hp=>by injection hp with hp;subst hp;exact hX⟩;rw[ay]at hx;obtain⟨z,hz,rfl⟩:=Option.map_eq_some_iff.1 hx;have h1:(ls f8 l)[i]?=some (f8 z):=by rw[gF,hz];rfl
  have he:es=1:=by rw[<- hes _ (au h1)];rfl
  subst he;have h2:=hc i _ 0 _ h1 rfl;have h3:=lI (hr i _ 0 _ h1 rfl);rw[h3,Nat.mul_one,Nat.add_zero]at h2;exact h2
theorem Gp (b:Nat) (L:List Int) (a:Nat) (hL:I8 L) (ha:a<=L.length):CallT Tryz.prog b 95 68 [dq b] (FU L a) ⟨[],.raw (.int .i64 (L.getD a 0))⟩ (FU L (f9 L a)):=by
 refine⟨by kernel_rfl,fun X w vs hX hXb hbox hvs hargs=>?_⟩;obtain⟨cells,c,h1,h2,h3,h4,h5,h6⟩:=hbox;obtain⟨v0,e0,r0⟩:=hargs 0 _ rfl;have hv0:v0= .pointer (some ⟨b,0,none⟩):=lI r0;subst hv0;obtain rfl:vs= #[.pointer (some ⟨b,0,none⟩)]:=by
  apply Array.ext_getElem?;intro j
  match j with
  |0=>exact e0
  |j+1=>rw[Array.getElem?_eq_none (by simp at hvs;omega)];rfl
 obtain⟨v,c0,_,r1⟩:=h6 0 _ rfl;obtain⟨u,c1,_,r2⟩:=h6 1 _ rfl;have hu:=lI r2;subst hu;obtain⟨A,cap,rfl,hl,hrd,hb⟩:=L2 r1;have hsz:cells.size=c*2:=h2;have hrow:w.rowIs b 95 (c*2) (Aq (.slice A L.length cap) a fun j=>(cells[j]?).getD undef):=by
  refine⟨cells,h1,hsz,fun i hi=>?_⟩
  match i with
  |0=>exact c0
  |1=>exact c1
  |i+2=>simp[Aq,hsz,hi]
 have hblk:L≠[]-> ∀p,A=some p->p.block≠b:=fun hne p hp he=>hb hne p hp (by rw[he];exact hXb)
 refine(Fr b (c*2) A cap L a _ w (by omega) hrd hL hl ha hrow hblk).mono fun e w' ⟨q1,⟨cells',q2,q3,q4⟩,q5⟩=>?_
 have hbut: ∀k,k<w.heap.size->k≠b->w'.heap[k]?=w.heap[k]?:=fun k hk hne=>q5.block k hk (by simp;exact hne)
 have hXo: ∀j,Xo X (fun _ _=>none) (famH 0 []) j->X j:=fun j hj=>by
  rcases hj with hj|⟨_,_,_,_,_,g⟩
  ·exact hj
  cases g
 refine⟨_,q1,fun _ _=>none,?_,cq.raw _ rfl,cells',c,q2,q3,h3,h4,h5,fun j x hx=>?_⟩
 ·have e: ∀a,famH 0 [] a=[]:=fun a=>by unfold famH;split<;>rfl
  refine⟨⟨q5.os,q5.tape,q5.output,q5.size,fun k hk hn=>hbut k hk hn⟩,fun a r o ho=>?_,fun a r a' r' o o' b c c' ho=>?_,fun a r o b c ho=>?_,fun j hj=>Nat.lt_of_lt_of_le (hX j hj) q5.size,fun a r o ho=>?_⟩<;>(rw[e]at ho;simp at ho)
 match j,hx with
 |0,hx=>
  have hx:x= .sl (ls f8 L):=by simpa using hx.symm
  subst hx;refine⟨.slice A L.length cap,q4 0 (by omega),rfl,r1.later (fun j _ hj=>hXo j hj) q5.size fun p u hp hn hu=>?_⟩;rw[m9 (hbut p.block hp (fun he=>hn (by rw[he];exact hXb)))];exact hu
 |1,hx=>
  have hx:x= .raw (.int .i64 (f9 L a:Nat)):=by simpa using hx.symm
  subst hx;exact⟨_,q4 1 (by omega),rfl,cq.raw _ rfl⟩
 |j+2,hx=>simp at hx
def l5 (L:List Int) (a n:Nat):Nat:=((L.getD a 0)%256).toNat%n
theorem kW {n:Nat} (L:List Int) (a:Nat) (h:0<n):l5 L a n<n:=Nat.mod_lt _ h
theorem Ew (L:List Int) (a n:Nat):Int.tmod (L.getD a 0%256) (n:Int)=(l5 L a n:Int):=by
 have h:L.getD a 0%256=((L.getD a 0%256).toNat:Int):=by omega
 unfold l5;rw[Int.ofNat_tmod,<- h]
theorem OW (x:Int):IntKind.u8.wrap x=x%256:=by rw[IntKind.wrap_u8]
theorem nG {L:List Int} {a:Nat} (h:a<=L.length):f9 L a<=L.length:=by unfold f9;split<;>omega
theorem wO (b:Nat) (L:List Int) (a n:Nat) (hL:I8 L) (ha:a<=L.length) (hn1:0<n) (hn:n<=100):CallT Tryz.prog b 95 67 [dq b,.raw (.int .i64 (n:Int))] (FU L a) ⟨[],.raw (.int .i64 (l5 L a n:Int))⟩ (FU L (f9 L a)):=by
 have c1:=Gp b L a hL ha;have e1:=Ew L a n;have e2:=OW (L.getD a 0);refine mj Tryz.func67 rfl (by kernel_rfl) ?_;rw[Tryz.ntmps67];refine aZ fun _ K=>?_;simp only[kd,dq,aa,ae];apply K
 refine qf 1 c1 [] [] (by kernel_rfl) (by rfl) (by rfl) fun _ K=>?_;simp(disch:=omega) only[kd,List.map,dq,aa,e2,aO,e1];apply K
 (refine m8 ⟨.inr rfl,rfl,aJ rfl ?_ rfl⟩;simp(disch:=omega) only[kd,Tryz.results67])
section
def jB (r:List Int):OObj:=⟨2,1,lc fI r⟩
abbrev kI (d n c i:Nat) (f:FF):List OObj:=⟨27,1,gh d (ae i c)++ae (n-i) oK⟩::(mat i c f).map jB
abbrev mxI (d n c:Nat) (f:FF):List OObj:=⟨27,1,gh d (ae n c)⟩::(mat n c f).map jB
theorem oA (d n c:Nat) (f:FF):kI d n c n f=mxI d n c f:=by simp[kI,mxI]
theorem jo {i n:Nat} (d c:Nat) (h:i<=n):(gh d (ae i c)++ae (n-i) oK).length=n:=by simp[cf];omega
theorem qv {i k n:Nat} (d c:Nat) (h:k<i):(gh d (ae i c)++ae (n-i) oK)[k]?=some [.sl d (k+1) 0 c]:=by
 rw[List.getElem?_append_left (by simp[cf];exact h),bK d c h]
theorem qw {i n:Nat} (d c:Nat) (h:i<n):(gh d (ae i c)++ae (n-i) oK)[i]?=some oK:=by
 rw[List.getElem?_append_right (by simp[cf]),cf,ax,Nat.sub_self,List.getElem?_replicate,if_pos (by omega)]
theorem cd {n i:Nat} (c:Nat) (f:FF) (h:i<n):((mat n c f).map jB)[i]?=some ⟨2,1,lc fI (bA c (f i))⟩:=by
 rw[ay,bv _ _ h];rfl
theorem dK {n i j:Nat} (c:Nat) (f:FF) (v:Int):((mat n c f).map jB).set i ⟨2,1,(lc fI (bA c (f i))).set j [.p (.raw (.int .i64 v))]⟩=(mat n c (upd f i j v)).map jB:=by
 have e:(⟨2,1,(lc fI (bA c (f i))).set j [.p (.raw (.int .i64 v))]⟩:OObj)=jB (bA c fun b=>if b=j then v else f i b):=by
  rw[<- pN,jB,<- xB];rfl
 rw[e,<- List.map_set,DG];rfl
theorem ch {n c:Nat} {f g:FF} (h: ∀i j,i<n->j<c->f i j=g i j):(mat n c f).map jB=(mat n c g).map jB:=by rw[dE h]
theorem np {i n c:Nat} (d:Nat) (f:FF) (hi:i<n) (h0: ∀j,j<c->f i j=0):
  (⟨27,1,(gh d (ae i c)++ae (n-i) oK).set i [.sl d (i+1) 0 c]⟩::((mat i c f).map jB++[⟨2,1,ae c [.raw (.int .i64 0)]⟩]):List OObj)=kI d n c (i+1) f:=by
 have e1:(gh d (ae i c)++ae (n-i) oK).set i [.sl d (i+1) 0 c]=gh d (ae (i+1) c)++ae (n-(i+1)) oK:=by
  rw[List.set_append_right _ _ (by simp[cf]),cf,ax,Nat.sub_self,List.replicate_succ' (n:=i),mQ,ax,List.append_assoc]
  congr 1
  rw[show n-i=n-(i+1)+1 by omega,List.replicate_succ];rfl
 have e2:(⟨2,1,ae c [.raw (.int .i64 0)]⟩:OObj)=jB (bA c (f i)):=by
  rw[jB]
  congr 1
  apply List.ext_getElem?;intro j;rw[List.getElem?_replicate,BE];by_cases hj:j<c
  ·rw[if_pos hj,aT _ hj,h0 j hj];rfl
  rw[if_neg hj,aq (by rw[bs];omega)];rfl
 rw[e1,e2,kI,tH,List.map_append];rfl
theorem bU (d e n c:Nat) (f:FF):(mxI d n c f).map (renO e)=mxI e n c f:=by
 simp only[mxI,List.map_cons,List.map_map]
 congr 1
 ·simp[renO,D0]
 exact List.map_congr_left fun r _=>by simp[renO,jB,xA]
theorem cu {H:OH} {d n c:Nat} {f:FF} (h:H d=mxI d n c f):u5 H d:=fun r o ho e he x hx=>by
 rw[h]at ho;cases r with
 |succ r=>
  rw[List.getElem?_cons_succ,ay]at ho;obtain⟨l,hl,rfl⟩:=Option.map_eq_some_iff.1 ho;exact .inl (d7 _ _ l e he x hx)
 |zero=>
  simp at ho;subst ho;simp only at he;obtain⟨k,hk⟩:=List.mem_iff_getElem?.1 he;have hkn:k<n:=by
   have:=(List.getElem?_eq_some_iff.1 hk).1;rwa[cf,ax]at this
  rw[bK d c hkn]at hk;injection hk with hk
  subst hk;simp at hx;subst hx;refine .inr ⟨k+1,0,c,jB (bA c (f k)),rfl,?_,d7 _ _ _⟩;rw[h,List.getElem?_cons_succ,ay,bv _ _ hkn];rfl
theorem iH {H:OH} {d n c:Nat} {f:FF} (h:H d=mxI d n c f):gC H d (.one (.sl d 0 0 n))=slI (mat n c f):=by
 have e:((gh d (ae n c)).map (List.map (jE H d)))=ls (fR fI) (mat n c f):=by
  apply List.ext_getElem?;intro i;rw[ay,gF];by_cases hi:i<n
  ·rw[bK d c hi,bv _ _ hi];simp only[Option.map_some,List.map_cons,List.map_nil,jE,h,List.getElem?_cons_succ,cd _ _ hi,fR,fO,xy,rS];rw[List.drop_zero,List.take_of_length_le (by rw[bs];omega)]
  rw[aq (by rw[cf,ax];omega),aq (by rw[bf];omega)];rfl
 simp only[gC,fb,if_true,h,List.getElem?_cons_zero];rw[List.drop_zero,List.take_of_length_le (by rw[cf,ax];omega),e]
theorem La {H:OH} {d n c:Nat} {f:FF} (h:H d=mxI d n c f):fb H d (.sl d 0 0 n)= .p (.sl (ls (fR fI) (mat n c f))):=TV.one.inj (iH h)
abbrev rB (k:Nat) (b:Bool):TV:= .tup [(false,[.sl 0 0 0 k]),(false,[.p (.raw (.bool b))])]
theorem I2 {fn:Func} {d k c:Nat} {F:FF} {b:Bool} {s:AS} (hd:s.H d=mxI d k c F)
  (hres:rE Tryz.prog s fn.results.toList=some (.tup [(false,[.sl d 0 0 k]),(false,[.p (.raw (.bool b))])])) (h5:d<=4999):
  ∃s',ca s s'/\nX Tryz.prog fn ⟨mxI 0 k c F,rB k b⟩ s':=
 ⟨s,ca.refl s,_,d,hres,pP (by simp[gZ,dH]) h5,by rw[hd,bU],rfl⟩
section
variable {P:Program} {fu:FuncId} {args:List TV} {n c:Nat} {g:FF}
theorem CallC.fzI (h:CallC P fu args ⟨mxI 0 n c g,.one (.sl 0 0 0 n)⟩):CallC P fu args ⟨[],slI (mat n c g)⟩:=
 h.weak ((bH 0 (cu (d:=0) (n:=n) (c:=c) (f:=g) rfl)).trans (aE (tm:=[slI (mat n c g)]) (l:=[(0,[])]) ⟨rfl,trivial⟩ (by
  simp[wk];exact(iH (H:=famH 0 (mxI 0 n c g)) (d:=0) (n:=n) (c:=c) (f:=g) rfl).symm)))
theorem CallC.fzT {rest:List (Bool×List AV)} (h:CallC P fu args ⟨mxI 0 n c g,.tup ((false,[.sl 0 0 0 n])::rest)⟩) (hr: ∀t∈rest,∀x∈t.2,isPure x=true):
  CallC P fu args ⟨[],.tup ((false,[.p (.sl (ls (fR fI) (mat n c g)))])::rest)⟩:=by
 refine h.weak ((bH 0 (cu (d:=0) (n:=n) (c:=c) (f:=g) rfl)).trans (aE (tm:=[.tup ((false,[.p (.sl (ls (fR fI) (mat n c g)))])::rest)]) (l:=[(0,[])]) ⟨rfl,trivial⟩ ?_));have e1:=La (H:=famH 0 (mxI 0 n c g)) (d:=0) (n:=n) (c:=c) (f:=g) rfl;have pv: ∀x,isPure x=true->fb (famH 0 (mxI 0 n c g)) 0 x=x/\xI [0] x=true:=fun x hx=>by cases x<;>first|exact⟨rfl,rfl⟩|cases hx
 have e2:rest.map (fun t=>(t.1,t.2.map (fb (famH 0 (mxI 0 n c g)) 0)))=rest:=by
  refine(List.map_congr_left fun t ht=>?_).trans (List.map_id rest);show(t.1,t.2.map _)=t;rw[(List.map_congr_left fun x hx=>(pv x (hr t ht x hx)).1).trans (List.map_id t.2)]
 refine⟨.inr ⟨?_,?_⟩,trivial⟩
 ·show _=gC (famH 0 (mxI 0 n c g)) 0 (.tup ((false,[.sl 0 0 0 n])::rest));simp only[gC,List.map_cons,List.map_nil];rw[e1,e2]
 show(List.all _ _)=true;simp only[List.all_cons,List.all_nil,Bool.and_true,List.all_eq_true,Bool.and_eq_true];exact⟨rfl,fun t ht x hx=>(pv x (hr t ht x hx)).2⟩
end
def j7 (L:List Int) (a:Nat):Nat->Nat
 |0=>a
 |i+1=>f9 L (j7 L a i)
theorem qh {L:List Int} {a:Nat} (h:a<=L.length): ∀i,j7 L a i<=L.length
 |0=>h
 |i+1=>nG (qh h i)
def f5 (L:List Int) (a most:Nat):Nat->Nat->Int:=fun i j=>if i=j then 1+(l5 L (j7 L a i) most:Int)else 0
def EG (L:List Int) (a most i:Nat):Nat->Nat->Int:=fun x y=>if x<i then f5 L a most x y else 0
theorem G7 (L:List Int) (a most i x y:Nat):upd (EG L a most i) i i (1+(l5 L (j7 L a i) most:Int)) x y=EG L a most (i+1) x y:=by
 unfold upd EG f5;by_cases h1:x=i
 ·subst h1;by_cases h2:y=x
  ·subst h2;simp
  simp[h2,Ne.symm h2]
 have:x<i+1↔x<i:=by omega
 simp[h1,this]
theorem lf (b:Nat) (L:List Int) (a n most:Nat) (hL:I8 L) (ha:a<=L.length) (hn:n<=8) (hm1:0<most) (hmm:most<=100):
  CallT Tryz.prog b 95 85 [dq b,.raw (.int .i64 (n:Int)),.raw (.int .i64 (most:Int))] (FU L a) ⟨mxI 0 n n (f5 L a most),.one (.sl 0 0 0 n)⟩ (FU L (j7 L a n)):=by
 refine mj Tryz.func85 rfl (by kernel_rfl) ?_;rw[Tryz.ntmps85];refine aZ fun _ K=>?_;simp only[kd,dq,aa,ae];apply K
 refine aZ fun _ K=>?_;simp(disch:=omega) only[kd,aa];apply K
 refine cP (aZ fun _ K=>?_);simp only[kd,aa];apply K;refine ma (G:=jA n) (fun g=>⟨(dq b::rN n::rN most::j4 (.one (.sl 10 0 0 n)::j4 (.raw (.int .i64 (n:Int))::rN g.i::j16 (jk::jk::jk::[])))),Hm [(10,kI 10 n n g.i (EG L a most g.i))]⟩) (fun g=>FU L (j7 L a g.i)) (fun g=>n-g.i) ⟨0,by omega⟩ ?_ rfl ?_
 ·refine aE ⟨?_,trivial⟩ ?_
  ·show[_]=_;simp[gh,mat]
  simp[wk]
 rintro⟨i,hi⟩;simp only;by_cases hm:i<n
 ·have c1:=wO b L (j7 L a i) most hL (qh ha i) hm1 hmm;have hbl:=kW (n:=most) L (j7 L a i) hm1;have k1:=qw (i:=i) (n:=n) 10 n hm;have k2:=jo (i:=i) (n:=n) 10 n hi;have k3:=bf i n (EG L a most i);have k4:=np (i:=i) (n:=n) (c:=n) 10 (EG L a most i) hm (fun j hj=>by unfold EG;rw[if_neg (by omega)]);have k5:=qv (i:=i+1) (k:=i) (n:=n) 10 n (by omega);have k6:=jo (i:=i+1) (n:=n) 10 n (by omega);have k7:=cd (n:=i+1) n (EG L a most i) (i:=i) (by omega);have k8:=aT (EG L a most i i) hm;refine aZ fun _ K=>?_;simp(disch:=omega) only[kd,dq];apply K
  refine wW rfl ?_;refine cP (dC ?_);refine aZ fun _ K=>?_;simp only[kd];apply K
  refine aZ fun _ K=>?_;simp(disch:=omega) only[kd,aa,Nat.reduceEqDiff,k1,Nat.reduceLeDiff,ax,List.all_replicate,k3,k4,af];apply K
  refine eB.weak (aE (tm:=(dq b::rN n::rN most::j4 (.one (.sl 10 0 0 n)::rN i::jk::jk::jk::rN n::rN i::j16 (jk::jk::jk::[])))) (l:=[(10,kI 10 n n (i+1) (EG L a most i))]) ⟨?_,trivial⟩ (by simp[wk])) ?_
  ·first|exact k4|rfl
  refine kS be 7 c1 [] [] (by kernel_rfl) (by kernel_rfl) (by rfl) (by rfl) fun _ K=>?_;simp(disch:=omega) only[kd,dq,aa,k5,aO,k7,k8,dK];apply K
  show eB _ _ _ _ _ _ _;refine eY fun _ K=>?_;simp(disch:=omega) only[kd,aO];apply K
  refine⟨⟨i+1,by omega⟩,by simp only;omega,aE ⟨?_,trivial⟩ ?_,rfl⟩
  ·show _::_=_::_;rw[ch fun x y _ _=>G7 L a most i x y]
  simp[wk]
 have hin:i=n:=by omega
 subst hin;refine aZ fun _ K=>?_;simp(disch:=omega) only[kd,dq];apply K
 refine wV rfl ?_;show eB _ _ _ _ _ _ _;have e:kI 10 i i i (EG L a most i)=mxI 10 i i (f5 L a most):=by
  rw[oA];show _::_=_::_;rw[ch fun x y hx _=>show EG L a most i x y=f5 L a most x y by unfold EG;rw[if_pos hx]]
 rw[e];refine aZ fun _ K=>?_;simp only[kd];apply K
 refine m8 ⟨.inr rfl,rfl,_,ca.refl _,?_⟩;refine⟨.one (.sl 10 0 0 i),10,?_,rfl,?_,rfl⟩
 ·simp(disch:=omega) only[kd,Tryz.results85]
 exact(bU 10 0 _ _ _).symm
end
theorem Ms (m:Nat):swp (m+1) m idF=Gh m:=by
 funext a;unfold swp Gh nR;by_cases h1:a=m+1
 ·subst h1;simp
 by_cases h2:a=m
 ·subst h2;simp
 simp[h1,h2]
def O4 (n:Nat) (f:FF):Option Ch->TV
 |none=> .tup [(false,[.p (.raw (.slice none 0 0))]),(false,[.p (.raw (.bool false))])]
 |some c=> .tup [(false,[.p (.sl (ls (fR fZ) (mat n n (M2 f c))))]),(false,[.p (.raw (.bool true))])]
structure QU (n:Nat) (f:FF) where
 i:Nat
 hi:i<=n
 h:scanF f n=scanI f (n-i) i
structure QV (i:Nat) (f:FF) where
 k:Nat
 hk:k<=i
 h:scanJ f i i=scanJ f i k
theorem OI (n:Nat) (f:FF) (hn1:1<=n) (hn:n<=8) (hp: ∀k,k<n->0<dk f (k+1)) (hf: ∀i j,i<n->j<n->Sz (f i j) 1024):
  CallC Tryz.prog 64 [slM (mat n n f)] ⟨[],O4 n f (scanF f n)⟩:=by
 have hL:=qb n f hn1 (by omega) hf;have hI:=sk n hn1 (by omega);have hml:=bf n n f;refine aI Tryz.func64 rfl (by kernel_rfl) ?_;rw[Tryz.ntmps64];refine aD fun _ K=>?_;simp only[kd,slM,ae];apply K
 refine aG [⟨1,_,_,_,hL⟩] [] fun _ K=>?_;simp only[kd,slM,Pv,aa];apply K
 refine aG [⟨2,_,_,_,hI⟩] [] fun _ K=>?_;simp only[kd,aa,hml];apply K
 refine aF (aD fun _ K=>?_);simp only[kd,aa,hml];apply K;refine aX (G:=QU n f) (fun g=>⟨(slM (mat n n f)::jk::jk::jk::kC (yj n f)::jk::.one (.sl 18 0 0 n)::j4 (j4 (j4 (jk::jk::jk::rN n::rN g.i::j16 (j16 (j16 (j4 (j4 (jk::jk::jk::[]))))))))),Hm [(18,iy 18 n n idF)]⟩) (fun g=>n-g.i) ⟨0,by omega,rfl⟩ ?_ ?_
 ·refine aE ⟨?_,trivial⟩ ?_
  ·exact fP 0 18 n n _
  simp[wk]
 rintro⟨i,hi,hsc⟩;simp only;by_cases hm:i<n
 ·have hsc2:scanI f (n-i) i=match scanJ f i i with
   |some j=>some (.add i j)
   |none=>if 0<i/\ ¬LovF f i then some (.swp (i-1))else scanI f (n-(i+1)) (i+1):=by
   rw[show n-i=n-(i+1)+1 by omega];rfl
  refine aD fun _ K=>?_;simp(disch:=omega) only[kd,slM,kC];apply K
  refine bx rfl ?_;refine aF (aK ?_);refine aD fun _ K=>?_;simp only[kd];apply K
  refine aF (aD fun _ K=>?_);simp(disch:=omega) only[kd,aa,aO];apply K;refine aX (G:=QV i f) (fun g=>⟨(slM (mat n n f)::jk::jk::jk::kC (yj n f)::jk::.one (.sl 18 0 0 n)::jk::rN i::.raw (.int .i64 ((g.k:Int)-1))::j4 (j4 (j4 (.raw (.int .i64 (n:Int))::rN i::j16 (j16 (j16 (j4 (j4 (jk::jk::jk::[]))))))))),Hm [(18,iy 18 n n idF)]⟩) (fun g=>g.k) ⟨i,by omega,rfl⟩ ?_ ?_
  ·refine aE ⟨rfl,trivial⟩ ?_;simp[wk]
  rintro⟨k,hk,hsj⟩;simp only;cases k with
  |zero=>
   refine aF (aD fun _ K=>?_);simp(disch:=omega) only[kd,slM,kC];apply K;refine aQ rfl (bN ?_);show bo _ _ _ _;have hsj0:scanJ f i i=none:=hsj;rw[hsj0]at hsc2;by_cases h0:0<i
   ·have c1:=yu n f i (by omega) hm h0 hf;by_cases hs:LovF f i
    ·rw[decide_eq_true (show 3*(dd f i*dd f i)<=4*(dd f (i-1)*dd f (i+1)+lam f i (i-1)*lam f i (i-1))from hs)]at c1;have hnx:scanF f n=scanI f (n-(i+1)) (i+1):=by rw[hsc,hsc2];exact if_neg (by simp[hs])
     refine aG [⟨6,_,_,_,c1⟩] [] fun _ K=>?_;simp(disch:=omega) only[kd,slM,kC,aa];apply K
     refine aQ rfl (aM ?_);show bo _ _ _ _;refine aL fun _ K=>?_;simp(disch:=omega) only[kd,aO];apply K
     refine⟨⟨i+1,by omega,hnx⟩,by simp only;omega,aE ⟨rfl,trivial⟩ ?_⟩;simp[wk]
    rw[decide_eq_false (show ¬3*(dd f i*dd f i)<=4*(dd f (i-1)*dd f (i+1)+lam f i (i-1)*lam f i (i-1))from hs)]at c1;have hnx:scanF f n=some (.swp (i-1)):=by rw[hsc,hsc2];exact if_pos ⟨h0,hs⟩
    rw[hnx];have x0:((i:Int)-1).toNat=i-1:=by omega
    have g1:=bK (n:=n) (i:=i) 18 n hm;have g2:=bK (n:=n) (i:=i-1) 18 n (by omega);have g4:((gh 18 (ae n n)).set i [.sl 18 (i-1+1) 0 n])[i-1]?=some [.sl 18 (i-1+1) 0 n]:=by
     rw[List.getElem?_set_ne (by omega),g2]
    refine aG [⟨6,_,_,_,c1⟩] [] fun _ K=>?_;simp(disch:=omega) only[kd,slM,kC,aa];apply K
    refine aU rfl ?_;refine cx be (by kernel_rfl) fun _ K=>?_;simp(disch:=omega) only[kd,aa,aO,x0,g2,g1,g4,Nat.reduceLeDiff,reduceCtorEq];apply K
    refine bo.weak ((oW 18 (i+1) (i-1+1) (iy 18 n n (swp i (i-1) idF)) (DJ idF hm (by omega) (by omega))).trans (aE (tm:=(j4 (jk::jk::.one (.sl 18 0 0 n)::j16 (j16 (j16 (j16 (j4 (j4 (j4 ([])))))))))) (l:=[(18,iy 18 n n (swp i (i-1) idF))]) ⟨rfl,trivial⟩ (by simp[wk,Ct,jw,nZ,sw]))) ?_;rw[show swp i (i-1) idF=Gh (i-1) by rw[<- Ms,show i-1+1=i by omega]];refine bo.weak ((bH 18 (jH rfl)).trans (aE (tm:=(j4 (jk::jk::slM (mat n n (Gh (i-1)))::j16 (j16 (j16 (j16 (j4 (j4 (j4 ([])))))))))) (l:=[]) trivial (by simp[wk];exact(M5 (H:=Hm [(18,iy 18 n n (Gh (i-1)))]) (d:=18) (n:=n) (c:=n) (f:=Gh (i-1)) rfl).symm))) ?_;refine aD fun _ K=>?_;simp only[kd,aa,slM];apply K
    (refine aH ⟨.inr rfl,aJ rfl ?_ rfl⟩;simp(disch:=omega) only[kd,Tryz.results64,O4,M2])
   have hi0:i=0:=by omega
   subst hi0;have hnx:scanF f n=scanI f (n-(0+1)) (0+1):=by rw[hsc,hsc2];exact if_neg (by simp)
   refine aD fun _ K=>?_;simp(disch:=omega) only[kd,aa];apply K
   refine aQ rfl (aM ?_);show bo _ _ _ _;refine aL fun _ K=>?_;simp(disch:=omega) only[kd,aO];apply K
   refine⟨⟨1,by omega,hnx⟩,by simp only;omega,aE ⟨rfl,trivial⟩ ?_⟩;simp[wk]
  |succ j=>
   have x1:((j+1:Nat):Int)-1=(j:Int):=by omega
   rw[x1];have c1:=CQ n f i j (by omega) hm (by omega) hf;by_cases hs:SizF f i j
   ·rw[decide_eq_true (show 2*((lam f i j).natAbs:Int)<=dd f (j+1)from hs)]at c1;have hnx:scanJ f i i=scanJ f i j:=by rw[hsj];exact if_pos hs
    refine aF (aD fun _ K=>?_);simp(disch:=omega) only[kd,slM,kC];apply K;refine aU rfl (aM ?_);refine aF (aK ?_);refine aG [⟨4,_,_,_,c1⟩] [] fun _ K=>?_;simp only[kd,slM,kC,aa];apply K
    refine aQ rfl (aM ?_);show bo _ _ _ _;refine aL fun _ K=>?_;simp(disch:=omega) only[kd,aa,aO];apply K
    refine⟨⟨j,by omega,hnx⟩,by simp only;omega,aE ⟨rfl,trivial⟩ ?_⟩;simp[wk]
   rw[decide_eq_false (show ¬2*((lam f i j).natAbs:Int)<=dd f (j+1)from hs)]at c1;have hnx:scanJ f i i=some j:=by rw[hsj];exact if_neg hs
   have hnx2:scanF f n=some (.add i j):=by rw[hsc,hsc2,hnx]
   rw[hnx2,show O4 n f (some (.add i j))= .tup [(false,[.p (.sl (ls (fR fZ) (mat n n (upd idF j i (cF f i j)))))]),(false,[.p (.raw (.bool true))])]from rfl];have hdp:0<dd f (j+1):=by rw[jG hp (by omega)];exact hp j (by omega)
   have sl:=BD (n:=n) (i:=i) (j:=j) (by omega) hm (by omega) hf;have sd:=yU (n:=n) (k:=j+1) (by omega) (by omega) hf;have d1:=sn n f i j (by omega) hm (by omega) hf;have d2:=pk n f (j+1) (by omega) (by omega);rw[show((j+1:Nat):Int)=(j:Int)+1 by omega]at d2;have d3:=AM (lam f i j) (dd f (j+1)) hdp (sl.mono (by omega)) (sd.mono (by omega));have hnd:=oH (n:=lam f i j) hdp;have d4:=Eg (nN (lam f i j) (dd f (j+1))) (nD (lam f i j) (dd f (j+1))) hnd ((wb sl).mono (by omega)) ((wa sd).mono (by omega));rw[Qq hdp]at d4;have sq:Sz (qF (lam f i j) (dd f (j+1))) 67174401:=by
    have h1:=B7 (l:=lam f i j) hdp;have h2:Sz ((lam f i j).natAbs+1:Int) (67174400+1):=Sz.add (sl.le (by omega)) (oQ (by omega));exact h2.le (by omega)
   have d5:=Is (qF (lam f i j) (dd f (j+1))) (sq.mono (by omega));rw[show -(qF (lam f i j) (dd f (j+1)))=cF f i j from rfl]at d5;have g1:=bK (n:=n) (i:=j) 18 n (by omega);have g2:=fQ n idF (show j<n by omega);have g3:=aT (idF j) hm;generalize cF f i j=cc at*
   generalize qF (lam f i j) (dd f (j+1))=qq at*
   generalize nN (lam f i j) (dd f (j+1))=n1 at*
   generalize nD (lam f i j) (dd f (j+1))=n2 at*
   refine aF (aD fun _ K=>?_);simp(disch:=omega) only[kd,slM,kC];apply K;refine aU rfl (aM ?_);refine aF (aK ?_);refine aG [⟨4,_,_,_,c1⟩] [] fun _ K=>?_;simp only[kd,slM,kC,aa];apply K
   refine aU rfl ?_;refine bu be [⟨8,_,_,_,d1⟩,⟨12,_,_,_,d2⟩,⟨13,_,_,_,d3⟩,⟨14,_,_,_,d4⟩,⟨15,_,_,_,d5⟩] [] (by kernel_rfl) fun _ K=>?_;simp(disch:=omega) only[kd,slM,tZ,kC,tR,aa,g1,aO,af,g2,fZ,g3,lD];apply K
   refine bo.weak ((aE (tm:=(j4 (jk::jk::.one (.sl 18 0 0 n)::j16 (j16 (j16 (j16 (j4 (j4 (j4 ([])))))))))) (l:=[(18,iy 18 n n (upd idF j i cc))]) ⟨rfl,trivial⟩ (by simp[wk])).trans ((bH 18 (jH rfl)).trans (aE (tm:=(j4 (jk::jk::slM (mat n n (upd idF j i cc))::j16 (j16 (j16 (j16 (j4 (j4 (j4 ([])))))))))) (l:=[]) trivial (by
    simp[wk];exact(M5 (H:=Hm [(18,iy 18 n n (upd idF j i cc))]) (d:=18) (n:=n) (c:=n) (f:=upd idF j i cc) rfl).symm)))) ?_
   refine aD fun _ K=>?_;simp only[kd,aa,slM];apply K
   (refine aH ⟨.inr rfl,aJ rfl ?_ rfl⟩;simp(disch:=omega) only[kd,Tryz.results64])
 have hin:i=n:=by omega
 subst hin;have hnx:scanF f i=none:=by rw[hsc,Nat.sub_self];rfl
 rw[hnx];refine aD fun _ K=>?_;simp(disch:=omega) only[kd,slM,kC];apply K
 refine bG rfl ?_;show bo _ _ _ _;refine aD fun _ K=>?_;simp only[kd];apply K
 (refine aH ⟨.inr rfl,aJ rfl ?_ rfl⟩;simp(disch:=omega) only[kd,Tryz.results64,O4])
def Qs (L:List Int) (i k:Nat) (s:(Nat->Nat->Int)×Nat):(Nat->Nat->Int)×Nat:=(upd (upd s.1 i k (Int.tmod (L.getD s.2 0) 3)) k i (Int.tmod (L.getD s.2 0) 3),f9 L s.2)
def Kj (L:List Int) (i:Nat) (s:(Nat->Nat->Int)×Nat):Nat->(Nat->Nat->Int)×Nat
 |0=>s
 |k+1=>Qs L i k (Kj L i s k)
def oS (L:List Int) (s:(Nat->Nat->Int)×Nat):Nat->(Nat->Nat->Int)×Nat
 |0=>s
 |i+1=>Kj L i (oS L s i) i
theorem BC {L:List Int} {i:Nat} {s:(Nat->Nat->Int)×Nat} (h:s.2<=L.length): ∀k,(Kj L i s k).2<=L.length
 |0=>h
 |k+1=>nG (BC h k)
theorem BB {L:List Int} {s:(Nat->Nat->Int)×Nat} (h:s.2<=L.length): ∀i,(oS L s i).2<=L.length
 |0=>h
 |i+1=>BC (BB h i) i
theorem yg (f:FF) (i j:Nat) (v:Int):upd f i j v i j=v:=by simp[upd]
theorem ER (b:Nat) (L:List Int) (a n:Nat) (hL:I8 L) (ha:a<=L.length) (hn:n<=8):
  CallT Tryz.prog b 95 83 [dq b,.raw (.int .i64 (n:Int))] (FU L a) ⟨mxI 0 n n (oS L (f5 L a 6,j7 L a n) n).1,.one (.sl 0 0 0 n)⟩ (FU L (oS L (f5 L a 6,j7 L a n) n).2):=by
 have c0:=lf b L a n 6 hL ha hn (by omega) (by omega);rw[show((6:Nat):Int)=6 from rfl]at c0;have hp0:(f5 L a 6,j7 L a n).2<=L.length:=qh ha n;refine mj Tryz.func83 rfl (by kernel_rfl) ?_;rw[Tryz.ntmps83];refine aZ fun _ K=>?_;simp only[kd,dq,aa,ae];apply K
 refine qf 2 c0 [] [] (by kernel_rfl) (by rfl) (by rfl) fun _ K=>?_;simp only[kd,dq,aa];apply K
 refine cP (aZ fun _ K=>?_);simp only[kd,aa];apply K;refine ma (G:=jA n) (fun g=>⟨(dq b::j4 (.one (.sl 10 0 0 n)::j4 (jk::jk::rN n::rN g.i::j16 (j4 (j4 (j4 (jk::jk::jk::[]))))))),Hm [(10,mxI 10 n n (oS L (f5 L a 6,j7 L a n) g.i).1)]⟩) (fun g=>FU L (oS L (f5 L a 6,j7 L a n) g.i).2) (fun g=>n-g.i) ⟨0,by omega⟩ ?_ rfl ?_
 ·refine aE ⟨?_,trivial⟩ ?_
  ·exact bU 0 10 n n _
  simp[wk]
 rintro⟨i,hi⟩;simp only;have hpi:=BB hp0 i;by_cases hm:i<n
 ·refine aZ fun _ K=>?_;simp(disch:=omega) only[kd,dq];apply K
  refine wW rfl ?_;refine cP (dC ?_);refine aZ fun _ K=>?_;simp only[kd];apply K
  refine aZ fun _ K=>?_;simp only[kd];apply K
  refine ma (G:=jA i) (fun g=>⟨(dq b::j4 (.one (.sl 10 0 0 n)::rN i::rN g.i::j4 (.raw (.int .i64 (n:Int))::rN i::j16 (j4 (j4 (j4 (jk::jk::jk::[]))))))),Hm [(10,mxI 10 n n (Kj L i (oS L (f5 L a 6,j7 L a n) i) g.i).1)]⟩) (fun g=>FU L (Kj L i (oS L (f5 L a 6,j7 L a n) i) g.i).2) (fun g=>i-g.i) ⟨0,by omega⟩ ?_ rfl ?_
  ·refine aE ⟨rfl,trivial⟩ ?_;simp[wk]
  rintro⟨k,hk⟩;simp only;have hpk:=BC (i:=i) hpi k;by_cases hm2:k<i
  ·have hst:Kj L i (oS L (f5 L a 6,j7 L a n) i) (k+1)=Qs L i k (Kj L i (oS L (f5 L a 6,j7 L a n) i) k):=rfl;generalize Kj L i (oS L (f5 L a 6,j7 L a n) i) k=s at*
   obtain⟨f,p⟩:=s;simp only at hpk⊢;have c1:=Gp b L p hL hpk;have hb:=hL.getD p;have a1:=bK (n:=n) (i:=i) 10 n hm;have a2:=bK (n:=n) (i:=k) 10 n (by omega);have a3:=cd n f hm;have a5:=aT (f i) (show k<n by omega);have hst2:Qs L i k (f,p)=(upd (upd f i k (Int.tmod (L.getD p 0) 3)) k i (Int.tmod (L.getD p 0) 3),f9 L p):=rfl;obtain⟨v,hv⟩: ∃v,Int.tmod (L.getD p 0) 3=v:=⟨_,rfl⟩;rw[hv]at hst2;have a6:=cd n (upd f i k v) hm;have a7:=cd n (upd f i k v) (show k<n by omega);have a8:(bA n (upd f i k v i))[k]?=some v:=by rw[aT _ (by omega),yg]
   have a9:=aT (upd f i k v k) hm;refine cP (aZ fun _ K=>?_);simp(disch:=omega) only[kd,aa,dq];apply K;refine gR rfl (j9 ?_);refine cP (dC ?_);refine AU be 6 c1 [] [] (by kernel_rfl) (by kernel_rfl) (by rfl) (by rfl) fun _ K=>?_;simp(disch:=omega) only[kd,dq,aa,a1,hv,a3,a5,dK];apply K
   refine AR be (by kernel_rfl) fun _ K=>?_;simp(disch:=omega) only[kd,aa,a2,a1,a6,a8,a7,a9,dK];apply K
   show eB _ _ _ _ _ _ _;refine eY fun _ K=>?_;simp(disch:=omega) only[kd,aa,aO];apply K
   refine⟨⟨k+1,by omega⟩,by simp only;omega,aE ⟨?_,trivial⟩ ?_,?_⟩
   ·rw[hst,hst2];rfl
   ·simp[wk]
   simp only;rw[hst,hst2]
  have hki:k=i:=by omega
  subst hki;refine cP (aZ fun _ K=>?_);simp(disch:=omega) only[kd,aa,dq];apply K;refine cX rfl (yG ?_);show eB _ _ _ _ _ _ _;refine eY fun _ K=>?_;simp(disch:=omega) only[kd,aO];apply K
  refine⟨⟨k+1,by omega⟩,by simp only;omega,aE ⟨rfl,trivial⟩ ?_,rfl⟩;simp[wk]
 have hin:i=n:=by omega
 subst hin;refine aZ fun _ K=>?_;simp(disch:=omega) only[kd,dq];apply K
 refine wV rfl ?_;show eB _ _ _ _ _ _ _;refine aZ fun _ K=>?_;simp only[kd];apply K
 refine m8 ⟨.inr rfl,rfl,_,ca.refl _,?_⟩;refine⟨.one (.sl 10 0 0 i),10,?_,rfl,?_,rfl⟩
 ·simp(disch:=omega) only[kd,Tryz.results83]
 exact(bU 10 0 _ _ _).symm
def KN (fork:Bool) (n i:Nat):Nat:=if fork=true/\i+1=n/\3<n then i-2 else i-1
def iZ (fork:Bool) (n:Nat):Nat->Nat->Nat->Int
 |0=>fun _ _=>0
 |i+1=>if i=0 then upd (iZ fork n i) i i 2 else upd (upd (upd (iZ fork n i) i i 2) i (KN fork n i) (-1)) (KN fork n i) i (-1)
theorem GY {fork:Bool} {n i:Nat} (h:0<i):KN fork n i<i:=by unfold KN;split<;>omega
theorem oR {f:FF} {i j a b:Nat} {v:Int} (h:a≠i\/b≠j):upd f i j v a b=f a b:=by
 unfold upd;by_cases h1:a=i
 ·subst h1;have h2:b≠j:=by rcases h with h|h;exact absurd rfl h;exact h
  simp[h2]
 simp[h1]
theorem yQ (fork:Bool) (n:Nat): ∀i a b,i<=a\/i<=b->iZ fork n i a b=0
 |0,_,_,_=>rfl
 |i+1,a,b,h=>by
  have ih:=yQ fork n i a b (by omega);unfold iZ;split
  ·rw[oR (by omega),ih]
  rename_i h0;have:=GY (fork:=fork) (n:=n) (show 0<i by omega);rw[oR (by omega),oR (by omega),oR (by omega),ih]
theorem C0 (n:Nat) (fork:Bool) (hn:n<=8):
  CallC Tryz.prog 84 [.raw (.int .i64 (n:Int)),.raw (.bool fork)] ⟨mxI 0 n n (iZ fork n n),.one (.sl 0 0 0 n)⟩:=by
 refine aI Tryz.func84 rfl (by kernel_rfl) ?_;rw[Tryz.ntmps84];refine aD fun _ K=>?_;simp only[kd,aa,ae];apply K
 refine aD fun _ K=>?_;simp(disch:=omega) only[kd,aa];apply K
 refine aF (aD fun _ K=>?_);simp only[kd,aa];apply K;refine aX (G:=jA n) (fun g=>⟨(.raw (.int .i64 (n:Int))::.raw (.bool fork)::jk::jk::jk::.one (.sl 9 0 0 n)::j4 (jk::rN n::rN g.i::j16 (j16 (j4 (j4 (j4 ([]))))))),Hm [(9,kI 9 n n g.i (iZ fork n g.i))]⟩) (fun g=>n-g.i) ⟨0,by omega⟩ ?_ ?_
 ·refine aE ⟨?_,trivial⟩ ?_
  ·show[_]=_;simp[gh,mat]
  simp[wk]
 rintro⟨i,hi⟩;simp only;by_cases hm:i<n
 ·have k1:=qw (i:=i) (n:=n) 9 n hm;have k2:=jo (i:=i) (n:=n) 9 n hi;have k3:=bf i n (iZ fork n i);have k4:=np (i:=i) (n:=n) (c:=n) 9 (iZ fork n i) hm (fun j hj=>yQ fork n i i j (by omega));have k5:=qv (i:=i+1) (k:=i) (n:=n) 9 n (by omega);have k6:=jo (i:=i+1) (n:=n) 9 n (by omega);have k7:=cd (n:=i+1) n (iZ fork n i) (i:=i) (by omega);have k8:=aT (iZ fork n i i) hm;have hstep:iZ fork n (i+1)=if i=0 then upd (iZ fork n i) i i 2 else upd (upd (upd (iZ fork n i) i i 2) i (KN fork n i) (-1)) (KN fork n i) i (-1):=rfl
  generalize iZ fork n i=f at*
  refine aD fun _ K=>?_;simp(disch:=omega) only[kd];apply K
  refine bx rfl ?_;refine aF (aK ?_);refine aD fun _ K=>?_;simp only[kd];apply K
  refine aD fun _ K=>?_;simp(disch:=omega) only[kd,aa,Nat.reduceEqDiff,k1,Nat.reduceLeDiff,ax,List.all_replicate,k3,af];apply K
  refine bo.weak (aE (tm:=(.raw (.int .i64 (n:Int))::.raw (.bool fork)::jk::jk::jk::.one (.sl 9 0 0 n)::rN i::j4 (.raw (.int .i64 (n:Int))::rN i::j16 (j16 (j4 (j4 (j4 ([])))))))) (l:=[(9,kI 9 n n (i+1) f)]) ⟨?_,trivial⟩ (by simp[wk])) ?_
  ·first|exact k4|rfl
  refine aD fun _ K=>?_;simp(disch:=omega) only[kd,aa,k5,k7,k8,dK];apply K
  refine aD fun _ K=>?_;simp(disch:=omega) only[kd,aa,aO];apply K
  obtain⟨kz,hkz⟩: ∃kz:Int,kz=if fork=true/\i+1=n/\3<n then(i:Int)-2 else(i:Int)-1:=⟨_,rfl⟩
  refine aF (kP (S:=⟨(.raw (.int .i64 (n:Int))::.raw (.bool fork)::jk::jk::jk::.one (.sl 9 0 0 n)::rN i::.raw (.int .i64 kz)::jk::jk::jk::rN n::rN i::j16 (j16 (j4 (j4 (j4 ([])))))),Hm [(9,kI 9 n n (i+1) (upd f i i 2))]⟩) ?_ ?_)
  ·cases fork with
   |false=>
    rw[if_neg (by simp)]at hkz;refine aD fun _ K=>?_;simp(disch:=omega) only[kd,aa];apply K
    refine aQ rfl (aM ?_);show ca _ _;refine aE ⟨rfl,trivial⟩ ?_;simp[wk,hkz]
   |true=>
    by_cases h1:i+1=n
    ·by_cases h2:3<n
     ·rw[if_pos ⟨rfl,h1,h2⟩]at hkz;refine aD fun _ K=>?_;simp(disch:=omega) only[kd,aa,aO];apply K
      refine aU rfl ?_;refine aL fun _ K=>?_;simp(disch:=omega) only[kd,aa,aO];apply K
      refine aE ⟨rfl,trivial⟩ ?_;simp[wk,hkz]
     rw[if_neg (by omega)]at hkz;refine aD fun _ K=>?_;simp(disch:=omega) only[kd,aa,aO];apply K
     refine aQ rfl (aM ?_);show ca _ _;refine aE ⟨rfl,trivial⟩ ?_;simp[wk,hkz]
    rw[if_neg (by omega)]at hkz;refine aD fun _ K=>?_;simp(disch:=omega) only[kd,aa,aO];apply K
    refine aQ rfl (aM ?_);show ca _ _;refine aE ⟨rfl,trivial⟩ ?_;simp[wk,hkz]
  by_cases h0:i=0
  ·subst h0;rw[if_neg (by omega)]at hkz;rw[if_pos rfl]at hstep;refine aD fun _ K=>?_;simp(disch:=omega) only[kd];apply K
   refine aQ rfl (aM ?_);show bo _ _ _ _;refine aL fun _ K=>?_;simp(disch:=omega) only[kd,aO];apply K
   refine⟨⟨1,by omega⟩,by simp only;omega,aE ⟨?_,trivial⟩ ?_⟩
   ·simp only[hstep];rfl
   simp[wk]
  have hkk:kz=((KN fork n i:Nat):Int):=by
   rw[hkz];unfold KN;split<;>omega
  have hlt:=GY (fork:=fork) (n:=n) (show 0<i by omega);rw[if_neg h0]at hstep;subst hkk;generalize KN fork n i=k at*
  generalize upd f i i 2=f2 at*
  have b1:=qv (i:=i+1) (k:=k) (n:=n) 9 n (by omega);have b2:=cd (n:=i+1) n f2 (i:=i) (by omega);have b3:=aT (f2 i) (show k<n by omega);have b4:=cd (n:=i+1) n (upd f2 i k (-1)) (i:=k) (by omega);have b5:=aT (upd f2 i k (-1) k) hm;refine aD fun _ K=>?_;simp(disch:=omega) only[kd];apply K
  refine aU rfl ?_;refine gP be (by kernel_rfl) fun _ K=>?_;simp(disch:=omega) only[kd,aa,k5,b1,b2,b3,dK,b4,b5];apply K
  show bo _ _ _ _;refine aL fun _ K=>?_;simp(disch:=omega) only[kd,aO];apply K
  refine⟨⟨i+1,by omega⟩,by simp only;omega,aE ⟨?_,trivial⟩ ?_⟩
  ·simp only[hstep];rfl
  simp[wk]
 have hin:i=n:=by omega
 subst hin;refine aD fun _ K=>?_;simp(disch:=omega) only[kd];apply K
 refine bG rfl ?_;show bo _ _ _ _;rw[oA];refine aD fun _ K=>?_;simp only[kd];apply K
 refine aH ⟨.inr rfl,_,ca.refl _,?_⟩;refine⟨.one (.sl 9 0 0 i),9,?_,rfl,?_,rfl⟩
 ·simp(disch:=omega) only[kd,Tryz.results84]
 exact(bU 9 0 _ _ _).symm
def GoodP (n:Nat) (f:FF):Prop:=SymF f n/\wT f n/\detF n f<=10000
theorem Hv (n:Nat) (f:FF) (hn1:1<=n) (hn:n<=8) (hf: ∀i j:Nat,wR (f i j)) (r:Bool) (hr:r=true↔GoodP n f):CallC Tryz.prog 86 [slI (mat n n f)] ⟨[],.raw (.bool r)⟩:=by
 have c1:=AL n n f hn1 (by omega) hn1 (by omega) (fun i j _ _=>hf i j);obtain⟨e,he,c2⟩:=kO n n f hn1 (by omega) hn1 (by omega) (fun i j _ _=>(hf i j).sz (by omega));by_cases h1:e=0
 ·obtain⟨_,_,hs,hp⟩:=he.1 h1;subst h1;have c3:=ig n f hn1 (by omega) (fun i j _ _=>(hf i j).sz (by omega));have c4:=fW 10000 (by omega) (by omega);have c5:=ym (detF n f) 10000 ((pb (n:=n) (by omega) (fun i j _ _=>(hf i j).sz (by omega))).mono (by omega)) (mT (by decide) (by omega));have hle:=xj (detF n f) 10000;have hrr:r=decide (detF n f<=10000):=by
   cases r with
   |true=>have:=(hr.1 rfl).2.2;simp[this]
   |false=>
    have: ¬detF n f<=10000:=fun h=>by have:=hr.2 ⟨hs,hp,h⟩;cases this
    simp[this]
  rw[hrr];generalize detF n f=d at*
  refine aI Tryz.func86 rfl (by kernel_rfl) ?_;rw[Tryz.ntmps86];refine aD fun _ K=>?_;simp only[kd,slI,ae];apply K
  refine aG [⟨1,_,_,_,c1⟩] [] fun _ K=>?_;simp only[kd,slI,slM,aa];apply K
  refine aG [⟨1,_,_,_,c2⟩,⟨5,_,_,_,c3⟩,⟨6,_,_,_,c4⟩,⟨7,_,_,_,c5⟩] [] fun _ K=>?_;simp(disch:=omega) only[kd,slM,tZ,aa,af,hle];apply K
  (refine aH ⟨.inr rfl,aJ rfl ?_ rfl⟩;simp(disch:=omega) only[kd,Tryz.results86])
 have hr0:r=false:=by
  cases r with
  |false=>rfl
  |true=>have:=hr.1 rfl;exact absurd (he.2 ⟨rfl,hn,this.1,this.2.1⟩) h1
 subst hr0;refine aI Tryz.func86 rfl (by kernel_rfl) ?_;rw[Tryz.ntmps86];refine aD fun _ K=>?_;simp only[kd,slI,ae];apply K
 refine aG [⟨1,_,_,_,c1⟩] [] fun _ K=>?_;simp only[kd,slI,slM,aa];apply K
 refine aG [⟨1,_,_,_,c2⟩] [] fun _ K=>?_;simp(disch:=omega) only[kd,slM,aa,af];apply K
 (refine aH ⟨.inr rfl,aJ rfl ?_ rfl⟩;simp(disch:=omega) only[kd,Tryz.results86])
end Go.Proofs.YtfgeomlagfomgaaGreatDoor
