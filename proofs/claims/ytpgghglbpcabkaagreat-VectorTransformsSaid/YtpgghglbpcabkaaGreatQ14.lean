/-
  Part 15 of a proof (walks and plain facts).
-/
import Derived.Test.YtpgghglbpcabkaaGreatQ13
set_option linter.all false
set_option maxRecDepth 100000
set_option maxHeartbeats 64000000
namespace Go.Proofs.YtpgghglbpcabkaaGreat
open Go.RowKit
def yq (v:Value) (a:Nat) (g:Nat->Value):Nat->Value:=fun j=>if j=0 then v else if j=1 then .int .i64 (a:Int)else g j
theorem CV (tx n:Nat) (A:Option Addr) (c:Nat) (l:List Int) (a:Nat) (g:Nat->Value) (w:World) (hn:2<=n) (hl:RdI .i8 w A l) (hb: ∀z∈l,-128<=z/\z<=127) (ll:l.length<=9223372036854775807) (ha:a<=l.length) (hT:w.rowIs tx 45 n (yq (.slice A l.length c) a g)) (hne:l≠[]-> ∀p,A=some p->p.block≠tx):
  Calls Tryz.prog 19 #[.pointer (some ⟨tx,0,none⟩)] w fun e w'=>e= .returned (.int .i64 (l.getD a 0))/\w'.rowIs tx 45 n (yq (.slice A l.length c) (dq l a) g)/\w.grownBy w' (some tx):=by
 have HT:=Lib.hid hT
 have HL:=Lib.hid hl
 have HB:=Lib.hid hb
 have HN:=Lib.hid hne
 clear hT hl hb hne
 have t0:w.cell? ⟨tx,0,none⟩=some (.slice A l.length c):=HT.out.cell (by omega)
 have t1:w.cell? ⟨tx,1,none⟩=some (.int .i64 (a:Int)):=HT.out.cell (by omega)
 have t2:w.frozen? ⟨tx,1,none⟩=false:=HT.out.frozen 1
 by_cases hlt:a<l.length
 ·obtain⟨z,hz⟩:=getElem?_of_lt hlt
  obtain⟨b,off,rfl,hc⟩:=HL.out.at_ hz
  have hbt:b≠tx:=HN.out (by rintro rfl;simp at hlt) _ rfl
  have hzb:=HB.out z (List.mem_of_getElem? hz)
  have hz1:=hzb.1
  have hz2:=hzb.2
  have HZ:Hid (l.getD a 0=z):=Lib.hid (by rw[List.getD_eq_getElem?_getD,hz];rfl)
  have HNx:Hid (dq l a=a+1):=Lib.hid (if_pos hlt)
  clear hz hzb
  go_enter Tryz.func19,Tryz.ntmps19
  go_wp2_with fail
  go_quiet (fail)
  go_wp2_with fail
  have hrow:=((md HT.out nq).set 1 (.int .i64 ((a:Int)+1))).congr (g:=yq (.slice (some ⟨b,off,none⟩) l.length c) (a+1) g) (fun j hj=>by
   match j,hj with
   |0,_=>rfl
   |1,_=>simp[yq]
   |j+2,_=>simp[yq])
  have HROW:=Lib.hid hrow
  have HG:=Lib.hid (vK (fP ((Ext.refl w).drewN nq) tx) 1 (.int .i64 ((a:Int)+1)))
  have s0:((w.drewN nq).setCell ⟨tx,1,none⟩ (.int .i64 ((a:Int)+1))).cell? ⟨tx,0,none⟩=some (.slice (some ⟨b,off,none⟩) l.length c):=HROW.out.cell (i:=0) (by omega)
  have s1:((w.drewN nq).setCell ⟨tx,1,none⟩ (.int .i64 ((a:Int)+1))).cell? ⟨tx,1,none⟩=some (.int .i64 ((a:Int)+1)):=by
   have:=HROW.out.cell (i:=1) (by omega)
   rw[this];simp[yq]
  have s2:((w.drewN nq).setCell ⟨tx,1,none⟩ (.int .i64 ((a:Int)+1))).cell? ⟨b,off+a,none⟩=some (.int .i8 z):=mJ HG.out hc hbt
  have a1:IntKind.i64.wrap ((a:Int)+1-1)=(a:Int):=by rw[Int.add_sub_cancel];exact IntWalk.i64_in _ (by omega)
  have a2:(a:Int)<(l.length:Int):=by omega
  clear t0 t1 t2 hc hrow
  generalize(w.drewN nq).setCell ⟨tx,1,none⟩ (.int .i64 ((a:Int)+1))=w3 at*
  go_quiet (fail)
  go_wp2_with fail
  go_ret
  rw[HZ.out,HNx.out]
  exact⟨rfl,md HROW.out _,iG HG.out (fP ((Ext.refl _).drewN _) tx)⟩
 ·go_enter Tryz.func19,Tryz.ntmps19
  have HZ:Hid (l.getD a 0=0):=Lib.hid (by rw[List.getD_eq_getElem?_getD,List.getElem?_eq_none (by omega)];rfl)
  have HNx:Hid (dq l a=a):=Lib.hid (if_neg hlt)
  go_wp2_with fail
  go_quiet (fail)
  go_wp2_with fail
  go_ret
  rw[HZ.out,HNx.out]
  exact⟨rfl,md HT.out _,fP ((Ext.refl _).drewN _) tx⟩
def f8 (z:Int):List PV:=[.raw (.int .i8 z)]
abbrev Ai (L:List Int) (a:Nat):List PV:=[.sl (ls f8 L),.raw (.int .i64 (a:Int))]
abbrev dU (b:Nat):TV:= .raw (.pointer (some ⟨b,0,none⟩))
def I8 (L:List Int):Prop:= ∀z∈L,-128<=z/\z<=127
theorem I8.getD {L:List Int} (h:I8 L) (a:Nat): -128<=L.getD a 0/\L.getD a 0<=127:=by
 rw[List.getD_eq_getElem?_getD]
 cases hx:L[a]? with
 |none=>simp
 |some z=>exact h z (List.mem_of_getElem? hx)
theorem HJ {X:Nat->Prop} {w:World} {l:List Int} {v:Value} (h:dy X w (.sl (ls f8 l)) v): ∃A c,v= .slice A l.length c/\l.length<=9223372036854775807/\RdI .i8 w A l/\(l≠[]-> ∀p,A=some p-> ¬X p.block):=by
 generalize hx:PV.sl (ls f8 l)=x at h
 cases h with
 |raw v h=>cases hx
 |ptr b off cs f hX hb hc hr=>cases hx
 |nil a c=>
  injection hx with hx
  have hl:l=[]:=by simpa[ls] using hx
  subst hl
  exact⟨a,c,rfl,by simp,RdI.nil _ _ _,fun h=>absurd rfl h⟩
 |sl b off es cap xs f hX hb hes hcap hm hc hr=>
  injection hx with hx
  subst hx
  rw[aR]at hcap hm
  refine⟨some ⟨b,off,none⟩,cap,by rw[aR],hm,fun hne=>⟨b,off,rfl,fun i x hx=>?_⟩,fun _ p hp=>by injection hp with hp;subst hp;exact hX⟩
  rw[List.getElem?_map]at hx
  obtain⟨z,hz,rfl⟩:=Option.map_eq_some_iff.1 hx
  have h1:(ls f8 l)[i]?=some (f8 z):=by rw[bG,hz];rfl
  have he:es=1:=by rw[<- hes _ (List.mem_of_getElem? h1)];rfl
  subst he
  have h2:=hc i _ 0 _ h1 rfl
  have h3:=lj (hr i _ 0 _ h1 rfl)
  rw[h3,Nat.mul_one,Nat.add_zero]at h2
  exact h2
theorem yJ (b:Nat) (L:List Int) (a:Nat) (hL:I8 L) (ha:a<=L.length):gZ Tryz.prog b 45 19 [dU b] (Ai L a) ⟨[],.raw (.int .i64 (L.getD a 0))⟩ (Ai L (dq L a)):=by
 refine⟨by kernel_rfl,fun X w vs hX hXb hbox hvs hargs=>?_⟩
 obtain⟨cells,c,h1,h2,h3,h4,h5,h6⟩:=hbox
 obtain⟨v0,e0,r0⟩:=hargs 0 _ rfl
 have hv0:v0= .pointer (some ⟨b,0,none⟩):=lj r0
 subst hv0
 obtain rfl:vs= #[.pointer (some ⟨b,0,none⟩)]:=by
  apply Array.ext_getElem?
  intro j
  match j with
  |0=>exact e0
  |j+1=>rw[Array.getElem?_eq_none (by simp at hvs;omega)];rfl
 obtain⟨v,c0,_,r1⟩:=h6 0 _ rfl
 obtain⟨u,c1,_,r2⟩:=h6 1 _ rfl
 have hu:=lj r2
 subst hu
 obtain⟨A,cap,rfl,hl,hrd,hb⟩:=HJ r1
 have hsz:cells.size=c*2:=h2
 have hrow:w.rowIs b 45 (c*2) (yq (.slice A L.length cap) a fun j=>(cells[j]?).getD undef):=by
  refine⟨cells,h1,hsz,fun i hi=>?_⟩
  match i with
  |0=>exact c0
  |1=>exact c1
  |i+2=>simp[yq,hsz,hi]
 have hblk:L≠[]-> ∀p,A=some p->p.block≠b:=fun hne p hp he=>hb hne p hp (by rw[he];exact hXb)
 refine(CV b (c*2) A cap L a _ w (by omega) hrd hL hl ha hrow hblk).mono fun e w' ⟨q1,⟨cells',q2,q3,q4⟩,q5⟩=>?_
 have hbut: ∀k,k<w.heap.size->k≠b->w'.heap[k]?=w.heap[k]?:=fun k hk hne=>q5.block k hk (by simp;exact hne)
 have hXo: ∀j,Xo X (fun _ _=>none) (famH 0 []) j->X j:=fun j hj=>by
  rcases hj with hj|⟨_,_,_,_,_,g⟩
  ·exact hj
  ·cases g
 refine⟨_,q1,fun _ _=>none,?_,dy.raw _ rfl,cells',c,q2,q3,h3,h4,h5,fun j x hx=>?_⟩
 ·have e: ∀a,famH 0 [] a=[]:=fun a=>by unfold famH;split<;>rfl
  refine⟨⟨q5.os,q5.tape,q5.output,q5.size,fun k hk hn=>hbut k hk hn⟩,fun a r o ho=>?_,fun a r a' r' o o' b c c' ho=>?_,fun a r o b c ho=>?_,fun j hj=>Nat.lt_of_lt_of_le (hX j hj) q5.size,fun a r o ho=>?_⟩<;>(rw[e]at ho;simp at ho)
 ·match j,hx with
  |0,hx=>
   have hx:x= .sl (ls f8 L):=by simpa using hx.symm
   subst hx
   refine⟨.slice A L.length cap,q4 0 (by omega),rfl,r1.later (fun j _ hj=>hXo j hj) q5.size fun p u hp hn hu=>?_⟩
   rw[uk (hbut p.block hp (fun he=>hn (by rw[he];exact hXb)))];exact hu
  |1,hx=>
   have hx:x= .raw (.int .i64 (dq L a:Nat)):=by simpa using hx.symm
   subst hx
   exact⟨_,q4 1 (by omega),rfl,dy.raw _ rfl⟩
  |j+2,hx=>simp at hx
def iF (L:List Int) (a n:Nat):Nat:=((L.getD a 0)%256).toNat%n
theorem iY {n:Nat} (L:List Int) (a:Nat) (h:0<n):iF L a n<n:=Nat.mod_lt _ h
theorem B4 (L:List Int) (a n:Nat):Int.tmod (L.getD a 0%256) (n:Int)=(iF L a n:Int):=by
 have h:L.getD a 0%256=((L.getD a 0%256).toNat:Int):=by omega
 unfold iF
 rw[Int.ofNat_tmod,<- h]
theorem JO (x:Int):IntKind.u8.wrap x=x%256:=by rw[IntKind.wrap_u8]
theorem gy {L:List Int} {a:Nat} (h:a<=L.length):dq L a<=L.length:=by unfold dq;split<;>omega
theorem ot (b:Nat) (L:List Int) (a n:Nat) (hL:I8 L) (ha:a<=L.length) (hn1:0<n) (hn:n<=100):gZ Tryz.prog b 45 18 [dU b,.raw (.int .i64 (n:Int))] (Ai L a) ⟨[],.raw (.int .i64 (iF L a n:Int))⟩ (Ai L (dq L a)):=by
 have c1:=yJ b L a hL ha
 have e1:=B4 L a n
 have e2:=JO (L.getD a 0)
 refine rJ Tryz.func18 rfl (by kernel_rfl) ?_;rw[Tryz.ntmps18]
 (refine bI [] [] (by simp) fun K hK=>?_;simp(disch:=omega) only[kc,List.map,ab,dU,Nat.reduceAdd,List.replicate,ac,Value.oneCell'];apply hK)
 (refine mE 1 c1 [] [] (by kernel_rfl) (by rfl) (by rfl) (by simp) fun K hK=>?_;simp(disch:=omega) only[kc,List.map,dU,ab,Nat.reduceAdd,ai,aN,aC,List.find?_cons,aD,aX,CallRes.plain,aF,aH,ap,noRefTV,am,aG,aE,bF,ak,Tryz.underlying2,Il,e2,Tryz.underlying5,BH,bC,ah,e1,bH];apply hK)
 (refine oA ⟨.inr rfl,rfl,aO rfl ?_ rfl⟩;simp(disch:=omega) only[bE,Tryz.results18,aP,List.getElem?_cons_succ,List.getElem?_cons_zero])
def rh (r:List Int):OObj:=⟨2,1,lc fI r⟩
abbrev kI (d n c i:Nat) (f:Nat->Nat->Int):List OObj:=⟨35,1,gY d (List.replicate i c)++List.replicate (n-i) n4⟩::(cd i c f).map rh
abbrev eK (d n c:Nat) (f:Nat->Nat->Int):List OObj:=⟨35,1,gY d (List.replicate n c)⟩::(cd n c f).map rh
theorem nM (d n c:Nat) (f:Nat->Nat->Int):kI d n c n f=eK d n c f:=by simp[kI,eK]
theorem iv {i n:Nat} (d c:Nat) (h:i<=n):(gY d (List.replicate i c)++List.replicate (n-i) n4).length=n:=by simp[dN];omega
theorem nO {i k n:Nat} (d c:Nat) (h:k<i):(gY d (List.replicate i c)++List.replicate (n-i) n4)[k]?=some [.sl d (k+1) 0 c]:=by
 rw[List.getElem?_append_left (by simp[dN];exact h),cX d c h]
theorem nP {i n:Nat} (d c:Nat) (h:i<n):(gY d (List.replicate i c)++List.replicate (n-i) n4)[i]?=some n4:=by
 rw[List.getElem?_append_right (by simp[dN]),dN,List.length_replicate,Nat.sub_self,List.getElem?_replicate,if_pos (by omega)]
theorem dE {n i:Nat} (c:Nat) (f:Nat->Nat->Int) (h:i<n):((cd n c f).map rh)[i]?=some ⟨2,1,lc fI (de c (f i))⟩:=by
 rw[List.getElem?_map,cS _ _ h];rfl
theorem eG {n i j:Nat} (c:Nat) (f:Nat->Nat->Int) (v:Int):((cd n c f).map rh).set i ⟨2,1,(lc fI (de c (f i))).set j [.p (.raw (.int .i64 v))]⟩=(cd n c (upd f i j v)).map rh:=by
 have e:(⟨2,1,(lc fI (de c (f i))).set j [.p (.raw (.int .i64 v))]⟩:OObj)=rh (de c fun b=>if b=j then v else f i b):=by
  rw[<- x8,rh,<- EF];rfl
 rw[e,<- List.map_set,vU];rfl
theorem da {n c:Nat} {f g:Nat->Nat->Int} (h: ∀i j,i<n->j<c->f i j=g i j):(cd n c f).map rh=(cd n c g).map rh:=by rw[ko h]
theorem kW {i n c:Nat} (d:Nat) (f:Nat->Nat->Int) (hi:i<n) (h0: ∀j,j<c->f i j=0):
  (⟨35,1,(gY d (List.replicate i c)++List.replicate (n-i) n4).set i [.sl d (i+1) 0 c]⟩::((cd i c f).map rh++[⟨2,1,List.replicate c [.raw (.int .i64 0)]⟩]):List OObj)=kI d n c (i+1) f:=by
 have e1:(gY d (List.replicate i c)++List.replicate (n-i) n4).set i [.sl d (i+1) 0 c]=gY d (List.replicate (i+1) c)++List.replicate (n-(i+1)) n4:=by
  rw[List.set_append_right _ _ (by simp[dN]),dN,List.length_replicate,Nat.sub_self,List.replicate_succ' (n:=i),mm,List.length_replicate,List.append_assoc]
  congr 1
  rw[show n-i=n-(i+1)+1 by omega,List.replicate_succ]
  rfl
 have e2:(⟨2,1,List.replicate c [.raw (.int .i64 0)]⟩:OObj)=rh (de c (f i)):=by
  rw[rh]
  congr 1
  apply List.ext_getElem?
  intro j
  rw[List.getElem?_replicate,cb]
  by_cases hj:j<c
  ·rw[if_pos hj,bK _ hj,h0 j hj];rfl
  ·rw[if_neg hj,List.getElem?_eq_none (by rw[cq];omega)];rfl
 rw[e1,e2,kI,sk,List.map_append];rfl
theorem dY (d e n c:Nat) (f:Nat->Nat->Int):(eK d n c f).map (dm e)=eK e n c f:=by
 simp only[eK,List.map_cons,List.map_map]
 congr 1
 ·simp[dm,BA]
 ·exact List.map_congr_left fun r _=>by simp[dm,rh,pL]
theorem dK {H:OH} {d n c:Nat} {f:Nat->Nat->Int} (h:H d=eK d n c f):vJ H d:=fun r o ho e he x hx=>by
 rw[h]at ho
 cases r with
 |succ r=>
  rw[List.getElem?_cons_succ,List.getElem?_map]at ho
  obtain⟨l,hl,rfl⟩:=Option.map_eq_some_iff.1 ho
  exact .inl (jv _ _ l e he x hx)
 |zero=>
  simp at ho
  subst ho
  simp only at he
  obtain⟨k,hk⟩:=List.mem_iff_getElem?.1 he
  have hkn:k<n:=by
   have:=(List.getElem?_eq_some_iff.1 hk).1
   rwa[dN,List.length_replicate]at this
  rw[cX d c hkn]at hk
  injection hk with hk
  subst hk
  simp at hx
  subst hx
  refine .inr ⟨k+1,0,c,rh (de c (f k)),rfl,?_,jv _ _ _⟩
  rw[h,List.getElem?_cons_succ,List.getElem?_map,cS _ _ hkn];rfl
theorem jZ {H:OH} {d n c:Nat} {f:Nat->Nat->Int} (h:H d=eK d n c f):gH H d (.one (.sl d 0 0 n))=ck (cd n c f):=by
 have e:((gY d (List.replicate n c)).map (List.map (ke H d)))=ls (fR fI) (cd n c f):=by
  apply List.ext_getElem?
  intro i
  rw[List.getElem?_map,bG]
  by_cases hi:i<n
  ·rw[cX d c hi,cS _ _ hi]
   simp only[Option.map_some,List.map_cons,List.map_nil,ke,h,List.getElem?_cons_succ,dE _ _ hi,fR,eB,A9,Ba]
   rw[List.drop_zero,List.take_of_length_le (by rw[cq];omega)]
  ·rw[List.getElem?_eq_none (by rw[dN,List.length_replicate];omega),List.getElem?_eq_none (by rw[bQ];omega)];rfl
 simp only[gH,fu,if_true,h,List.getElem?_cons_zero]
 rw[List.drop_zero,List.take_of_length_le (by rw[dN,List.length_replicate];omega),e]
def j9 (L:List Int) (a:Nat):Nat->Nat
 |0=>a
 |i+1=>dq L (j9 L a i)
theorem px {L:List Int} {a:Nat} (h:a<=L.length): ∀i,j9 L a i<=L.length
 |0=>h
 |i+1=>gy (px h i)
def gR (L:List Int) (a most:Nat):Nat->Nat->Int:=fun i j=>if i=j then 1+(iF L (j9 L a i) most:Int)else 0
def Cm (L:List Int) (a most i:Nat):Nat->Nat->Int:=fun x y=>if x<i then gR L a most x y else 0
theorem D7 (L:List Int) (a most i x y:Nat):upd (Cm L a most i) i i (1+(iF L (j9 L a i) most:Int)) x y=Cm L a most (i+1) x y:=by
 unfold upd Cm gR
 by_cases h1:x=i
 ·subst h1
  by_cases h2:y=x
  ·subst h2;simp
  ·simp[h2,Ne.symm h2]
 ·have:x<i+1↔x<i:=by omega
  simp[h1,this]
theorem kU (b:Nat) (L:List Int) (a n most:Nat) (hL:I8 L) (ha:a<=L.length) (hn:n<=8) (hm1:0<most) (hmm:most<=100):
  gZ Tryz.prog b 45 66 [dU b,.raw (.int .i64 (n:Int)),.raw (.int .i64 (most:Int))] (Ai L a) ⟨eK 0 n n (gR L a most),.one (.sl 0 0 0 n)⟩ (Ai L (j9 L a n)):=by
 refine rJ Tryz.func66 rfl (by kernel_rfl) ?_;rw[Tryz.ntmps66]
 (refine bI [] [] (by simp) fun K hK=>?_;simp(disch:=omega) only[kc,ab,dU,Nat.reduceAdd,List.replicate,ac,Value.oneCell'];apply hK)
 (refine bI [] [] (by simp) fun K hK=>?_;simp(disch:=omega) only[kc,ab,Nat.reduceAdd,bZ,aN,aC,aL,gX,b7,jT,Int.natCast_nonneg,Value.oneCell',and_true,bH];apply hK)
 (refine dz (bI [] [] (by simp) fun K hK=>?_);simp(disch:=omega) only[kc,ab,Nat.reduceAdd,aw,au,aL,ac,Value.oneCell'];apply hK)
 refine oz (G:=mz n) (fun g=>⟨[dU b,.raw (.int .i64 (n:Int)),.raw (.int .i64 (most:Int)),jk,jk,jk,jk,.one (.sl 10 0 0 n),jk,jk,jk,jk,.raw (.int .i64 (n:Int)),.raw (.int .i64 (g.i:Int)),jk,jk,jk,jk,jk,jk,jk,jk,jk,jk,jk,jk,jk,jk,jk,jk,jk,jk,jk],Hm [(10,kI 10 n n g.i (Cm L a most g.i))]⟩) (fun g=>Ai L (j9 L a g.i)) (fun g=>n-g.i) ⟨0,by omega⟩ ?_ rfl ?_
 ·refine aj ⟨?_,trivial⟩ ?_
  ·show[_]=_
   simp[gY,cd]
  ·simp[b9,bo,bj]
 ·rintro⟨i,hi⟩
  simp only
  by_cases hm:i<n
  ·have c1:=ot b L (j9 L a i) most hL (px ha i) hm1 hmm
   have hbl:=iY (n:=most) L (j9 L a i) hm1
   have k1:=nP (i:=i) (n:=n) 10 n hm
   have k2:=iv (i:=i) (n:=n) 10 n hi
   have k3:=bQ i n (Cm L a most i)
   have k4:=kW (i:=i) (n:=n) (c:=n) 10 (Cm L a most i) hm (fun j hj=>by unfold Cm;rw[if_neg (by omega)])
   have k5:=nO (i:=i+1) (k:=i) (n:=n) 10 n (by omega)
   have k6:=iv (i:=i+1) (n:=n) 10 n (by omega)
   have k7:=dE (n:=i+1) n (Cm L a most i) (i:=i) (by omega)
   have k8:=bK (Cm L a most i i) hm
   (refine bI [] [] (by simp) fun K hK=>?_;simp(disch:=omega) only[kc,ab,dU,Hm,ak,ah,bA];apply hK)
   refine dz (bV rfl (fun _=>g9 ?_) (fun h=>by simp at h<;>omega))
   refine dz (d9 ?_)
   (refine bI [] [] (by simp) fun K hK=>?_;simp(disch:=omega) only[kc,ab];apply hK)
   (refine bI [] [] (by simp) fun K hK=>?_;simp(disch:=omega) only[kc,ab,Nat.reduceAdd,bZ,aN,aC,bM,gK,dL,j8,Int.natCast_nonneg,Value.oneCell',and_true,bH,Nat.reduceEqDiff,ag,au,ao,aL,aJ,b7,az,df,bJ,k1,putCells,cP,List.length_replicate,List.all_replicate,isPure,List.length_map,k3,k4,aS,aT,Nat.reduceBEq];apply hK)
   refine f9.weak (aj (tm:=[dU b,.raw (.int .i64 (n:Int)),.raw (.int .i64 (most:Int)),jk,jk,jk,jk,.one (.sl 10 0 0 n),.raw (.int .i64 (i:Int)),jk,jk,jk,.raw (.int .i64 (n:Int)),.raw (.int .i64 (i:Int)),jk,jk,jk,jk,jk,jk,jk,jk,jk,jk,jk,jk,jk,jk,jk,jk,jk,jk,jk]) (l:=[(10,kI 10 n n (i+1) (Cm L a most i))]) ⟨?_,trivial⟩ (by simp[b9,bo,bj])) ?_
   ·first|exact k4|rfl
   ((refine ns bY 7 c1 [] [] (by kernel_rfl) (by kernel_rfl) (by rfl) (by rfl) (by simp) fun K hK=>?_);simp(disch:=omega) only[kc,dU,ab,Nat.reduceAdd,Hm,ag,au,ao,aL,b7,bH,k5,aA,ce,ai,aN,aC,List.find?_cons,aD,aX,CallRes.plain,aF,aH,ap,noRefTV,am,aG,aE,ak,ac,Value.oneCell',ah,bC,bM,k7,dL,az,df,bJ,cb,fI,k8,cellsOf,Nat.le_refl,isPure,putCells,eG,aS,aT];apply hK)
   show f9 _ _ _ _ _ _ _
   ((refine fH [] [] (by simp) fun K hK=>?_);simp(disch:=omega) only[kc,ab,ak,ac,Value.oneCell',ah,bC];apply hK)
   refine⟨⟨i+1,by omega⟩,by simp only;omega,aj ⟨?_,trivial⟩ ?_,rfl⟩
   ·show _::_=_::_
    rw[da fun x y _ _=>D7 L a most i x y]
   ·simp[b9,bo,bj]
  ·have hin:i=n:=by omega
   subst hin
   (refine bI [] [] (by simp) fun K hK=>?_;simp(disch:=omega) only[kc,ab,dU,Hm,ak,ah,bf];apply hK)
   refine dz (bV rfl (fun h=>by simp at h<;>omega) (fun _=>oy ?_))
   show f9 _ _ _ _ _ _ _
   have e:kI 10 i i i (Cm L a most i)=eK 10 i i (gR L a most):=by
    rw[nM]
    show _::_=_::_
    rw[da fun x y hx _=>show Cm L a most i x y=gR L a most x y by unfold Cm;rw[if_pos hx]]
   rw[e]
   (refine bI [] [] (by simp) fun K hK=>?_;simp(disch:=omega) only[kc,ab];apply hK)
   refine oA ⟨.inr rfl,rfl,_,dG.refl _,?_⟩
   refine⟨.one (.sl 10 0 0 i),10,?_,rfl,?_,rfl⟩
   ·simp(disch:=omega) only[bE,Tryz.results66,aP,List.getElem?_cons_succ,List.getElem?_cons_zero]
   ·exact(dY 10 0 _ _ _).symm
theorem Ik (m:Nat):swp (m+1) m km=Dr m:=by
 funext a
 unfold swp Dr mW
 by_cases h1:a=m+1
 ·subst h1;simp
 ·by_cases h2:a=m
  ·subst h2;simp
  ·simp[h1,h2]
def JT (n:Nat) (f:Nat->Nat->Int):Option Ch->TV
 |none=> .tup [(false,[.p (.raw (.slice none 0 0))]),(false,[.p (.raw (.bool false))])]
 |some c=> .tup [(false,[.p (.sl (ls (fR fZ) (cd n n (Iy f c))))]),(false,[.p (.raw (.bool true))])]
structure K4 (n:Nat) (f:Nat->Nat->Int) where
 i:Nat
 hi:i<=n
 h:scanF f n=scanI f (n-i) i
structure K5 (i:Nat) (f:Nat->Nat->Int) where
 k:Nat
 hk:k<=i
 h:scanJ f i i=scanJ f i k
theorem JJ (n:Nat) (f:Nat->Nat->Int) (hn1:1<=n) (hn:n<=8) (hp: ∀k,k<n->0<dk f (k+1)) (hf: ∀i j,i<n->j<n->Sz (f i j) 1024):
  CallC Tryz.prog 62 [ci (cd n n f)] ⟨[],JT n f (scanF f n)⟩:=by
 have hL:=pt n f hn1 (by omega) hf
 have hI:=ru n hn1 (by omega)
 have hml:=bQ n n f
 refine ax Tryz.func62 rfl (by kernel_rfl) ?_;rw[Tryz.ntmps62]
 (refine aa [] fun K hK=>?_;simp(disch:=omega) only[kc,ab,ci,List.replicate,ac,Value.oneCell'];apply hK)
 (refine aa [⟨1,_,_,_,hL⟩] fun K hK=>?_;simp(disch:=omega) only[kc,ci,Kd,ar.a,ab,Nat.reduceAdd,ai,aN,aC,List.find?_cons,aD,aX,CallRes.plain,aF,aH,ap,noRefTV,am,aG,aE,aV,ak];apply hK)
 (refine aa [⟨2,_,_,_,hI⟩] fun K hK=>?_;simp(disch:=omega) only[kc,ar.a,ab,Nat.reduceAdd,aw,au,aZ,aR,hml,ai,aN,aC,List.find?_cons,aD,aX,CallRes.plain,List.isEmpty_cons,aF,aH,ap,Bool.not_false,noRefTV,am,Bool.or_false,aG,aE,dm,aV,ak];apply hK)
 (refine ae (aa [] fun K hK=>?_);simp(disch:=omega) only[kc,ab,Nat.reduceAdd,aw,au,aZ,aR,hml,ac,Value.oneCell'];apply hK)
 refine bD (G:=K4 n f) (fun g=>⟨[ci (cd n n f),jk,jk,jk,kC (wR n f),jk,.one (.sl 18 0 0 n),jk,jk,jk,jk,jk,jk,jk,jk,jk,jk,jk,jk,jk,jk,jk,.raw (.int .i64 (n:Int)),.raw (.int .i64 (g.i:Int)),jk,jk,jk,jk,jk,jk,jk,jk,jk,jk,jk,jk,jk,jk,jk,jk,jk,jk,jk,jk,jk,jk,jk,jk,jk,jk,jk,jk,jk,jk,jk,jk,jk,jk,jk,jk,jk,jk,jk,jk,jk,jk,jk,jk,jk,jk,jk,jk,jk,jk,jk,jk,jk,jk,jk,jk,jk,jk,jk],Hm [(18,gV 18 n n km)]⟩) (fun g=>n-g.i) ⟨0,by omega,rfl⟩ ?_ ?_
 ·refine aj ⟨?_,trivial⟩ ?_
  ·exact gM 0 18 n n _
  ·simp[b9,bo,bj]
 ·rintro⟨i,hi,hsc⟩
  simp only
  by_cases hm:i<n
  ·have hsc2:scanI f (n-i) i=match scanJ f i i with
    |some j=>some (.add i j)
    |none=>if 0<i/\ ¬LovF f i then some (.swp (i-1))else scanI f (n-(i+1)) (i+1):=by
    rw[show n-i=n-(i+1)+1 by omega];rfl
   (refine aa [] fun K hK=>?_;simp(disch:=omega) only[kc,ab,ci,kC,Hm,ak,ah,bA];apply hK)
   refine ae (af rfl (fun _=>aq ?_) (fun h=>by simp at h<;>omega))
   refine ae (aI ?_)
   (refine aa [] fun K hK=>?_;simp(disch:=omega) only[kc,ab];apply hK)
   (refine ae (aa [] fun K hK=>?_);simp(disch:=omega) only[kc,ab,Nat.reduceAdd,ak,ac,Value.oneCell',ah,bC];apply hK)
   refine bD (G:=K5 i f) (fun g=>⟨[ci (cd n n f),jk,jk,jk,kC (wR n f),jk,.one (.sl 18 0 0 n),jk,.raw (.int .i64 (i:Int)),.raw (.int .i64 ((g.k:Int)-1)),jk,jk,jk,jk,jk,jk,jk,jk,jk,jk,jk,jk,.raw (.int .i64 (n:Int)),.raw (.int .i64 (i:Int)),jk,jk,jk,jk,jk,jk,jk,jk,jk,jk,jk,jk,jk,jk,jk,jk,jk,jk,jk,jk,jk,jk,jk,jk,jk,jk,jk,jk,jk,jk,jk,jk,jk,jk,jk,jk,jk,jk,jk,jk,jk,jk,jk,jk,jk,jk,jk,jk,jk,jk,jk,jk,jk,jk,jk,jk,jk,jk,jk],Hm [(18,gV 18 n n km)]⟩) (fun g=>g.k) ⟨i,by omega,rfl⟩ ?_ ?_
   ·refine aj ⟨rfl,trivial⟩ ?_
    simp[b9,bo,bj]
   ·rintro⟨k,hk,hsj⟩
    simp only
    cases k with
    |zero=>
     (refine ae (aa [] fun K hK=>?_);simp(disch:=omega) only[kc,ab,ci,kC,Hm,ak,ac,Value.oneCell',ah,bf];apply hK)
     refine af rfl (fun h=>by simp at h<;>omega) (fun _=>bv ?_)
     show bT _ _ _ _
     have hsj0:scanJ f i i=none:=hsj
     rw[hsj0]at hsc2
     by_cases h0:0<i
     ·have c1:=wX n f i (by omega) hm h0 hf
      by_cases hs:LovF f i
      ·rw[decide_eq_true (show 3*(dd f i*dd f i)<=4*(dd f (i-1)*dd f (i+1)+lam f i (i-1)*lam f i (i-1))from hs)]at c1
       have hnx:scanF f n=scanI f (n-(i+1)) (i+1):=by rw[hsc,hsc2];exact if_neg (by simp[hs])
       (refine aa [⟨6,_,_,_,c1⟩] fun K hK=>?_;simp(disch:=omega) only[kc,ci,kC,ar.a,ab,Nat.reduceAdd,ak,ac,Value.oneCell',ah,bA,aB,ai,aN,aC,List.find?_cons,aD,aX,CallRes.plain,aF,aH,ap,noRefTV,am,aG,aE,bH,bW,dc,aQ];apply hK)
       refine af rfl (fun h=>by simp at h) (fun _=>aq ?_)
       show bT _ _ _ _
       ((refine aU [] [] (by simp) fun K hK=>?_);simp(disch:=omega) only[kc,ab,ak,ac,Value.oneCell',ah,bC];apply hK)
       refine⟨⟨i+1,by omega,hnx⟩,by simp only;omega,aj ⟨rfl,trivial⟩ ?_⟩
       simp[b9,bo,bj]
      ·rw[decide_eq_false (show ¬3*(dd f i*dd f i)<=4*(dd f (i-1)*dd f (i+1)+lam f i (i-1)*lam f i (i-1))from hs)]at c1
       have hnx:scanF f n=some (.swp (i-1)):=by rw[hsc,hsc2];exact if_pos ⟨h0,hs⟩
       rw[hnx]
       have x0:((i:Int)-1).toNat=i-1:=by omega
       have g1:=cX (n:=n) (i:=i) 18 n hm
       have g2:=cX (n:=n) (i:=i-1) 18 n (by omega)
       have g4:((gY 18 (List.replicate n n)).set i [.sl 18 (i-1+1) 0 n])[i-1]?=some [.sl 18 (i-1+1) 0 n]:=by
        rw[List.getElem?_set_ne (by omega),g2]
       (refine aa [⟨6,_,_,_,c1⟩] fun K hK=>?_;simp(disch:=omega) only[kc,ci,kC,ar.a,ab,Nat.reduceAdd,ak,ac,Value.oneCell',ah,bA,aB,ai,aN,aC,List.find?_cons,aD,aX,CallRes.plain,aF,aH,ap,noRefTV,am,aG,aE,bH,bW,dc,Bool.not_false,aQ];apply hK)
       refine af rfl (fun _=>?_) (fun h=>by simp at h)
       (refine bS bY [] [] (by kernel_rfl) (by simp) fun K hK=>?_;simp(disch:=omega) only[kc,ab,Nat.reduceAdd,ak,ac,Value.oneCell',ah,bC,ag,au,ao,x0,aZ,cw,bH,g2,aA,cu,g1,az,df,bJ,putCells,cP,aS,aT,aJ,g4,reduceCtorEq,false_and,List.length_map];apply hK)
       refine bT.weak ((vh 18 (i+1) (i-1+1) (gV 18 n n (swp i (i-1) km)) (vX km hm (by omega) (by omega))).trans (aj (tm:=[jk,jk,jk,jk,jk,jk,.one (.sl 18 0 0 n),jk,jk,jk,jk,jk,jk,jk,jk,jk,jk,jk,jk,jk,jk,jk,jk,jk,jk,jk,jk,jk,jk,jk,jk,jk,jk,jk,jk,jk,jk,jk,jk,jk,jk,jk,jk,jk,jk,jk,jk,jk,jk,jk,jk,jk,jk,jk,jk,jk,jk,jk,jk,jk,jk,jk,jk,jk,jk,jk,jk,jk,jk,jk,jk,jk,jk,jk,jk,jk,jk,jk,jk,jk,jk,jk,jk]) (l:=[(18,gV 18 n n (swp i (i-1) km))]) ⟨rfl,trivial⟩ (by simp[b9,bo,bj,FN,mZ,qO,sw]))) ?_
       rw[show swp i (i-1) km=Dr (i-1) by rw[<- Ik,show i-1+1=i by omega]]
       refine bT.weak ((cQ 18 (jJ rfl)).trans (aj (tm:=[jk,jk,jk,jk,jk,jk,ci (cd n n (Dr (i-1))),jk,jk,jk,jk,jk,jk,jk,jk,jk,jk,jk,jk,jk,jk,jk,jk,jk,jk,jk,jk,jk,jk,jk,jk,jk,jk,jk,jk,jk,jk,jk,jk,jk,jk,jk,jk,jk,jk,jk,jk,jk,jk,jk,jk,jk,jk,jk,jk,jk,jk,jk,jk,jk,jk,jk,jk,jk,jk,jk,jk,jk,jk,jk,jk,jk,jk,jk,jk,jk,jk,jk,jk,jk,jk,jk,jk]) (l:=[]) trivial (by simp[b9,bo,bj];exact(IA (H:=Hm [(18,gV 18 n n (Dr (i-1)))]) (d:=18) (n:=n) (c:=n) (f:=Dr (i-1)) rfl).symm))) ?_
       (refine aa [] fun K hK=>?_;simp(disch:=omega) only[kc,ab,Nat.reduceAdd,ci,Hm,ac,Value.oneCell'];apply hK)
       (refine ay ⟨.inr rfl,aO rfl ?_ rfl⟩;simp(disch:=omega) only[bE,Tryz.results62,cY,aP,List.getElem?_cons_succ,List.getElem?_cons_zero,Option.bind_some,bX,Option.map_some,JT,Iy])
     ·have hi0:i=0:=by omega
      subst hi0
      have hnx:scanF f n=scanI f (n-(0+1)) (0+1):=by rw[hsc,hsc2];exact if_neg (by simp)
      (refine aa [] fun K hK=>?_;simp(disch:=omega) only[kc,ab,Nat.reduceAdd,ak,ac,Value.oneCell',ah,bf,aB,ai,aN,aC,List.find?_nil,aD,bW,Option.map_none,aQ];apply hK)
      refine af rfl (fun h=>by simp at h) (fun _=>aq ?_)
      show bT _ _ _ _
      ((refine aU [] [] (by simp) fun K hK=>?_);simp(disch:=omega) only[kc,ab,ak,ac,Value.oneCell',ah,bC];apply hK)
      refine⟨⟨1,by omega,hnx⟩,by simp only;omega,aj ⟨rfl,trivial⟩ ?_⟩
      simp[b9,bo,bj]
    |succ j=>
     have x1:((j+1:Nat):Int)-1=(j:Int):=by omega
     rw[x1]
     have c1:=Av n f i j (by omega) hm (by omega) hf
     by_cases hs:SizF f i j
     ·rw[decide_eq_true (show 2*((lam f i j).natAbs:Int)<=dd f (j+1)from hs)]at c1
      have hnx:scanJ f i i=scanJ f i j:=by rw[hsj];exact if_pos hs
      (refine ae (aa [] fun K hK=>?_);simp(disch:=omega) only[kc,ab,ci,kC,Hm,ak,ac,Value.oneCell',ah,Int.natCast_nonneg,bA];apply hK)
      refine af rfl (fun _=>aq ?_) (fun h=>by simp at h<;>omega)
      refine ae (aI ?_)
      (refine aa [⟨4,_,_,_,c1⟩] fun K hK=>?_;simp(disch:=omega) only[kc,ci,kC,ar.a,ab,Nat.reduceAdd,ai,aN,aC,List.find?_cons,aD,aX,CallRes.plain,aF,aH,ap,noRefTV,am,aG,aE,bW,ak,dc];apply hK)
      refine af rfl (fun h=>by simp at h) (fun _=>aq ?_)
      show bT _ _ _ _
      ((refine aU [] [] (by simp) fun K hK=>?_);simp(disch:=omega) only[kc,ab,Nat.reduceAdd,ak,ac,Value.oneCell',ah,bC];apply hK)
      refine⟨⟨j,by omega,hnx⟩,by simp only;omega,aj ⟨rfl,trivial⟩ ?_⟩
      simp[b9,bo,bj]
     ·rw[decide_eq_false (show ¬2*((lam f i j).natAbs:Int)<=dd f (j+1)from hs)]at c1
      have hnx:scanJ f i i=some j:=by rw[hsj];exact if_neg hs
      have hnx2:scanF f n=some (.add i j):=by rw[hsc,hsc2,hnx]
      rw[hnx2,show JT n f (some (.add i j))= .tup [(false,[.p (.sl (ls (fR fZ) (cd n n (upd km j i (cF f i j)))))]),(false,[.p (.raw (.bool true))])]from rfl]
      have hdp:0<dd f (j+1):=by rw[jI hp (by omega)];exact hp j (by omega)
      have sl:=zE (n:=n) (i:=i) (j:=j) (by omega) hm (by omega) hf
      have sd:=xp (n:=n) (k:=j+1) (by omega) (by omega) hf
      have d1:=rx n f i j (by omega) hm (by omega) hf
      have d2:=oR n f (j+1) (by omega) (by omega)
      rw[show((j+1:Nat):Int)=(j:Int)+1 by omega]at d2
      have d3:=yL (lam f i j) (dd f (j+1)) hdp (sl.mono (by omega)) (sd.mono (by omega))
      have hnd:=nX (n:=lam f i j) hdp
      have d4:=BP (nN (lam f i j) (dd f (j+1))) (nD (lam f i j) (dd f (j+1))) hnd ((uG sl).mono (by omega)) ((uF sd).mono (by omega))
      rw[KN hdp]at d4
      have sq:Sz (qF (lam f i j) (dd f (j+1))) 67174401:=by
       have h1:=zW (l:=lam f i j) hdp
       have h2:Sz ((lam f i j).natAbs+1:Int) (67174400+1):=Sz.add (sl.le (by omega)) (mr (by omega))
       exact h2.le (by omega)
      have d5:=ER (qF (lam f i j) (dd f (j+1))) (sq.mono (by omega))
      rw[show -(qF (lam f i j) (dd f (j+1)))=cF f i j from rfl]at d5
      have g1:=cX (n:=n) (i:=j) 18 n (by omega)
      have g2:=eY n km (show j<n by omega)
      have g3:=bK (km j) hm
      generalize cF f i j=cc at*
      generalize qF (lam f i j) (dd f (j+1))=qq at*
      generalize nN (lam f i j) (dd f (j+1))=n1 at*
      generalize nD (lam f i j) (dd f (j+1))=n2 at*
      (refine ae (aa [] fun K hK=>?_);simp(disch:=omega) only[kc,ab,ci,kC,Hm,ak,ac,Value.oneCell',ah,Int.natCast_nonneg,bA];apply hK)
      refine af rfl (fun _=>aq ?_) (fun h=>by simp at h<;>omega)
      refine ae (aI ?_)
      (refine aa [⟨4,_,_,_,c1⟩] fun K hK=>?_;simp(disch:=omega) only[kc,ci,kC,ar.a,ab,Nat.reduceAdd,ai,aN,aC,List.find?_cons,aD,aX,CallRes.plain,aF,aH,ap,noRefTV,am,aG,aE,bW,ak,dc,Bool.not_false];apply hK)
      refine af rfl (fun _=>?_) (fun h=>by simp at h)
      (refine bS bY [⟨8,_,_,_,d1⟩,⟨12,_,_,_,d2⟩,⟨13,_,_,_,d3⟩,⟨14,_,_,_,d4⟩,⟨15,_,_,_,d5⟩] [] (by kernel_rfl) (by simp) fun K hK=>?_;simp(disch:=omega) only[kc,ci,tZ,kC,bf,tR,ar.a,ab,Nat.reduceAdd,ag,au,ao,aZ,cw,bH,g1,aA,cu,ai,aN,aC,List.find?_cons,aD,aX,CallRes.plain,aF,aH,ap,noRefTV,am,aG,aE,ak,ac,Value.oneCell',ah,bC,Nat.reduceBEq,isPure,bL,g2,aM,az,df,bJ,cb,fZ,g3,cellsOf,Nat.le_refl,putCells,jO,aS,aT];apply hK)
      refine bT.weak ((aj (tm:=[jk,jk,jk,jk,jk,jk,.one (.sl 18 0 0 n),jk,jk,jk,jk,jk,jk,jk,jk,jk,jk,jk,jk,jk,jk,jk,jk,jk,jk,jk,jk,jk,jk,jk,jk,jk,jk,jk,jk,jk,jk,jk,jk,jk,jk,jk,jk,jk,jk,jk,jk,jk,jk,jk,jk,jk,jk,jk,jk,jk,jk,jk,jk,jk,jk,jk,jk,jk,jk,jk,jk,jk,jk,jk,jk,jk,jk,jk,jk,jk,jk,jk,jk,jk,jk,jk,jk]) (l:=[(18,gV 18 n n (upd km j i cc))]) ⟨rfl,trivial⟩ (by simp[b9,bo,bj])).trans ((cQ 18 (jJ rfl)).trans (aj (tm:=[jk,jk,jk,jk,jk,jk,ci (cd n n (upd km j i cc)),jk,jk,jk,jk,jk,jk,jk,jk,jk,jk,jk,jk,jk,jk,jk,jk,jk,jk,jk,jk,jk,jk,jk,jk,jk,jk,jk,jk,jk,jk,jk,jk,jk,jk,jk,jk,jk,jk,jk,jk,jk,jk,jk,jk,jk,jk,jk,jk,jk,jk,jk,jk,jk,jk,jk,jk,jk,jk,jk,jk,jk,jk,jk,jk,jk,jk,jk,jk,jk,jk,jk,jk,jk,jk,jk,jk]) (l:=[]) trivial (by
       simp[b9,bo,bj]
       exact(IA (H:=Hm [(18,gV 18 n n (upd km j i cc))]) (d:=18) (n:=n) (c:=n) (f:=upd km j i cc) rfl).symm)))) ?_
      (refine aa [] fun K hK=>?_;simp(disch:=omega) only[kc,ab,Nat.reduceAdd,ci,Hm,ac,Value.oneCell'];apply hK)
      (refine ay ⟨.inr rfl,aO rfl ?_ rfl⟩;simp(disch:=omega) only[bE,Tryz.results62,cY,aP,List.getElem?_cons_succ,List.getElem?_cons_zero,Option.bind_some,bX,Option.map_some])
  ·have hin:i=n:=by omega
   subst hin
   have hnx:scanF f i=none:=by rw[hsc,Nat.sub_self];rfl
   rw[hnx]
   (refine aa [] fun K hK=>?_;simp(disch:=omega) only[kc,ab,ci,kC,Hm,ak,ah,bf];apply hK)
   refine ae (af rfl (fun h=>by simp at h<;>omega) (fun _=>bv ?_))
   show bT _ _ _ _
   (refine aa [] fun K hK=>?_;simp(disch:=omega) only[kc,ab,ac,Value.oneCell'];apply hK)
   (refine ay ⟨.inr rfl,aO rfl ?_ rfl⟩;simp(disch:=omega) only[bE,Tryz.results62,cY,aP,List.getElem?_cons_succ,List.getElem?_cons_zero,Option.bind_some,bX,Option.map_some,JT])
def KO (L:List Int) (i k:Nat) (s:(Nat->Nat->Int)×Nat):(Nat->Nat->Int)×Nat:=(upd (upd s.1 i k (Int.tmod (L.getD s.2 0) 3)) k i (Int.tmod (L.getD s.2 0) 3),dq L s.2)
def Gb (L:List Int) (i:Nat) (s:(Nat->Nat->Int)×Nat):Nat->(Nat->Nat->Int)×Nat
 |0=>s
 |k+1=>KO L i k (Gb L i s k)
def oq (L:List Int) (s:(Nat->Nat->Int)×Nat):Nat->(Nat->Nat->Int)×Nat
 |0=>s
 |i+1=>Gb L i (oq L s i) i
theorem zC {L:List Int} {i:Nat} {s:(Nat->Nat->Int)×Nat} (h:s.2<=L.length): ∀k,(Gb L i s k).2<=L.length
 |0=>h
 |k+1=>gy (zC h k)
theorem zB {L:List Int} {s:(Nat->Nat->Int)×Nat} (h:s.2<=L.length): ∀i,(oq L s i).2<=L.length
 |0=>h
 |i+1=>zC (zB h i) i
theorem wM (f:Nat->Nat->Int) (i j:Nat) (v:Int):upd f i j v i j=v:=by simp[upd]
theorem Cy (b:Nat) (L:List Int) (a n:Nat) (hL:I8 L) (ha:a<=L.length) (hn:n<=8):
  gZ Tryz.prog b 45 64 [dU b,.raw (.int .i64 (n:Int))] (Ai L a) ⟨eK 0 n n (oq L (gR L a 6,j9 L a n) n).1,.one (.sl 0 0 0 n)⟩ (Ai L (oq L (gR L a 6,j9 L a n) n).2):=by
 have c0:=kU b L a n 6 hL ha hn (by omega) (by omega)
 rw[show((6:Nat):Int)=6 from rfl]at c0
 have hp0:(gR L a 6,j9 L a n).2<=L.length:=px ha n
 refine rJ Tryz.func64 rfl (by kernel_rfl) ?_;rw[Tryz.ntmps64]
 (refine bI [] [] (by simp) fun K hK=>?_;simp(disch:=omega) only[kc,ab,dU,Nat.reduceAdd,List.replicate,ac,Value.oneCell'];apply hK)
 (refine mE 2 c0 [] [] (by kernel_rfl) (by rfl) (by rfl) (by simp) fun K hK=>?_;simp(disch:=omega) only[kc,dU,ab,Nat.reduceAdd,ai,aN,aC,List.find?_cons,aD,ac,Value.oneCell',aX,CallRes.plain,List.isEmpty_cons,aF,aH,ap,Bool.not_false,noRefTV,am,Bool.or_false,aG,aE,dm];apply hK)
 (refine dz (bI [] [] (by simp) fun K hK=>?_);simp(disch:=omega) only[kc,ab,Nat.reduceAdd,aw,au,aL,ac,Value.oneCell'];apply hK)
 refine oz (G:=mz n) (fun g=>⟨[dU b,jk,jk,jk,jk,.one (.sl 10 0 0 n),jk,jk,jk,jk,jk,jk,.raw (.int .i64 (n:Int)),.raw (.int .i64 (g.i:Int)),jk,jk,jk,jk,jk,jk,jk,jk,jk,jk,jk,jk,jk,jk,jk,jk,jk,jk,jk,jk,jk,jk,jk,jk,jk,jk,jk,jk,jk,jk,jk],Hm [(10,eK 10 n n (oq L (gR L a 6,j9 L a n) g.i).1)]⟩) (fun g=>Ai L (oq L (gR L a 6,j9 L a n) g.i).2) (fun g=>n-g.i) ⟨0,by omega⟩ ?_ rfl ?_
 ·refine aj ⟨?_,trivial⟩ ?_
  ·exact dY 0 10 n n _
  ·simp[b9,bo,bj]
 ·rintro⟨i,hi⟩
  simp only
  have hpi:=zB hp0 i
  by_cases hm:i<n
  ·(refine bI [] [] (by simp) fun K hK=>?_;simp(disch:=omega) only[kc,ab,dU,Hm,ak,ah,bA];apply hK)
   refine dz (bV rfl (fun _=>g9 ?_) (fun h=>by simp at h<;>omega))
   refine dz (d9 ?_)
   (refine bI [] [] (by simp) fun K hK=>?_;simp(disch:=omega) only[kc,ab];apply hK)
   (refine bI [] [] (by simp) fun K hK=>?_;simp(disch:=omega) only[kc,ab,ac,Value.oneCell'];apply hK)
   refine oz (G:=mz i) (fun g=>⟨[dU b,jk,jk,jk,jk,.one (.sl 10 0 0 n),.raw (.int .i64 (i:Int)),.raw (.int .i64 (g.i:Int)),jk,jk,jk,jk,.raw (.int .i64 (n:Int)),.raw (.int .i64 (i:Int)),jk,jk,jk,jk,jk,jk,jk,jk,jk,jk,jk,jk,jk,jk,jk,jk,jk,jk,jk,jk,jk,jk,jk,jk,jk,jk,jk,jk,jk,jk,jk],Hm [(10,eK 10 n n (Gb L i (oq L (gR L a 6,j9 L a n) i) g.i).1)]⟩) (fun g=>Ai L (Gb L i (oq L (gR L a 6,j9 L a n) i) g.i).2) (fun g=>i-g.i) ⟨0,by omega⟩ ?_ rfl ?_
   ·refine aj ⟨rfl,trivial⟩ ?_
    simp[b9,bo,bj]
   ·rintro⟨k,hk⟩
    simp only
    have hpk:=zC (i:=i) hpi k
    by_cases hm2:k<i
    ·have hst:Gb L i (oq L (gR L a 6,j9 L a n) i) (k+1)=KO L i k (Gb L i (oq L (gR L a 6,j9 L a n) i) k):=rfl
     generalize Gb L i (oq L (gR L a 6,j9 L a n) i) k=s at*
     obtain⟨f,p⟩:=s
     simp only at hpk⊢
     have c1:=yJ b L p hL hpk
     have hb:=hL.getD p
     have a1:=cX (n:=n) (i:=i) 10 n hm
     have a2:=cX (n:=n) (i:=k) 10 n (by omega)
     have a3:=dE n f hm
     have a5:=bK (f i) (show k<n by omega)
     have hst2:KO L i k (f,p)=(upd (upd f i k (Int.tmod (L.getD p 0) 3)) k i (Int.tmod (L.getD p 0) 3),dq L p):=rfl
     obtain⟨v,hv⟩: ∃v,Int.tmod (L.getD p 0) 3=v:=⟨_,rfl⟩
     rw[hv]at hst2
     have a6:=dE n (upd f i k v) hm
     have a7:=dE n (upd f i k v) (show k<n by omega)
     have a8:(de n (upd f i k v i))[k]?=some v:=by rw[bK _ (by omega),wM]
     have a9:=bK (upd f i k v k) hm
     (refine dz (bI [] [] (by simp) fun K hK=>?_);simp(disch:=omega) only[kc,ab,Nat.reduceAdd,dU,Hm,ak,ah,bA];apply hK)
     refine bV rfl (fun _=>g9 ?_) (fun h=>by simp at h<;>omega)
     refine dz (d9 ?_)
     (refine yR bY 6 c1 [] [] (by kernel_rfl) (by kernel_rfl) (by rfl) (by rfl) (by simp) fun K hK=>?_;simp(disch:=omega) only[kc,dU,ab,Nat.reduceAdd,ag,au,ao,aL,b7,bH,a1,aA,ce,ai,aN,aC,List.find?_cons,aD,aX,CallRes.plain,aF,aH,ap,noRefTV,am,aG,aE,ak,ac,Value.oneCell',ah,hv,bM,a3,dL,az,df,bJ,cb,fI,a5,cellsOf,Nat.le_refl,isPure,putCells,eG,aS,aT];apply hK)
     ((refine mD bY [] [] (by kernel_rfl) (by simp) fun K hK=>?_);simp(disch:=omega) only[kc,ab,Nat.reduceAdd,ag,au,ao,aL,aJ,cP,b7,bH,a2,aA,ce,a1,bM,a6,dL,cb,fI,a8,fF,a7,az,df,bJ,a9,cellsOf,Nat.le_refl,isPure,putCells,eG,aS,aT];apply hK)
     show f9 _ _ _ _ _ _ _
     ((refine fH [] [] (by simp) fun K hK=>?_);simp(disch:=omega) only[kc,ab,Nat.reduceAdd,ak,ac,Value.oneCell',ah,bC];apply hK)
     refine⟨⟨k+1,by omega⟩,by simp only;omega,aj ⟨?_,trivial⟩ ?_,?_⟩
     ·rw[hst,hst2];rfl
     ·simp[b9,bo,bj]
     ·simp only;rw[hst,hst2]
    ·have hki:k=i:=by omega
     subst hki
     (refine dz (bI [] [] (by simp) fun K hK=>?_);simp(disch:=omega) only[kc,ab,Nat.reduceAdd,dU,Hm,ak,ah,bf];apply hK)
     refine bV rfl (fun h=>by simp at h<;>omega) (fun _=>oy ?_)
     show f9 _ _ _ _ _ _ _
     ((refine fH [] [] (by simp) fun K hK=>?_);simp(disch:=omega) only[kc,ab,ak,ac,Value.oneCell',ah,bC];apply hK)
     refine⟨⟨k+1,by omega⟩,by simp only;omega,aj ⟨rfl,trivial⟩ ?_,rfl⟩
     simp[b9,bo,bj]
  ·have hin:i=n:=by omega
   subst hin
   (refine bI [] [] (by simp) fun K hK=>?_;simp(disch:=omega) only[kc,ab,dU,Hm,ak,ah,bf];apply hK)
   refine dz (bV rfl (fun h=>by simp at h<;>omega) (fun _=>oy ?_))
   show f9 _ _ _ _ _ _ _
   (refine bI [] [] (by simp) fun K hK=>?_;simp(disch:=omega) only[kc,ab];apply hK)
   refine oA ⟨.inr rfl,rfl,_,dG.refl _,?_⟩
   refine⟨.one (.sl 10 0 0 i),10,?_,rfl,?_,rfl⟩
   ·simp(disch:=omega) only[bE,Tryz.results64,aP,List.getElem?_cons_succ,List.getElem?_cons_zero]
   ·exact(dY 10 0 _ _ _).symm
def Gz (fork:Bool) (n i:Nat):Nat:=if fork=true/\i+1=n/\3<n then i-2 else i-1
def jc (fork:Bool) (n:Nat):Nat->Nat->Nat->Int
 |0=>fun _ _=>0
 |i+1=>if i=0 then upd (jc fork n i) i i 2 else upd (upd (upd (jc fork n i) i i 2) i (Gz fork n i) (-1)) (Gz fork n i) i (-1)
theorem DX {fork:Bool} {n i:Nat} (h:0<i):Gz fork n i<i:=by unfold Gz;split<;>omega
theorem mw {f:Nat->Nat->Int} {i j a b:Nat} {v:Int} (h:a≠i\/b≠j):upd f i j v a b=f a b:=by
 unfold upd
 by_cases h1:a=i
 ·subst h1
  have h2:b≠j:=by rcases h with h|h;exact absurd rfl h;exact h
  simp[h2]
 ·simp[h1]
theorem xl (fork:Bool) (n:Nat): ∀i a b,i<=a\/i<=b->jc fork n i a b=0
 |0,_,_,_=>rfl
 |i+1,a,b,h=>by
  have ih:=xl fork n i a b (by omega)
  unfold jc
  split
  ·rw[mw (by omega),ih]
  ·rename_i h0
   have:=DX (fork:=fork) (n:=n) (show 0<i by omega)
   rw[mw (by omega),mw (by omega),mw (by omega),ih]
theorem AG (n:Nat) (fork:Bool) (hn:n<=8):
  CallC Tryz.prog 65 [.raw (.int .i64 (n:Int)),.raw (.bool fork)] ⟨eK 0 n n (jc fork n n),.one (.sl 0 0 0 n)⟩:=by
 refine ax Tryz.func65 rfl (by kernel_rfl) ?_;rw[Tryz.ntmps65]
 (refine aa [] fun K hK=>?_;simp(disch:=omega) only[kc,ab,Nat.reduceAdd,List.replicate,ac,Value.oneCell'];apply hK)
 (refine aa [] fun K hK=>?_;simp(disch:=omega) only[kc,ab,Nat.reduceAdd,bZ,aN,aC,aL,gX,b7,jT,Int.natCast_nonneg,Value.oneCell',and_true,bH];apply hK)
 (refine ae (aa [] fun K hK=>?_);simp(disch:=omega) only[kc,ab,Nat.reduceAdd,aw,au,aL,ac,Value.oneCell'];apply hK)
 refine bD (G:=mz n) (fun g=>⟨[.raw (.int .i64 (n:Int)),.raw (.bool fork),jk,jk,jk,.one (.sl 9 0 0 n),jk,jk,jk,jk,jk,.raw (.int .i64 (n:Int)),.raw (.int .i64 (g.i:Int)),jk,jk,jk,jk,jk,jk,jk,jk,jk,jk,jk,jk,jk,jk,jk,jk,jk,jk,jk,jk,jk,jk,jk,jk,jk,jk,jk,jk,jk,jk,jk,jk,jk,jk,jk,jk,jk,jk,jk,jk,jk,jk,jk,jk],Hm [(9,kI 9 n n g.i (jc fork n g.i))]⟩) (fun g=>n-g.i) ⟨0,by omega⟩ ?_ ?_
 ·refine aj ⟨?_,trivial⟩ ?_
  ·show[_]=_
   simp[gY,cd]
  ·simp[b9,bo,bj]
 ·rintro⟨i,hi⟩
  simp only
  by_cases hm:i<n
  ·have k1:=nP (i:=i) (n:=n) 9 n hm
   have k2:=iv (i:=i) (n:=n) 9 n hi
   have k3:=bQ i n (jc fork n i)
   have k4:=kW (i:=i) (n:=n) (c:=n) 9 (jc fork n i) hm (fun j hj=>xl fork n i i j (by omega))
   have k5:=nO (i:=i+1) (k:=i) (n:=n) 9 n (by omega)
   have k6:=iv (i:=i+1) (n:=n) 9 n (by omega)
   have k7:=dE (n:=i+1) n (jc fork n i) (i:=i) (by omega)
   have k8:=bK (jc fork n i i) hm
   have hstep:jc fork n (i+1)=if i=0 then upd (jc fork n i) i i 2 else upd (upd (upd (jc fork n i) i i 2) i (Gz fork n i) (-1)) (Gz fork n i) i (-1):=rfl
   generalize jc fork n i=f at*
   (refine aa [] fun K hK=>?_;simp(disch:=omega) only[kc,ab,Hm,ak,ah,bA];apply hK)
   refine ae (af rfl (fun _=>aq ?_) (fun h=>by simp at h<;>omega))
   refine ae (aI ?_)
   (refine aa [] fun K hK=>?_;simp(disch:=omega) only[kc,ab];apply hK)
   (refine aa [] fun K hK=>?_;simp(disch:=omega) only[kc,ab,Nat.reduceAdd,bZ,aN,aC,bM,gK,dL,j8,Int.natCast_nonneg,Value.oneCell',and_true,bH,Nat.reduceEqDiff,ag,au,ao,aL,aJ,b7,az,df,bJ,k1,putCells,cP,List.length_replicate,List.all_replicate,isPure,List.length_map,k3,aS,aT,Nat.reduceBEq];apply hK)
   refine bT.weak (aj (tm:=[.raw (.int .i64 (n:Int)),.raw (.bool fork),jk,jk,jk,.one (.sl 9 0 0 n),.raw (.int .i64 (i:Int)),jk,jk,jk,jk,.raw (.int .i64 (n:Int)),.raw (.int .i64 (i:Int)),jk,jk,jk,jk,jk,jk,jk,jk,jk,jk,jk,jk,jk,jk,jk,jk,jk,jk,jk,jk,jk,jk,jk,jk,jk,jk,jk,jk,jk,jk,jk,jk,jk,jk,jk,jk,jk,jk,jk,jk,jk,jk,jk,jk]) (l:=[(9,kI 9 n n (i+1) f)]) ⟨?_,trivial⟩ (by simp[b9,bo,bj])) ?_
   ·first|exact k4|rfl
   (refine aa [] fun K hK=>?_;simp(disch:=omega) only[kc,ab,Nat.reduceAdd,Hm,ag,au,ao,aL,b7,bH,k5,aA,ce,bM,k7,dL,az,df,bJ,cb,fI,k8,ac,Value.oneCell',cellsOf,Nat.le_refl,isPure,putCells,eG,aS,aT];apply hK)
   (refine aa [] fun K hK=>?_;simp(disch:=omega) only[kc,ab,Nat.reduceAdd,ak,ac,Value.oneCell',ah,bC];apply hK)
   obtain⟨kz,hkz⟩: ∃kz:Int,kz=if fork=true/\i+1=n/\3<n then(i:Int)-2 else(i:Int)-1:=⟨_,rfl⟩
   refine ae (iV (S:=⟨[.raw (.int .i64 (n:Int)),.raw (.bool fork),jk,jk,jk,.one (.sl 9 0 0 n),.raw (.int .i64 (i:Int)),.raw (.int .i64 kz),jk,jk,jk,.raw (.int .i64 (n:Int)),.raw (.int .i64 (i:Int)),jk,jk,jk,jk,jk,jk,jk,jk,jk,jk,jk,jk,jk,jk,jk,jk,jk,jk,jk,jk,jk,jk,jk,jk,jk,jk,jk,jk,jk,jk,jk,jk,jk,jk,jk,jk,jk,jk,jk,jk,jk,jk,jk,jk],Hm [(9,kI 9 n n (i+1) (upd f i i 2))]⟩) ?_ ?_)
   ·cases fork with
    |false=>
     rw[if_neg (by simp)]at hkz
     (refine aa [] fun K hK=>?_;simp(disch:=omega) only[kc,ab,Nat.reduceAdd,aB,ak,ac,Value.oneCell',Option.map_none,aQ];apply hK)
     refine af rfl (fun h=>by simp at h) (fun _=>aq ?_)
     show dG _ _
     refine aj ⟨rfl,trivial⟩ ?_
     simp[b9,bo,bj,hkz]
    |true=>
     by_cases h1:i+1=n
     ·by_cases h2:3<n
      ·rw[if_pos ⟨rfl,h1,h2⟩]at hkz
       (refine aa [] fun K hK=>?_;simp(disch:=omega) only[kc,ab,Nat.reduceAdd,aB,ak,ac,Value.oneCell',bH,ah,bC,bA,aQ];apply hK)
       refine af rfl (fun _=>?_) (fun h=>by simp at h<;>omega)
       ((refine aU [] [] (by simp) fun K hK=>?_);simp(disch:=omega) only[kc,ab,Nat.reduceAdd,ak,ac,Value.oneCell',ah,bC];apply hK)
       refine aj ⟨rfl,trivial⟩ ?_
       simp[b9,bo,bj,hkz]
      ·rw[if_neg (by omega)]at hkz
       (refine aa [] fun K hK=>?_;simp(disch:=omega) only[kc,ab,Nat.reduceAdd,aB,ak,ac,Value.oneCell',bH,ah,bC,bA,aQ,bf];apply hK)
       refine af rfl (fun h=>by simp at h<;>omega) (fun _=>aq ?_)
       show dG _ _
       refine aj ⟨rfl,trivial⟩ ?_
       simp[b9,bo,bj,hkz]
     ·rw[if_neg (by omega)]at hkz
      (refine aa [] fun K hK=>?_;simp(disch:=omega) only[kc,ab,Nat.reduceAdd,aB,ak,ac,Value.oneCell',bH,ah,bC,bf,aQ,Option.map_none];apply hK)
      refine af rfl (fun h=>by simp at h<;>omega) (fun _=>aq ?_)
      show dG _ _
      refine aj ⟨rfl,trivial⟩ ?_
      simp[b9,bo,bj,hkz]
   ·by_cases h0:i=0
    ·subst h0
     rw[if_neg (by omega)]at hkz
     rw[if_pos rfl]at hstep
     (refine aa [] fun K hK=>?_;simp(disch:=omega) only[kc,ab,Hm,ak,ac,Value.oneCell',ah,bf];apply hK)
     refine af rfl (fun h=>by simp at h<;>omega) (fun _=>aq ?_)
     show bT _ _ _ _
     ((refine aU [] [] (by simp) fun K hK=>?_);simp(disch:=omega) only[kc,ab,ak,ac,Value.oneCell',ah,bC];apply hK)
     refine⟨⟨1,by omega⟩,by simp only;omega,aj ⟨?_,trivial⟩ ?_⟩
     ·simp only[hstep];rfl
     ·simp[b9,bo,bj]
    ·have hkk:kz=((Gz fork n i:Nat):Int):=by
      rw[hkz];unfold Gz
      split<;>omega
     have hlt:=DX (fork:=fork) (n:=n) (show 0<i by omega)
     rw[if_neg h0]at hstep
     subst hkk
     generalize Gz fork n i=k at*
     generalize upd f i i 2=f2 at*
     have b1:=nO (i:=i+1) (k:=k) (n:=n) 9 n (by omega)
     have b2:=dE (n:=i+1) n f2 (i:=i) (by omega)
     have b3:=bK (f2 i) (show k<n by omega)
     have b4:=dE (n:=i+1) n (upd f2 i k (-1)) (i:=k) (by omega)
     have b5:=bK (upd f2 i k (-1) k) hm
     (refine aa [] fun K hK=>?_;simp(disch:=omega) only[kc,ab,Hm,ak,ac,Value.oneCell',ah,Int.natCast_nonneg,bA];apply hK)
     refine af rfl (fun _=>?_) (fun h=>by simp at h<;>omega)
     ((refine dW bY [] [] (by kernel_rfl) (by simp) fun K hK=>?_);simp(disch:=omega) only[kc,ab,Nat.reduceAdd,ag,au,ao,aL,b7,bH,k5,aA,ce,b1,bM,b2,dL,az,df,bJ,cb,fI,b3,ac,Value.oneCell',cellsOf,Nat.le_refl,isPure,putCells,eG,aS,aT,aJ,cP,b4,b5];apply hK)
     show bT _ _ _ _
     ((refine aU [] [] (by simp) fun K hK=>?_);simp(disch:=omega) only[kc,ab,ak,ac,Value.oneCell',ah,bC];apply hK)
     refine⟨⟨i+1,by omega⟩,by simp only;omega,aj ⟨?_,trivial⟩ ?_⟩
     ·simp only[hstep];rfl
     ·simp[b9,bo,bj]
  ·have hin:i=n:=by omega
   subst hin
   (refine aa [] fun K hK=>?_;simp(disch:=omega) only[kc,ab,Hm,ak,ah,bf];apply hK)
   refine ae (af rfl (fun h=>by simp at h<;>omega) (fun _=>bv ?_))
   show bT _ _ _ _
   rw[nM]
   (refine aa [] fun K hK=>?_;simp(disch:=omega) only[kc,ab];apply hK)
   refine ay ⟨.inr rfl,_,dG.refl _,?_⟩
   refine⟨.one (.sl 9 0 0 i),9,?_,rfl,?_,rfl⟩
   ·simp(disch:=omega) only[bE,Tryz.results65,aP,List.getElem?_cons_succ,List.getElem?_cons_zero]
   ·exact(dY 9 0 _ _ _).symm
def rr (n:Nat) (f:Nat->Nat->Int):Prop:=SymF f n/\yK f n/\detF n f<=10000
theorem Ep (n:Nat) (f:Nat->Nat->Int) (hn1:1<=n) (hn:n<=8) (hf: ∀i j:Nat,pr (f i j)) (r:Bool) (hr:r=true↔rr n f):CallC Tryz.prog 67 [ck (cd n n f)] ⟨[],.raw (.bool r)⟩:=by
 have c1:=Gk n n f hn1 (by omega) hn1 (by omega) (fun i j _ _=>hf i j)
 obtain⟨e,he,c2⟩:=nr n n f hn1 (by omega) hn1 (by omega) (fun i j _ _=>(hf i j).sz (by omega))
 by_cases h1:e=0
 ·obtain⟨_,_,hs,hp⟩:=he.1 h1
  subst h1
  have c3:=gF n f hn1 (by omega) (fun i j _ _=>(hf i j).sz (by omega))
  have c4:=gB 10000 (by omega) (by omega)
  have c5:=tV (detF n f) 10000 ((kT (n:=n) (by omega) (fun i j _ _=>(hf i j).sz (by omega))).mono (by omega)) (mq (by decide) (by omega))
  have hle:=vy (detF n f) 10000
  have hrr:r=decide (detF n f<=10000):=by
   cases r with
   |true=>have:=(hr.1 rfl).2.2;simp[this]
   |false=>
    have: ¬detF n f<=10000:=fun h=>by have:=hr.2 ⟨hs,hp,h⟩;cases this
    simp[this]
  rw[hrr]
  generalize detF n f=d at*
  refine ax Tryz.func67 rfl (by kernel_rfl) ?_;rw[Tryz.ntmps67]
  (refine aa [] fun K hK=>?_;simp(disch:=omega) only[kc,ab,ck,List.replicate,ac,Value.oneCell'];apply hK)
  (refine aa [⟨1,_,_,_,c1⟩] fun K hK=>?_;simp(disch:=omega) only[kc,ck,ci,ar.a,ab,Nat.reduceAdd,ai,aN,aC,List.find?_cons,aD,aX,CallRes.plain,aF,aH,ap,noRefTV,am,aG,aE];apply hK)
  (refine aa [⟨1,_,_,_,c2⟩,⟨5,_,_,_,c3⟩,⟨6,_,_,_,c4⟩,⟨7,_,_,_,c5⟩] fun K hK=>?_;simp(disch:=omega) only[kc,ci,tZ,bf,ar.a,ab,Nat.reduceAdd,ai,aN,aC,List.find?_cons,aD,aX,CallRes.plain,aF,aH,ap,noRefTV,am,aG,aE,ak,ac,Value.oneCell',ah,bA,aB,Nat.reduceBEq,bH,isPure,hle,aQ];apply hK)
  (refine ay ⟨.inr rfl,aO rfl ?_ rfl⟩;simp(disch:=omega) only[bE,Tryz.results67,aP,List.getElem?_cons_succ,List.getElem?_cons_zero])
 ·have hr0:r=false:=by
   cases r with
   |false=>rfl
   |true=>have:=hr.1 rfl;exact absurd (he.2 ⟨rfl,hn,this.1,this.2.1⟩) h1
  subst hr0
  refine ax Tryz.func67 rfl (by kernel_rfl) ?_;rw[Tryz.ntmps67]
  (refine aa [] fun K hK=>?_;simp(disch:=omega) only[kc,ab,ck,List.replicate,ac,Value.oneCell'];apply hK)
  (refine aa [⟨1,_,_,_,c1⟩] fun K hK=>?_;simp(disch:=omega) only[kc,ck,ci,ar.a,ab,Nat.reduceAdd,ai,aN,aC,List.find?_cons,aD,aX,CallRes.plain,aF,aH,ap,noRefTV,am,aG,aE];apply hK)
  (refine aa [⟨1,_,_,_,c2⟩] fun K hK=>?_;simp(disch:=omega) only[kc,ci,ar.a,ab,Nat.reduceAdd,ai,aN,aC,List.find?_cons,aD,aX,CallRes.plain,aF,aH,ap,noRefTV,am,aG,aE,ak,ac,Value.oneCell',ah,bf,aB,Nat.reduceBEq,List.find?_nil,Option.map_none,aQ];apply hK)
  (refine ay ⟨.inr rfl,aO rfl ?_ rfl⟩;simp(disch:=omega) only[bE,Tryz.results67,aP,List.getElem?_cons_succ,List.getElem?_cons_zero])
end Go.Proofs.YtpgghglbpcabkaaGreat
