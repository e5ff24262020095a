/-
  Part 9 of a proof (walks and plain facts).
-/
import Derived.Test.YtfgeomlagfomgaaDoorP07
set_option linter.all false
set_option maxRecDepth 100000
set_option maxHeartbeats 64000000
open Nat renaming le_refl → ac
open List renaming mem_of_getElem? → au
open Nat renaming le_trans → ay
open Nat renaming mul_le_mul_left → az
namespace Go.Proofs.YtfgeomlagfomgaaDoor
open Go.RowKit
def iu (rows:List (List Int)) (x:List Int):Bool:=bD rows&&FitB rows.length x
theorem m7 (A B:Option Addr) (c d:Nat) (rows:List (List Int)) (x:List Int) (w:World) (hR:nM .i64 w A rows) (hx:RdI .i64 w B x) (lr:rows.length<=9223372036854775807) (hc:rows.length<=c) (lx:x.length<=9223372036854775807):
  Calls Tryd.prog 33 #[.slice A rows.length c,.slice B x.length d] w fun e w'=>e= .returned (.bool (iu rows x))/\Ext w w':=by
 have HR:=Lib.hid hR;have HX:=Lib.hid hx;clear hR hx;cases hI:bD rows with
 |false=>
  have HV:Hid (iu rows x=false):=Lib.hid (by simp[iu,hI])
  go_enter Tryd.func33,Tryd.ntmps33
  go_wp2_with (go_at_call 13;refine(ij A c rows _ HR.out lr hc).mono ?_;rintro e w1 ⟨rfl,he⟩)
  go_ret
  exact⟨dA HV.out.symm,he⟩
 |true=>
  have HV:Hid (iu rows x=FitB rows.length x):=Lib.hid (by simp[iu,hI])
  go_enter Tryd.func33,Tryd.ntmps33
  go_wp2_with (first|(go_at_call 13;refine(ij A c rows _ HR.out lr hc).mono ?_;rintro e w1 ⟨rfl,he⟩;have HE:=Lib.hid he;clear he)|(go_at_call 34;refine(lF rows.length B d x _ (HX.out.ext HE.out) lx).mono ?_;rintro e w2 ⟨rfl,rfl⟩))
  go_ret
  exact⟨dA HV.out.symm,HE.out⟩
def fK (rows:List (List Int)) (x y:List Int):Value:=
 if iu rows x=true/\FitB rows.length y=true then oN (eg x (cg rows y) x.length)else .tuple #[.int .i64 0,.bool false]
theorem qT (A B C:Option Addr) (c d d':Nat) (rows:List (List Int)) (x y:List Int) (w:World) (hR:nM .i64 w A rows) (hx:RdI .i64 w B x) (hy:RdI .i64 w C y) (lr:rows.length<=9223372036854775807) (hc:rows.length<=c) (lx:x.length<=9223372036854775807) (ly:y.length<=9223372036854775807):
  Calls Tryd.prog 15 #[.slice A rows.length c,.slice B x.length d,.slice C y.length d'] w fun e w'=>e= .returned (fK rows x y)/\Ext w w':=by
 have HR:=Lib.hid hR;have HX:=Lib.hid hx;have HY:=Lib.hid hy;clear hR hx hy;cases hI:iu rows x with
 |false=>
  have HV:Hid (fK rows x y= .tuple #[.int .i64 0,.bool false]):=Lib.hid (by unfold fK;rw[if_neg (by simp[hI])])
  go_enter Tryd.func15,Tryd.ntmps15
  go_wp2_with (go_at_call 33;refine(m7 A B c d rows x _ HR.out HX.out lr hc lx).mono ?_;rintro e w1 ⟨rfl,he⟩)
  go_ret2
  exact⟨by rw[HV.out];rfl,he⟩
 |true=>
  cases hF:FitB rows.length y with
  |false=>
   have HV:Hid (fK rows x y= .tuple #[.int .i64 0,.bool false]):=Lib.hid (by unfold fK;rw[if_neg (by simp[hF])])
   go_enter Tryd.func15,Tryd.ntmps15
   go_wp2_with (first|(go_at_call 33;refine(m7 A B c d rows x _ HR.out HX.out lr hc lx).mono ?_;rintro e w1 ⟨rfl,he⟩;have HE:=Lib.hid he;clear he)|(go_at_call 34;refine(lF rows.length C d' y _ (HY.out.ext HE.out) ly).mono ?_;rintro e w2 ⟨rfl,rfl⟩))
   go_ret2
   exact⟨by rw[HV.out];rfl,HE.out⟩
  |true=>
   have HV:Hid (fK rows x y=oN (eg x (cg rows y) x.length)):=Lib.hid (by unfold fK;rw[if_pos ⟨hI,hF⟩]);have hI':=hI;unfold iu at hI';rw[Bool.and_eq_true,fo]at hI';obtain⟨hr,hxl,hxb⟩:=hI';have hs:=dS hr;have h8:rows.length<=8:=hs.2.1;obtain⟨hyl,hyb⟩:=fo.1 hF;have hxle:x.length<=rows.length:=by omega
   have hxge:rows.length<=x.length:=by omega
   have hyge:rows.length<=y.length:=by omega
   have HS:=Lib.hid hs;have HYB:=Lib.hid hyb;have HXB:=Lib.hid hxb;have HA:=Lib.hid (qH hs hyb);have HAL:=Lib.hid (ig rows y);clear hr hxl hs hyl hyb hxb
   go_enter Tryd.func15,Tryd.ntmps15
   go_wp2_with (first|(go_at_call 33;refine(m7 A B c d rows x _ HR.out HX.out lr hc lx).mono ?_;rintro e w1 ⟨rfl,he⟩;have HE:=Lib.hid he;clear he)|(go_at_call 34;refine(lF rows.length C d' y _ (HY.out.ext HE.out) ly).mono ?_;rintro e w2 ⟨rfl,rfl⟩))
   refine(qI A C c d' rows y _ (HR.out.ext HE.out) (HY.out.ext HE.out) (by omega) (fun i hi=>by rw[HS.out.2.2.1 i hi];exact hyge) ly).mono ?_;rintro e w2 ⟨rfl,hrd,he2⟩;have HE2:=Lib.hid (HE.out.trans he2);have HRD:=Lib.hid hrd;clear hrd he2
   go_wp2_with fail
   have hcon:=xT B (some ⟨w1.heap.size,0,none⟩) d rows.length x (cg rows y) w2 (HX.out.ext HE2.out) HRD.out (by rw[HAL.out];exact hxle) (by omega) (by rw[HAL.out];omega) (fun i z hz=>iP HXB.out hz) HA.out;rw[HAL.out]at hcon;refine hcon.mono ?_;rintro e w3 ⟨rfl,he3⟩;have HE3:=Lib.hid (HE2.out.trans he3);clear he3 hcon;have HD:Hid (∃a b,oN (eg x (cg rows y) x.length)= .tuple #[a,b]):=Lib.hid (by unfold oN;split<;>exact⟨_,_,rfl⟩);obtain⟨va,vb,hd⟩:=HD.out;rw[hd];have HDD:=Lib.hid hd;clear hd
   go_wp2_with fail
   go_ret2
   exact⟨by rw[HV.out,HDD.out];rfl,HE3.out⟩
theorem Ci (A B:Option Addr) (c d:Nat) (rows:List (List Int)) (x:List Int) (w:World) (hR:nM .i64 w A rows) (hx:RdI .i64 w B x) (lr:rows.length<=9223372036854775807) (hc:rows.length<=c) (lx:x.length<=9223372036854775807):
  Calls Tryd.prog 32 #[.slice A rows.length c,.slice B x.length d] w fun e w'=>e= .returned (fK rows x x)/\Ext w w':=by
 have HD:Hid (∃a b,fK rows x x= .tuple #[a,b]):=Lib.hid (by unfold fK oN;split<;>(try split)<;>exact⟨_,_,rfl⟩);have hcon:=qT A B B c d d rows x x w hR hx hx lr hc lx lx;obtain⟨va,vb,hd⟩:=HD.out;rw[hd]at hcon;rw[hd];have HC:=Lib.hid hcon;clear hcon hd HD
 go_enter Tryd.func32,Tryd.ntmps32
 go_wp2_with (go_at_call 15;refine HC.out.mono ?_;rintro e w1 ⟨rfl,he⟩)
 go_ret2
 exact⟨rfl,he⟩
def GB (z:Int):Prop:= -9223372036854775808<=z/\z<=9223372036854775807
theorem GB.sz {z:Int} (h:GB z) {k:Nat} (hk:2<=k):Sz z k:=by
 have:Sz z 2:=by
  unfold Sz;have:=h.1;have:=h.2;rw[show(4294967296:Nat)^2=18446744073709551616 by decide];omega
 exact this.mono hk
def MI (M:List (List Int)):Prop:= ∀r∈M,∀z∈r,GB z
theorem MI.ent {M:List (List Int)} (h:MI M) (i j:Nat):GB (ent M i j):=by
 simp only[Go.Proofs.YtfgeomlagfomgaaDoor.ent,List.getD_eq_getElem?_getD];cases hr:M[i]? with
 |none=>simp[GB]
 |some r=>
  simp only[Option.getD_some];cases hz:r[j]? with
  |none=>simp[GB]
  |some z=>exact h r (au hr) z (au hz)
theorem Ic {n c:Nat} {f:FF} (hn:1<=n):Sq (bL n c f)↔n=c:=by
 unfold Sq;rw[aU];have e: ∀i,i<n->((bL n c f).getD i []).length=c:=fun i hi=>by
  rw[List.getD_eq_getElem?_getD,bq _ _ hi,Option.getD_some,bA]
 exact⟨fun h=>by rw[<- e 0 (by omega),h 0 (by omega)],fun h i hi=>by rw[e i hi,h]⟩
theorem oo {f g:FF} {n:Nat} (h: ∀i j,i<n->j<n->f i j=g i j) (hf:dZ f n):dZ g n:=by
 obtain⟨h1,h2,h3,h4⟩:=hf;have ed: ∀k,k<=n->dk g k=dk f k:=fun k hk=>gh fun i j hi hj=>(h i j (by omega) (by omega)).symm
 have eb: ∀t i,t<n->i<n->bk g t i t=bk f t i t:=fun t i ht hi=>by
  have e1:dk (nJ g i t) (t+1)=bk g t i t:=v7 (fun r c hr hc=>by unfold nJ;rw[if_pos hr]) (fun c hc=>by unfold nJ;rw[if_neg (by omega)]);have e2:dk (nJ f i t) (t+1)=bk f t i t:=v7 (fun r c hr hc=>by unfold nJ;rw[if_pos hr]) (fun c hc=>by unfold nJ;rw[if_neg (by omega)]);rw[<- e1,<- e2];refine gh fun r c hr hc=>?_
  unfold nJ;split
  ·exact(h r c (by omega) (by omega)).symm
  exact(h i c hi (by omega)).symm
 refine⟨fun i hi j hj=>by rw[<- h i j hi hj,<- h j i hj hi];exact h1 i hi j hj,fun k hk=>by rw[ed (k+1) (by omega)];exact h2 k hk,by rw[ed n (by omega)];exact h3,fun t ht=>⟨fun i hi hti=>?_,?_⟩⟩
 ·have:=(h4 t ht).1 i hi hti;rw[ed (t+1) (by omega),eb t i (by omega) hi];exact this
 have:=(h4 t ht).2;unfold DW at*
 rw[ed (t+1) (by omega),ed t (by omega),ed (t+1+1) (by omega),eb t (t+1) (by omega) (by omega)];exact this
theorem tj {n c:Nat} {f:FF} (hn1:1<=n):GE (bL n c f)↔n=c/\n<=8/\dZ f n:=by
 unfold GE;rw[aU,Ic hn1];constructor
 ·rintro⟨_,h8,rfl,hr⟩;exact⟨rfl,h8,oo (fun i j hi hj=>nO f hi hj) hr⟩
 rintro⟨rfl,h8,hr⟩;exact⟨hn1,h8,rfl,oo (fun i j hi hj=>(nO f hi hj).symm) hr⟩
abbrev mq (l:List Int):TV:= .one (.p (.sl (ls fI l)))
abbrev Jt (n c:Nat) (f:FF) (y:List Int):List Int:=bz n fun i=>eg (bz c (f i)) y c
abbrev Au (v:Int) (b:Bool):TV:= .tup [(false,[.p (.raw (.int .i64 v))]),(false,[.p (.raw (.bool b))])]
def It (z:Int):TV:=if -4611686018427387904<=z/\z<=4611686018427387904 then Au z true else Au 0 false
def zw (M:List (List Int)) (x y:List Int):TV:=if iu M x=true/\FitB M.length y=true then It (eg x (cg M y) x.length)else Au 0 false
theorem vR {n:Nat} {f:FF} {y:List Int} (hr:bD (bL n n f)=true) (hy:AF y=true):cg (bL n n f) y=Jt n n f y:=by
 have hs:=dS hr;have h8:=hs.2.1;rw[aU]at h8;apply List.ext_getElem?;intro i;rw[cg,List.getElem?_map];by_cases hi:i<n
 ·rw[bq _ _ hi,aX _ hi];simp only[Option.map_some,bA];exact congrArg some (kD (hs.row_bd (bq _ _ hi)) (fun i z hz=>iP hy hz) n h8).1
 rw[List.getElem?_eq_none (by rw[aU];omega),List.getElem?_eq_none (by rw[bA];omega)];rfl
theorem oX (M:List (List Int)) (x y:List Int): ∃v b,zw M x y=Au v b/\fK M x y= .tuple #[.int .i64 v,.bool b]:=by
 unfold zw fK;split
 ·unfold It oN;split
  ·exact⟨_,_,rfl,rfl⟩
  exact⟨_,_,rfl,rfl⟩
 exact⟨_,_,rfl,rfl⟩
def cR (n d:Int):List AV:=[.p (.raw (.bool (decide (n<0)))),.p (.sl (ls fU (aP n.natAbs))),.p (.raw (.bool (decide (d<0)))),.p (.sl (ls fU (aP d.natAbs)))]
def qF (l d:Int):Int:=(2*l+d)/(2*d)
def trF (f:FF):Nat->Nat->Int:=fun a b=>f b a
def idF:Nat->Nat->Int:=fun a b=>if a=b then 1 else 0
def Ac (i:Nat):Nat->Nat->Int:=fun a b=>if a<i/\a=b then 1 else 0
theorem Cz (i a b:Nat):upd (Ac i) i i 1 a b=Ac (i+1) a b:=by
 unfold upd Ac;by_cases h1:a=i
 ·subst h1;by_cases h2:b=a
  ·subst h2;simp
  simp[h2,Ne.symm h2]
 have:a<i+1↔a<i:=by omega
 simp[h1,this]
theorem Fd {n:Nat} (a b:Nat) (ha:a<n):Ac n a b=idF a b:=by unfold Ac idF;simp[ha]
def uI (k:Nat) (f g:FF):Nat->Nat->Int:=fun i j=>eg (bz k (f i)) (bz k (trF g j)) k
def cngF (n:Nat) (h t:FF):Nat->Nat->Int:=uI n (uI n (trF t) h) t
def bu (F:Nat->Int):Nat->Int
 |0=>0
 |k+1=>bu F k+F k
theorem aF {F G:Nat->Int}: ∀k,(∀p,p<k->F p=G p)->bu F k=bu G k
 |0,_=>rfl
 |k+1,h=>by rw[bu,bu,aF k (fun p hp=>h p (by omega)),h k (by omega)]
theorem gW (F G:Nat->Int): ∀k,bu (fun p=>F p+G p) k=bu F k+bu G k
 |0=>rfl
 |k+1=>by rw[bu,bu,bu,gW F G k];omega
theorem cO: ∀k,bu (fun _=>0) k=0
 |0=>rfl
 |k+1=>by rw[bu,cO k];rfl
theorem fm {F:Nat->Int} {a:Nat}: ∀{k},a<k->(∀p,p<k->p≠a->F p=0)->bu F k=F a
 |k+1,h,h0=>by
  by_cases e:a=k
  ·subst e;rw[bu,aF a (G:=fun _=>0) (fun p hp=>h0 p (by omega) (by omega)),cO];omega
  rw[bu,fm (show a<k by omega) (fun p hp hn=>h0 p (by omega) hn),h0 k (by omega) (by omega)];omega
theorem lj {k:Nat} (x y:Nat->Int): ∀l,l<=k->eg (bz k x) (bz k y) l=bu (fun p=>x p*y p) l
 |0,_=>rfl
 |l+1,h=>by
  show eg (bz k x) (bz k y) l+(bz k x).getD l 0*(bz k y).getD l 0=_;rw[lj x y l (by omega),List.getD_eq_getElem?_getD,List.getD_eq_getElem?_getD,aX _ (by omega),aX _ (by omega)];rfl
theorem lO (k:Nat) (f g:FF) (i j:Nat):uI k f g i j=bu (fun p=>f i p*g p j) k:=lj _ _ k (ac _)
def ID (i j:Nat) (c:Int):Nat->Nat->Int:=upd idF j i c
def JF (m:Nat):Nat->Nat->Int:=fun a=>idF (kv m a)
theorem yu (m a:Nat):kv m (kv m a)=a:=by
 unfold kv;by_cases h1:a=m
 ·subst h1;simp
 by_cases h2:a=m+1
 ·subst h2;simp
 simp[h1,h2]
theorem GI {i j:Nat} {c:Int} (hji:j≠i) (p b:Nat):ID i j c p b=idF p b+(if p=j then(if b=i then c else 0)else 0):=by
 unfold ID upd idF;by_cases h1:p=j
 ·subst h1;by_cases h2:b=i
  ·subst h2;simp[hji]
  simp[h2]
 simp[h1]
theorem Dd {n:Nat} {y:Nat->Int} {b:Nat} (hb:b<n):bu (fun p=>y p*idF p b) n=y b:=by
 rw[fm hb (fun p hp hn=>by simp[idF,hn])];simp[idF]
theorem Hn {n i j:Nat} {c:Int} (hji:j≠i) (hj:j<n) (x:FF) (a b:Nat) (hb:b<n):uI n x (ID i j c) a b=x a b+(if b=i then c*x a j else 0):=by
 rw[lO,aF n (G:=fun p=>x a p*idF p b+x a p*(if p=j then(if b=i then c else 0)else 0)) (fun p _=>by rw[GI hji,Int.mul_add]),gW,Dd hb]
 congr 1
 rw[fm hj (fun p _ hn=>by simp[hn])];by_cases h:b=i
 ·simp[h,Int.mul_comm]
 simp[h]
theorem ED (m p b:Nat):idF (kv m p) b=idF p (kv m b):=by
 unfold idF;have:kv m p=b↔p=kv m b:=⟨fun h=>by rw[<- h,yu],fun h=>by rw[h,yu]⟩;simp only[this]
theorem Ho {n m:Nat} (hm:m+1<n) (x:FF) (a b:Nat) (hb:b<n):uI n x (JF m) a b=x a (kv m b):=by
 rw[lO,aF n (G:=fun p=>x a p*idF p (kv m b)) (fun p _=>by rw[<- ED];rfl),Dd (kZ hm hb)]
/-! Which change is made. -/
inductive Ch where
 |add (i j:Nat)
 |swp (m:Nat)
instance (f:FF) (i j:Nat):Decidable (ia f i j):=by unfold ia;exact inferInstance
instance (f:FF) (i:Nat):Decidable (kz f i):=by unfold kz;exact inferInstance
def rt (f:FF) (i:Nat):Nat->Option Nat
 |0=>none
 |j+1=>if ia f i j then rt f i j else some j
def rr (f:FF):Nat->Nat->Option Ch
 |0,_=>none
 |m+1,i=>match rt f i i with
  |some j=>some (.add i j)
  |none=>if 0<i/\ ¬kz f i then some (.swp (i-1))else rr f m (i+1)
def iJ (f:FF) (n:Nat):Option Ch:=rr f n 0
theorem ji {f:FF} {i:Nat}: ∀{k},rt f i k=none-> ∀j,j<k->ia f i j
 |k+1,h,j,hj=>by
  unfold rt at h;split at h
  ·rename_i hs;by_cases e:j=k
   ·subst e;exact hs
   exact ji h j (by omega)
  cases h
theorem pQ {f:FF} {i j:Nat}: ∀{k},rt f i k=some j->j<k/\ ¬ia f i j/\ ∀j',j<j'->j'<k->ia f i j'
 |k+1,h=>by
  unfold rt at h;split at h
  ·rename_i hs;obtain⟨h1,h2,h3⟩:=pQ h;refine⟨by omega,h2,fun j' g1 g2=>?_⟩;by_cases e:j'=k
   ·subst e;exact hs
   exact h3 j' g1 (by omega)
  rename_i hs;injection h with h
  subst h;exact⟨by omega,hs,fun j' g1 g2=>by omega⟩
def nj (f:FF) (i:Nat):Prop:=(∀j,j<i->ia f i j)/\(0<i->kz f i)
theorem pO {f:FF}: ∀{m i},rr f m i=none-> ∀i',i<=i'->i'<i+m->nj f i'
 |0,i,_,i',h1,h2=>by omega
 |m+1,i,h,i',h1,h2=>by
  unfold rr at h;split at h
  ·cases h
  rename_i hj;split at h
  ·cases h
  rename_i hl;by_cases e:i'=i
  ·subst e;exact⟨ji hj,fun h0=>by
    by_cases hL:kz f i'
    ·exact hL
    exact absurd ⟨h0,hL⟩ hl⟩
  exact pO h i' (by omega) (by omega)
def I3 (f:FF):Ch->Prop
 | .add i j=>j<i/\ ¬ia f i j/\(∀j',j<j'->j'<i->ia f i j')/\ ∀i',i'<i->nj f i'
 | .swp m=> ¬kz f (m+1)/\(∀j,j<m+1->ia f (m+1) j)/\ ∀i',i'<m+1->nj f i'
def xH:Ch->Nat
 | .add i _=>i
 | .swp m=>m+1
theorem pP {f:FF} {c:Ch}: ∀{m i},(∀i',i'<i->nj f i')->rr f m i=some c->I3 f c/\xH c<i+m
 |m+1,i,hi,h=>by
  unfold rr at h;split at h
  ·rename_i j hj;injection h with h
   subst h;obtain⟨h1,h2,h3⟩:=pQ hj;exact⟨⟨h1,h2,h3,hi⟩,by simp[xH]⟩
  rename_i hj;split at h
  ·rename_i hl;injection h with h
   subst h;have e:i-1+1=i:=by omega
   refine⟨⟨by rw[e];exact hl.2,by rw[e];exact ji hj,by rw[e];exact hi⟩,by simp[xH];omega⟩
  rename_i hl;have:=pP (m:=m) (i:=i+1) (fun i' h'=>by
   by_cases e:i'=i
   ·subst e;exact⟨ji hj,fun h0=>by
     by_cases hL:kz f i'
     ·exact hL
     exact absurd ⟨h0,hL⟩ hl⟩
   exact hi i' (by omega)) h
  exact⟨this.1,by omega⟩
theorem jh {f:FF} {n:Nat} {c:Ch} (h:iJ f n=some c):I3 f c/\xH c<n:=by
 have:=pP (f:=f) (m:=n) (i:=0) (fun i' h=>by omega) h;exact⟨this.1,by omega⟩
theorem wZ {f:FF} {n:Nat} (h:iJ f n=none):IA f n:=fun i hi=>pO (m:=n) (i:=0) h i (by omega) (by omega)
def qb (i:Nat):Nat:=i*(i-1)/2
def uU:Ch->Nat
 | .add i j=>qb i+(i-1-j)
 | .swp m=>qb (m+2)
theorem iM (i:Nat):qb (i+1)=qb i+i:=by
 unfold qb;cases i with
 |zero=>rfl
 |succ i=>
  rw[Nat.add_sub_cancel,Nat.add_sub_cancel];have:(i+1+1)*(i+1)=(i+1)*i+2*(i+1):=by rw[Nat.add_mul,Nat.one_mul,Nat.mul_add,Nat.mul_add,Nat.add_mul];omega
  rw[this,Nat.add_mul_div_left _ _ (by omega)]
theorem f6 {i j:Nat} (h:i<=j):qb i<=qb j:=by
 induction j with
 |zero=>have:i=0:=(by omega);subst this;exact ac _
 |succ j ih=>
  by_cases e:i=j+1
  ·subst e;exact ac _
  have:=ih (by omega);rw[iM];omega
def rankF (f:FF) (n:Nat):Nat:=match iJ f n with
 |some c=>uU c
 |none=>qb n
theorem pC (f:FF) (n:Nat):rankF f n<=qb n:=by
 unfold rankF;split
 ·rename_i c hc;obtain⟨h1,h2⟩:=jh hc;cases c with
  |add i j=>
   have h2:i<n:=h2;have:=f6 (show i+1<=n by omega);rw[iM]at this;obtain⟨h1,_⟩:=h1;simp only[uU];omega
  |swp m=>
   have h2:m+1<n:=h2;exact f6 (show m+2<=n by omega)
 exact ac _
theorem Fg {f:FF} {n i j:Nat} (hj:j<i) (hi:i<n) (h1: ∀i',i'<i->nj f i') (h2: ∀j',j<=j'->j'<i->ia f i j'):qb i+(i-1-j)<rankF f n:=by
 have hni:=f6 (show i+1<=n by omega);rw[iM]at hni;unfold rankF;split
 ·rename_i c hc;obtain⟨g1,g2⟩:=jh hc;cases c with
  |add i' j'=>
   obtain⟨a1,a2,a3,a4⟩:=g1;simp only[uU];rcases Nat.lt_trichotomy i' i with h|h|h
   ·exact absurd ((h1 i' h).1 j' a1) a2
   ·subst h;by_cases e:j<=j'
    ·exact absurd (h2 j' e a1) a2
    omega
   have:=f6 (show i+1<=i' by omega);rw[iM]at this;omega
  |swp m=>
   obtain⟨a1,a2,a3⟩:=g1;simp only[uU];by_cases h:m+1<i
   ·exact absurd ((h1 (m+1) h).2 (by omega)) a1
   have:=f6 (show i+1<=m+2 by omega);rw[iM]at this;omega
 omega
section
theorem tG {B:Nat} {d1 d0 x y u v:Int} (h1:0<d1) (h0:d0.natAbs<=B) (h:d1*x=d0*y+u*v):x.natAbs<=B*y.natAbs+u.natAbs*v.natAbs:=by
 have e1:d1.natAbs*x.natAbs=(d0*y+u*v).natAbs:=by rw[<- Int.natAbs_mul,h]
 have e2:=Int.natAbs_add_le (d0*y) (u*v);rw[Int.natAbs_mul,Int.natAbs_mul]at e2;have e3:d0.natAbs*y.natAbs<=B*y.natAbs:=Nat.mul_le_mul_right _ h0;have e4:x.natAbs<=d1.natAbs*x.natAbs:=Nat.le_mul_of_pos_left _ (by omega);omega
theorem Cg {d1 d0 x y l:Int} (h1:0<d1) (h0:0<d0) (hx:0<x) (hy:0<y) (h:d1*x=d0*y+l*l):d1.natAbs*x.natAbs=d0.natAbs*y.natAbs+l.natAbs*l.natAbs:=by
 apply Int.ofNat_inj.1;rw[Int.natCast_add,Int.natCast_mul,Int.natCast_mul,Int.natCast_mul,Int.natAbs_of_nonneg (by omega),Int.natAbs_of_nonneg (by omega),Int.natAbs_of_nonneg (by omega),Int.natAbs_of_nonneg (by omega),Int.natAbs_mul_self',h]
structure Def (f:FF) (n B:Nat):Prop where
 sym:SymF f n
 pos: ∀t,t<n->0<dk f (t+1)
 le: ∀k,k<=n->(dk f k).natAbs<=B
section
variable {f:FF} {n B:Nat}
theorem Def.ne (h:Def f n B): ∀t,t<n->dk f (t+1)≠0:=fun t ht=>by have:=h.pos t ht;omega
theorem Def.pos0 (h:Def f n B) {k:Nat} (hk:k<=n):0<dk f k:=by
 cases k with
 |zero=>rw[cY];omega
 |succ k=>exact h.pos k (by omega)
theorem Def.sylv (h:Def f n B) {k a b:Nat} (hk:k<n) (ha:a<n) (hb:b<n):dk f (k+1)*bk f k a b=dk f k*bk f (k+1) a b+bk f k a k*bk f k b k:=by
 have s:=Go.Proofs.YtfgeomlagfomgaaDoor.sylv f k (fun t ht=>h.ne t (by omega)) a b;rw[jz h.sym k (by omega) (fun t ht=>h.ne t (by omega)) k b hk hb]at s;omega
theorem Def.diag (h:Def f n B) {a:Nat} (ha:a<n): ∀m k,a-k=m->k<=a->0<bk f k a a
 |0,k,hm,hk=>by
  have:k=a:=by omega
  subst this;rw[<- bK];exact h.pos k ha
 |m+1,k,hm,hk=>by
  have ih:=h.diag ha m (k+1) (by omega) (by omega);have s:=h.sylv (k:=k) (by omega) ha ha;have p1:=h.pos k (by omega);have p0:=h.pos0 (k:=k) (by omega);have q1:=Int.mul_pos p0 ih;have q2:0<=bk f k a k*bk f k a k:=by
   rcases Int.le_total 0 (bk f k a k)with h|h
   ·exact Int.mul_nonneg h h
   exact Int.mul_nonneg_of_nonpos_of_nonpos h h
  rcases Int.lt_or_le 0 (bk f k a a)with h|h
  ·exact h
  have:=Int.mul_nonpos_of_nonneg_of_nonpos (Int.le_of_lt p1) h;omega
theorem Def.down (h:Def f n B) {a k:Nat} (ha:a<n) (hk:k<a):(bk f k a k).natAbs*(bk f k a k).natAbs<=B*(bk f k a a).natAbs/\(bk f (k+1) a a).natAbs<=B*(bk f k a a).natAbs:=by
 have s:=Cg (h.pos k (by omega)) (h.pos0 (k:=k) (by omega)) (h.diag ha _ k rfl (by omega)) (h.diag ha _ (k+1) rfl (by omega)) (h.sylv (k:=k) (by omega) ha ha);have hB:=Nat.mul_le_mul_right (bk f k a a).natAbs (h.le (k+1) (by omega));have p0:=h.pos0 (k:=k) (by omega);have:=Nat.le_mul_of_pos_left (bk f (k+1) a a).natAbs (show 0<(dk f k).natAbs by omega);omega
theorem Def.nm (h:Def f n B) {a:Nat} (ha:a<n): ∀k,k<=a->(bk f k a a).natAbs<=B^k*(f a a).natAbs
 |0,_=>by rw[cP];simp
 |k+1,hk=>by
  have h1:=(h.down ha (show k<a by omega)).2;have h2:=az B (h.nm ha k (by omega));rw[Nat.pow_succ,Nat.mul_comm (B^k) B,Nat.mul_assoc];omega
theorem Def.lam_le (h:Def f n B) {a k C:Nat} (ha:a<n) (hk:k<a) (hB:1<=B) (hC:(f a a).natAbs<=C):(bk f k a k).natAbs<=B^n*C:=by
 have h1:=(h.down ha hk).1;have h2:=az B (h.nm ha k (by omega));have h3:(bk f k a k).natAbs<=(bk f k a k).natAbs*(bk f k a k).natAbs:=Nat.le_mul_self _;have h4:B*(B^k*(f a a).natAbs)=B^(k+1)*(f a a).natAbs:=by rw[Nat.pow_succ,Nat.mul_comm (B^k) B,Nat.mul_assoc]
 have h5:B^(k+1)<=B^n:=Nat.pow_le_pow_right hB (by omega);have h6:B^(k+1)*(f a a).natAbs<=B^n*C:=Nat.mul_le_mul h5 hC;omega
theorem Def.up (h:Def f n B) {a L:Nat} (ha:a<n) (hL: ∀k,k<a->(bk f k a k).natAbs<=L): ∀m k,a-k=m->k<=a->(bk f k a a).natAbs<=(B+L*L)*(B+1)^m
 |0,k,hm,hk=>by
  have:k=a:=by omega
  subst this;rw[<- bK];have:=h.le (k+1) (by omega)
  simp;omega
 |m+1,k,hm,hk=>by
  have ih:=h.up ha hL m (k+1) (by omega) (by omega);have s:=tG (h.pos k (by omega)) (h.le k (by omega)) (h.sylv (k:=k) (by omega) ha ha);have hl:=hL k (by omega);have h2:=Nat.mul_le_mul hl hl;have h3:=az B ih;have h4:L*L<=(B+L*L)*(B+1)^m:=ay (by omega) (Nat.le_mul_of_pos_right _ (Nat.pow_pos (by omega)));rw[Nat.pow_succ,<- Nat.mul_assoc,Nat.mul_add,Nat.mul_one,Nat.mul_comm _ B];omega
theorem Def.norm_le (h:Def f n B) {a L:Nat} (ha:a<n) (hL: ∀k,k<a->(bk f k a k).natAbs<=L):(f a a).natAbs<=(B+L*L)*(B+1)^n:=by
 have h1:=h.up ha hL a 0 rfl (by omega);rw[cP]at h1;exact ay h1 (az _ (Nat.pow_le_pow_right (by omega) (by omega)))
theorem Def.ent_up (h:Def f n B) {a b L:Nat} (ha:a<n) (hb:b<a) (hL: ∀a k,a<n->k<a->(bk f k a k).natAbs<=L): ∀m k,b-k=m->k<=b->(bk f k a b).natAbs<=(L+L*L)*(B+1)^m
 |0,k,hm,hk=>by
  have:k=b:=by omega
  subst this;have:=hL a k ha hb
  simp;omega
 |m+1,k,hm,hk=>by
  have ih:=h.ent_up ha hb hL m (k+1) (by omega) (by omega);have s:=tG (h.pos k (by omega)) (h.le k (by omega)) (h.sylv (k:=k) (a:=a) (b:=b) (by omega) ha (by omega));have h2:=Nat.mul_le_mul (hL a k ha (by omega)) (hL b k (by omega) (by omega));have h3:=az B ih;have h4:L*L<=(L+L*L)*(B+1)^m:=ay (by omega) (Nat.le_mul_of_pos_right _ (Nat.pow_pos (by omega)));rw[Nat.pow_succ,<- Nat.mul_assoc,Nat.mul_add,Nat.mul_one,Nat.mul_comm _ B];omega
theorem Def.ent_le (h:Def f n B) {L:Nat} (hL: ∀a k,a<n->k<a->(bk f k a k).natAbs<=L) {a b:Nat} (ha:a<n) (hb:b<n):(f a b).natAbs<=(B+L+L*L)*(B+1)^n:=by
 have key: ∀a b,a<n->b<a->(f a b).natAbs<=(B+L+L*L)*(B+1)^n:=fun a b ha hb=>by
  have h1:=h.ent_up ha hb hL b 0 rfl (by omega);rw[cP]at h1;refine ay h1 (Nat.mul_le_mul (by omega) (Nat.pow_le_pow_right (by omega) (by omega)))
 rcases Nat.lt_trichotomy a b with h'|h'|h'
 ·rw[h.sym a ha b hb];exact key b a hb h'
 ·subst h';have h1:=h.norm_le ha (fun k hk=>hL a k ha hk);exact ay h1 (Nat.mul_le_mul_right _ (by omega))
 exact key a b ha h'
end
/-! The numbers of the reduction. -/
section
variable {f:FF} {n B:Nat}
def cN (n B:Nat):Nat:=(B+B*B)*(B+1)^n
def l0 (n B:Nat):Nat:=B^n*cN n B
theorem pW (h:Def f n B) {i j:Nat} (hi:i<n) (hj:j<i):ia f i j↔2*((bk f j i j).natAbs:Int)<=dk f (j+1):=by
 rw[ia,kP h.pos (by omega),iB h.pos (by omega)]
theorem wH (h:Def f n B) {i:Nat} (hi:i<n) (h0:0<i):kz f i↔3*(dk f i*dk f i)<=4*(dk f (i-1)*dk f (i+1)+bk f (i-1) i (i-1)*bk f (i-1) i (i-1)):=by
 rw[kz,kP h.pos (by omega),iB h.pos (by omega),iB h.pos (by omega),iB h.pos (by omega)]
theorem w9 (h:Def f n B) {i j:Nat} (hi:i<n) (hj:j<i) (hs:ia f i j):(bk f j i j).natAbs<=B:=by
 have h1:=(pW h hi hj).1 hs;have h2:=h.le (j+1) (by omega);omega
theorem mW (h:Def f n B) {i:Nat} (hi:i<n) (hs: ∀j,j<i->ia f i j):(f i i).natAbs<=cN n B:=h.norm_le hi fun k hk=>w9 h hi hk (hs k hk)
def Jn (f:FF) (n B:Nat):Prop:=(∀a,a<n->(f a a).natAbs<=cN n B)\/
 ∃i,i<n/\(∀a,a<n->a≠i->(f a a).natAbs<=cN n B)/\(∀i',i'<i->nj f i')/\ ∃s,s<=i/\(∀j',s<=j'->j'<i->ia f i j')/\ ∀k,k<i->(bk f k i k).natAbs+2<=(l0 n B+2)*(B+2)^(i-s)
def lM (n B:Nat):Nat:=(l0 n B+2)*(B+2)^n
theorem Jn.lam (h:Def f n B) (hB:1<=B) (hj:Jn f n B): ∀a k,a<n->k<a->(bk f k a k).natAbs<=lM n B:=by
 have h1:l0 n B<=lM n B:=ay (by omega) (Nat.le_mul_of_pos_right _ (Nat.pow_pos (by omega)));have h2: ∀e,e<=n->(l0 n B+2)*(B+2)^e<=lM n B:=fun e he=>az _ (Nat.pow_le_pow_right (by omega) he)
 rcases hj with hj|⟨i,hi,hj,_,s,hs,_,hl⟩
 ·exact fun a k ha hk=>ay (h.lam_le ha hk hB (hj a ha)) h1
 intro a k ha hk;by_cases e:a=i
 ·subst e;have:=hl k hk;have:=h2 (a-s) (by omega);omega
 exact ay (h.lam_le ha hk hB (hj a ha e)) h1
def eN (n B:Nat):Nat:=(B+lM n B+lM n B*lM n B)*(B+1)^n
theorem Jn.ent (h:Def f n B) (hB:1<=B) (hj:Jn f n B) {a b:Nat} (ha:a<n) (hb:b<n):(f a b).natAbs<=eN n B:=h.ent_le (hj.lam h hB) ha hb
end
end
section
theorem Fe {l d:Int} (hd:0<d):2*((l+ -(qF l d)*d).natAbs:Int)<=d:=by
 unfold qF;have h1:=Int.emod_add_mul_ediv (2*l+d) (2*d);have h2:=Int.emod_nonneg (2*l+d) (show 2*d≠0 by omega);have h3:=Int.emod_lt_of_pos (2*l+d) (show 0<2*d by omega);generalize(2*l+d)/(2*d)=q at*
 have e:2*d*q=2*(q*d):=by rw[Int.mul_assoc,Int.mul_comm d q]
 rw[e]at h1;have e2: -q*d= -(q*d):=Int.neg_mul q d;rw[e2];omega
theorem CB {l d:Int} (hd:0<d):(qF l d).natAbs<=l.natAbs+1:=by
 unfold qF;have h1:=Int.emod_add_mul_ediv (2*l+d) (2*d);have h2:=Int.emod_nonneg (2*l+d) (show 2*d≠0 by omega);have h3:=Int.emod_lt_of_pos (2*l+d) (show 0<2*d by omega);generalize(2*l+d)/(2*d)=q at*
 have e:2*d*q=2*(d*q):=Int.mul_assoc 2 d q;rw[e]at h1;have e2:(d*q).natAbs=d.natAbs*q.natAbs:=Int.natAbs_mul d q;have e3:l.natAbs<=d.natAbs*l.natAbs:=Nat.le_mul_of_pos_left _ (by omega);rcases Nat.lt_or_ge (l.natAbs+1) q.natAbs with h|h
 ·exfalso;have h4:=az d.natAbs (show l.natAbs+2<=q.natAbs by omega);rw[Nat.mul_add]at h4;omega
 exact h
section
variable {f:FF} {n B:Nat}
theorem Bb (hs:SymF f n) {i j:Nat} (c:Int) (hj:j<n):SymF (dG f i j c) n:=fun a ha b hb=>by
 by_cases hab:a=b
 ·subst hab;rfl
 unfold dG;rw[hs a ha b hb];by_cases h1:a=i
 ·by_cases h2:b=i
  ·omega
  simp only[h1,h2,if_true,if_false];rw[hs j hj b hb];omega
 by_cases h2:b=i
 ·simp only[h1,h2,if_true,if_false];rw[hs a ha j hj];omega
 simp only[h1,h2,if_false]
theorem Def.add (h:Def f n B) {i j:Nat} (c:Int) (hji:j<i) (hi:i<n):Def (dG f i j c) n B:=by
 obtain⟨h1,_⟩:=gf h.sym h.ne c hji hi;exact⟨Bb h.sym c (by omega),fun t ht=>by rw[h1 (t+1) (by omega)];exact h.pos t ht,fun k hk=>by rw[h1 k hk];exact h.le k hk⟩
theorem rn (h:Def f n B) {i j:Nat} (c:Int) (hji:j<i) (hi:i<n) {i':Nat} (hi':i'<i) (hr:nj f i'):nj (dG f i j c) i':=by
 have h':=h.add c hji hi;obtain⟨h1,h2,h3⟩:=gf h.sym h.ne c hji hi;have hb: ∀k,k<i'->bk (dG f i j c) k i' k=bk f k i' k:=fun k hk=>by
  by_cases e:k<=j
  ·rw[h2 k i' k e,oA (by omega) (by omega)]
  exact h3 k i' k (by omega) (by omega) (by omega) (by omega)
 refine⟨fun k hk=>?_,fun h0=>?_⟩
 ·rw[pW h' (by omega) hk,hb k hk,h1 _ (by omega)];exact(pW h (by omega) hk).1 (hr.1 k hk)
 rw[wH h' (by omega) h0,hb _ (by omega),h1 _ (by omega),h1 _ (by omega),h1 _ (by omega)];exact(wH h (by omega) h0).1 (hr.2 h0)
def cF (f:FF) (i j:Nat):Int:= -(qF (lam f i j) (dd f (j+1)))
theorem Bo (h:Def f n B) {i j:Nat} (hj:j<n):cF f i j= -(qF (bk f j i j) (dk f (j+1))):=by rw[cF,kP h.pos hj,iB h.pos (by omega)]
theorem sY (h:Def f n B) {i j:Nat} (hji:j<i) (hi:i<n) {j':Nat} (h1:j<=j') (h2:j'<i) (hs:j<j'->ia f i j'):ia (dG f i j (cF f i j)) i j':=by
 have h':=h.add (cF f i j) hji hi;obtain⟨g1,g2,g3⟩:=gf h.sym h.ne (cF f i j) hji hi;rw[pW h' hi h2,g1 _ (by omega)];by_cases e:j'=j
 ·subst e;rw[g2 j' i j' (by omega)];have:dG (bk f j') i j' (cF f i j') i j'=bk f j' i j'+cF f i j'*dk f (j'+1):=by
   unfold dG;have hn: ¬j'=i:=by omega
   simp only[if_true,hn,if_false];rw[bK];omega
  rw[this,Bo h (by omega)];exact Fe (h.pos j' (by omega))
 rw[g3 j' i j' (by omega) (by omega) hi (by omega)];exact(pW h hi h2).1 (hs (by omega))
theorem GD (h:Def f n B) (hB:1<=B) (hJ:Jn f n B) {i j:Nat} (hF:I3 f (.add i j)) (hi:i<n):Jn (dG f i j (cF f i j)) n B:=by
 obtain⟨hji,hns,hs,hr⟩:=hF;obtain⟨g1,g2,g3⟩:=gf h.sym h.ne (cF f i j) hji hi;have hoff: ∀a,a≠i->dG f i j (cF f i j) a a=f a a:=fun a ha=>oA ha ha
 -- the new lambdas of row i
 have hnew: ∀M:Nat,(∀k,k<i->(bk f k i k).natAbs+2<=M)-> ∀k,k<i->(bk (dG f i j (cF f i j)) k i k).natAbs+2<=M*(B+2):=fun M hM k hk=>by
  have hMk:=hM k hk;have hMj:=hM j hji;have e0:M*(B+2)=M*B+2*M:=by rw[Nat.mul_add,Nat.mul_comm M 2]
  rcases Nat.lt_trichotomy k j with e|e|e
  ·rw[g2 k i k (by omega)];have e1:dG (bk f k) i j (cF f i j) i k=bk f k i k+cF f i j*bk f k j k:=by
    unfold dG;have hn: ¬k=i:=by omega
    simp only[if_true,hn,if_false];omega
   rw[e1];have a1:=Int.natAbs_add_le (bk f k i k) (cF f i j*bk f k j k);rw[Int.natAbs_mul]at a1;have a2:(cF f i j).natAbs<=(bk f j i j).natAbs+1:=by rw[Bo h (by omega),Int.natAbs_neg];exact CB (h.pos j (by omega))
   have a3:(bk f k j k).natAbs<=B:=w9 h (by omega) e ((hr j hji).1 k e);have a4:=Nat.mul_le_mul (show(cF f i j).natAbs<=M by omega) a3;omega
  ·subst e;have hz:=sY h hji hi (ac k) hk (fun h=>by omega);have:=w9 (h.add (cF f i k) hji hi) hi hk hz;have:B<=M*B:=Nat.le_mul_of_pos_left _ (by omega);omega
  rw[g3 k i k (by omega) (by omega) hi (by omega)];have:0<=M*B:=Nat.zero_le _;omega
 have hfin: ∀M e:Nat,1<=e->e<=i-j->M*(B+2)<=(l0 n B+2)*(B+2)^e->(∀a,a<n->a≠i->(f a a).natAbs<=cN n B)->(∀k,k<i->(bk f k i k).natAbs+2<=M)->Jn (dG f i j (cF f i j)) n B:=fun M e he1 he2 hMe hA hM=>by
  refine .inr ⟨i,hi,fun a ha hne=>by rw[hoff a hne];exact hA a ha hne,fun i' hi'=>rn h _ hji hi hi' (hr i' hi'),j,by omega,fun j' h1 h2=>sY h hji hi h1 h2 (fun h3=>hs j' h3 h2),fun k hk=>?_⟩;refine ay (hnew M hM k hk) (ay hMe (az _ (Nat.pow_le_pow_right (by omega) he2)))
 rcases hJ with hA|⟨i1,hi1,hA,hr1,s,hs1,hs2,hl⟩
 ·refine hfin (l0 n B+2) 1 (by omega) (by omega) (by rw[Nat.pow_one];exact ac _) (fun a ha _=>hA a ha) (fun k hk=>?_);have:(bk f k i k).natAbs<=l0 n B:=h.lam_le hi hk hB (hA i hi);omega
 by_cases e:i1=i
 ·subst e;have hjs:j<s:=by
   rcases Nat.lt_or_ge j s with h'|h'
   ·exact h'
   exact absurd (hs2 j h' hji) hns
  refine hfin ((l0 n B+2)*(B+2)^(i1-s)) (i1-s+1) (by omega) (by omega) (by rw[Nat.pow_succ,Nat.mul_assoc];exact ac _) hA hl
 have hall:(f i1 i1).natAbs<=cN n B:=by
  rcases Nat.lt_or_ge i1 i with h'|h'
  ·exact mW h hi1 (hr i1 h').1
  exact absurd ((hr1 i (by omega)).1 j hji) hns
 have hA': ∀a,a<n->(f a a).natAbs<=cN n B:=fun a ha=>by
  by_cases e':a=i1
  ·subst e';exact hall
  exact hA a ha e'
 refine hfin (l0 n B+2) 1 (by omega) (by omega) (by rw[Nat.pow_one];exact ac _) (fun a ha _=>hA' a ha) (fun k hk=>?_);have:(bk f k i k).natAbs<=l0 n B:=h.lam_le hi hk hB (hA' i hi);omega
theorem rz (h:Def f n B) {m:Nat} (hm:m+1<n) (hl: ¬kz f (m+1)):4*dk (gG f m) (m+1)<3*dk f (m+1)/\0<dk (gG f m) (m+1):=by
 obtain⟨h1,h2⟩:=qa h.sym h.pos hm;refine⟨?_,h2⟩;have h3: ¬3*(dk f (m+1)*dk f (m+1))<=4*(dk f m*dk f (m+2)+bk f m (m+1) m*bk f m (m+1) m):=fun hh=>hl ((wH h hm (by omega)).2 hh)
 rw[<- h1]at h3;have p:=h.pos m (by omega);rcases Int.lt_or_le (4*dk (gG f m) (m+1)) (3*dk f (m+1))with h4|h4
 ·exact h4
 exfalso;have h5:=Int.mul_le_mul_of_nonneg_left h4 (Int.le_of_lt p);have e1:dk f (m+1)*(3*dk f (m+1))=3*(dk f (m+1)*dk f (m+1)):=Int.mul_left_comm _ _ _;have e2:dk f (m+1)*(4*dk (gG f m) (m+1))=4*(dk f (m+1)*dk (gG f m) (m+1)):=Int.mul_left_comm _ _ _;omega
theorem Def.swap (h:Def f n B) {m:Nat} (hm:m+1<n) (hl: ¬kz f (m+1)):Def (gG f m) n B:=by
 obtain⟨h1,_⟩:=jV h.sym h.pos hm;obtain⟨g1,g2⟩:=rz h hm hl;have p:=h.pos m (by omega);refine⟨fun a ha b hb=>h.sym _ (kZ hm ha) _ (kZ hm hb),fun t ht=>?_,fun k hk=>?_⟩
 ·by_cases e:t=m
  ·subst e;exact g2
  rw[h1 (t+1) (by omega) (by omega)];exact h.pos t ht
 by_cases e:k=m+1
 ·subst e;have:=h.le (m+1) hk;omega
 rw[h1 k hk e];exact h.le k hk
theorem DV (h:Def f n B) (hJ:Jn f n B) {m:Nat} (hF:I3 f (.swp m)) (hm:m+1<n):Jn (gG f m) n B:=by
 obtain⟨hnl,hs,hr⟩:=hF;have hA: ∀a,a<n->(f a a).natAbs<=cN n B:=by
  rcases hJ with hA|⟨i,hi,hA,hr1,_⟩
  ·exact hA
  intro a ha;by_cases e:a=i
  ·subst e;rcases Nat.lt_trichotomy a (m+1)with h'|h'|h'
   ·exact mW h ha (hr a h').1
   ·subst h';exact mW h ha hs
   exact absurd ((hr1 (m+1) h').2 (by omega)) hnl
  exact hA a ha e
 exact .inl fun a ha=>hA _ (kZ hm ha)
def prD (f:FF):Nat->Nat
 |0=>1
 |k+1=>prD f k*(dk f (k+1)).natAbs
theorem mR {g:FF}: ∀k,(∀t,t<k->dk g (t+1)=dk f (t+1))->prD g k=prD f k
 |0,_=>rfl
 |k+1,h=>by rw[prD,prD,mR k (fun t ht=>h t (by omega)),h k (by omega)]
theorem yo (h:Def f n B): ∀k,k<=n->0<prD f k
 |0,_=>by simp[prD]
 |k+1,hk=>by
  have:=h.pos k (by omega);exact Nat.mul_pos (yo h k (by omega)) (by omega)
theorem Cy (h:Def f n B): ∀k,k<=n->prD f k<=B^k
 |0,_=>by simp[prD]
 |k+1,hk=>by rw[prD,Nat.pow_succ];exact Nat.mul_le_mul (Cy h k (by omega)) (h.le (k+1) hk)
theorem uR (h:Def f n B) {m:Nat} (hm:m+1<n) (hl: ¬kz f (m+1)): ∀k,m<k->k<=n->4*prD (gG f m) k<=3*prD f k
 |k+1,hk,hkn=>by
  obtain⟨h1,_⟩:=jV h.sym h.pos hm;obtain⟨g1,g2⟩:=rz h hm hl;have p:=h.pos m (by omega);rw[prD,prD];by_cases e:k=m
  ·subst e;rw[mR k (fun t ht=>h1 (t+1) (by omega) (by omega)),Nat.mul_left_comm,Nat.mul_left_comm 3];exact az _ (by omega)
  have ih:=uR h hm hl k (by omega) (by omega);rw[h1 (k+1) hkn (by omega),<- Nat.mul_assoc,<- Nat.mul_assoc];exact Nat.mul_le_mul_right _ ih
end
/-! Bounds of the minors of a matrix of small entries. -/
theorem BZ {E:Nat} {r:Nat->Int} (hr: ∀c,(r c).natAbs<=E) {M:Nat}: ∀(cs:List Nat) (N:Nat) (F:List Nat->Int),cs.length<=N->(∀l,l.length<=N->(F l).natAbs<=M)->(ce r F cs).natAbs<=cs.length*(E*M)
 |[],_,_,_,_=>by simp[ce]
 |c::cs,N,F,hN,hF=>by
  rw[ce];have h1:=Int.natAbs_sub_le (r c*F cs) (ce r (fun l=>F (c::l)) cs);have h2:=BZ hr cs (N-1) (fun l=>F (c::l)) (by simp at hN;omega) (fun l hl=>hF (c::l) (by simp at hN⊢;omega));rw[Int.natAbs_mul]at h1;have h3:=Nat.mul_le_mul (hr c) (hF cs (by simp at hN;omega));rw[List.length_cons,Nat.add_mul,Nat.one_mul];omega
theorem Gm {E L:Nat} {f:FF} (hf: ∀a b,(f a b).natAbs<=E): ∀k l,l.length<=L->(om f k l).natAbs<=(L*E)^k
 |0,l,_=>by simp[om]
 |k+1,l,hl=>by
  rw[om];have:=BZ (hf k) l L (om f k) hl (fun l hl=>Gm hf k l hl);have h2:l.length*(E*(L*E)^k)<=L*(E*(L*E)^k):=Nat.mul_le_mul_right _ hl;rw[Nat.pow_succ,Nat.mul_comm ((L*E)^k),Nat.mul_assoc];exact ay this h2
theorem xN: ∀k,(i7 k).length=k
 |0=>rfl
 |k+1=>by rw[i7,List.length_cons,xN k]
abbrev bB:Nat:=722204136308736
theorem G3 {E L:Nat} (h1:1<=L*E) {f:FF} (hf: ∀a b,(f a b).natAbs<=E) {k:Nat} (hk:k<=L):(dk f k).natAbs<=(L*E)^L:=
 ay (Gm hf k (i7 k) (by rw[xN];exact hk)) (Nat.pow_le_pow_right h1 hk)
theorem IJ {f:FF} (hf: ∀a b,(f a b).natAbs<=9) {k:Nat} (hk:k<=8):(dk f k).natAbs<=bB:=by
 have h1:=G3 (L:=8) (by decide) hf hk;have h3:((8*9:Nat))^8=bB:=by decide
 rwa[h3]at h1
end
section
def JW (f:FF):Ch->Nat->Nat->Int
 | .add i j=>dG f i j (cF f i j)
 | .swp m=>gG f m
def JX (f:FF):Ch->Nat->Nat->Int
 | .add i j=>ID i j (cF f i j)
 | .swp m=>JF m
inductive Iq (n:Nat):(Nat->Nat->Int)->(Nat->Nat->Int)->(Nat->Nat->Int)->(Nat->Nat->Int)->Prop
 |done (f t:FF) (h:iJ f n=none):Iq n f t f t
 |step (f t h T:FF) (c:Ch) (hc:iJ f n=some c) (hr:Iq n (JW f c) (uI n t (JX f c)) h T):Iq n f t h T
structure AE (N B S Z:Nat):Prop where
 n8:N<=8
 b1:9<=B
 lMs: ∀n,n<N+1->lM n B+1<4294967296^Z
 eNs: ∀n,n<N+1->eN n B<4294967296^400
 pt: ¬4^S<=3^S*B^N
 sz:(Z+4)*(28*S+28)+1<=16000000
 z4:Z<=400
structure RedI (N B Z n:Nat) (f0 f t:FF) (s adds:Nat):Prop where
 dfn:Def f n B
 jn:Jn f n B
 det:dk f n=dk f0 n
 pot:4^s*prD f n<=3^s*B^N
 cnt:adds<=28*s+rankF f n
 szt: ∀a b,a<n->b<n->Sz (t a b) (1+(Z+4)*adds)
theorem JT:AE 8 bB 970 41:=⟨by decide,by decide,by decide+kernel,by decide+kernel,by decide+kernel,by decide,by decide⟩
theorem xf {n:Nat} (h:n<=8):qb n<=28:=ay (f6 h) (by decide)
theorem Fc {C:Nat} (K:Nat) (hK: ¬4^K<=3^K*C) (s:Nat) (hs:K<=s) (h1:4^s<=3^s*C):False:=by
 obtain⟨r,rfl⟩: ∃r,s=K+r:=⟨s-K,by omega⟩;rw[Nat.pow_add,Nat.pow_add]at h1;have h2:3^K*3^r*C<=3^K*C*4^r:=by
  rw[Nat.mul_assoc,Nat.mul_comm (3^r),<- Nat.mul_assoc];exact az _ (Nat.pow_le_pow_left (by omega) r)
 exact hK (Nat.le_of_mul_le_mul_right (ay h1 h2) (Nat.pow_pos (by omega)))
section
variable {N B S Z:Nat} {n:Nat} {f0 f t:FF} {s adds:Nat}
theorem RedI.s_le (k:AE N B S Z) (h:RedI N B Z n f0 f t s adds):s<S:=by
 rcases Nat.lt_or_ge s S with hs|hs
 ·exact hs
 exfalso;have p1:=yo h.dfn n (ac _);have h1:4^s<=3^s*B^N:=ay (Nat.le_mul_of_pos_right _ p1) h.pot;exact Fc S k.pt s hs h1
theorem RedI.szc (k:AE N B S Z) (h:RedI N B Z n f0 f t s adds) (hn:n<=N) {i j:Nat} (hi:i<n) (hj:j<i):Sz (cF f i j) Z:=by
 rw[Bo h.dfn (by omega)];have h1:=CB (l:=bk f j i j) (h.dfn.pos j (by omega));have h2:=h.jn.lam h.dfn (ay (by decide) k.b1) i j hi hj;have h3:=k.lMs n (by omega);unfold Sz;rw[Int.natAbs_neg];generalize 4294967296^Z=p at*
 omega
theorem Al {c:Ch} (h:iJ f n=some c):rankF f n=uU c:=by unfold rankF;rw[h]
theorem RedI.add (k:AE N B S Z) (h:RedI N B Z n f0 f t s adds) (hn:n<=N) {i j:Nat} (hc:iJ f n=some (.add i j)):RedI N B Z n f0 (dG f i j (cF f i j)) (uI n t (ID i j (cF f i j))) s (adds+1)/\rankF f n<rankF (dG f i j (cF f i j)) n:=by
 obtain⟨hF,hi⟩:=jh hc;have hi:i<n:=hi;obtain⟨hji,hns,hs,hr⟩:=id hF;have hrk:rankF f n<rankF (dG f i j (cF f i j)) n:=by
  rw[Al hc];exact Fg hji hi (fun i' hi'=>rn h.dfn _ hji hi hi' (hr i' hi')) (fun j' h1 h2=>sY h.dfn hji hi h1 h2 (fun h3=>hs j' h3 h2))
 obtain⟨g1,_⟩:=gf h.dfn.sym h.dfn.ne (cF f i j) hji hi;have hcn:=h.cnt;refine⟨⟨h.dfn.add _ hji hi,GD h.dfn (ay (by decide) k.b1) h.jn hF hi,by rw[g1 n (ac _)];exact h.det,by rw[mR n (fun t ht=>g1 (t+1) (by omega))];exact h.pot,by omega,fun a b ha hb=>?_⟩,hrk⟩;rw[Hn (by omega) (by omega) t a b hb];have z1:=h.szt a b ha hb;split
 ·have z2:=(h.szc k hn hi hji).mul (h.szt a j ha (by omega));exact(Sz.add (z1.mono (l:=Z+(1+(Z+4)*adds)) (by omega)) z2).mono (by rw[Nat.mul_add];omega)
 rw[Int.add_zero];exact z1.mono (by rw[Nat.mul_add];omega)
theorem RedI.swap (k:AE N B S Z) (h:RedI N B Z n f0 f t s adds) (hn:n<=N) {m:Nat} (hc:iJ f n=some (.swp m)):RedI N B Z n f0 (gG f m) (uI n t (JF m)) (s+1) adds:=by
 obtain⟨hF,hm⟩:=jh hc;have hm:m+1<n:=hm;obtain⟨hnl,_,_⟩:=id hF;obtain⟨g1,_⟩:=jV h.dfn.sym h.dfn.pos hm;have hcn:=h.cnt;have h3:=pC f n;have h4:=xf (ay hn k.n8);refine⟨h.dfn.swap hm hnl,DV h.dfn h.jn hF hm,by rw[g1 n (ac _) (by omega)];exact h.det,?_,by omega,fun a b ha hb=>?_⟩
 ·have p:=uR h.dfn hm hnl n (by omega) (ac _);have q:=az (4^s) p;have e1:4^(s+1)*prD (gG f m) n=4^s*(4*prD (gG f m) n):=by rw[Nat.pow_succ,Nat.mul_assoc]
  have e2:4^s*(3*prD f n)=3*(4^s*prD f n):=Nat.mul_left_comm _ _ _;have e3:3^(s+1)*B^N=3*(3^s*B^N):=by rw[Nat.pow_succ,Nat.mul_comm (3^s) 3,Nat.mul_assoc]
  rw[e1,e3];rw[e2]at q;exact ay q (az 3 h.pot)
 rw[Ho hm t a b hb];exact h.szt a _ ha (kZ hm hb)
def Hl (S n:Nat) (f:FF) (s:Nat):Nat:=(S-s)*30+(29-rankF f n)
theorem RedI.mu_add (k:AE N B S Z) (h:RedI N B Z n f0 f t s adds) (hn:n<=N) {i j:Nat} (hc:iJ f n=some (.add i j)):Hl S n (dG f i j (cF f i j)) s<Hl S n f s:=by
 have h1:=(h.add k hn hc).2;have h2:=pC (dG f i j (cF f i j)) n;have h3:=xf (ay hn k.n8);unfold Hl;omega
theorem RedI.mu_swap (k:AE N B S Z) (h:RedI N B Z n f0 f t s adds) (hn:n<=N) {m:Nat} (hc:iJ f n=some (.swp m)):Hl S n (gG f m) (s+1)<Hl S n f s:=by
 have h1:=(h.swap k hn hc).s_le k;have h2:=pC f n;have h3:=xf (ay hn k.n8);unfold Hl;omega
theorem kV (k:AE N B S Z) (hn:n<=N): ∀m f t s adds,Hl S n f s<=m->RedI N B Z n f0 f t s adds-> ∃h T,Iq n f t h T
 |0,f,t,s,adds,hk,h=>by
  cases hc:iJ f n with
  |none=>exact⟨f,t,.done f t hc⟩
  |some c=>
   cases c with
   |add i j=>have:=h.mu_add k hn hc;omega
   |swp m=>have:=h.mu_swap k hn hc;omega
 |m+1,f,t,s,adds,hk,h=>by
  cases hc:iJ f n with
  |none=>exact⟨f,t,.done f t hc⟩
  |some c=>
   cases c with
   |add i j=>
    have:=h.mu_add k hn hc;obtain⟨g,T,hr⟩:=kV k hn m _ _ _ _ (by omega) (h.add k hn hc).1;exact⟨g,T,.step f t g T _ hc hr⟩
   |swp q=>
    have:=h.mu_swap k hn hc;obtain⟨g,T,hr⟩:=kV k hn m _ _ _ _ (by omega) (h.swap k hn hc);exact⟨g,T,.step f t g T _ hc hr⟩
theorem RedI.red (h:RedI N B Z n f0 f t s adds) (hn1:1<=n) (hd:dk f0 n<=10000) (hc:iJ f n=none):dZ f n:=by
 refine(Fj hn1).1 ⟨h.dfn.sym,fun k hk=>?_,?_,wZ hc⟩
 ·rw[lE h.dfn.pos k hk];exact h.dfn.pos k hk
 have:=lE h.dfn.pos (n-1) (by omega);rw[show n-1+1=n by omega]at this;rw[this,h.det];exact hd
theorem RedI.start_ (k:AE N B S Z) (hn:n<=N) (hs:SymF f n) (hp:AP f n) (hdb: ∀k,k<=n->(dk f k).natAbs<=B) (hb: ∀a,a<n->(f a a).natAbs<=B) (ht: ∀a b,a<n->b<n->Sz (t a b) 1):RedI N B Z n f f t 0 0:=by
 have hpos: ∀k,k<n->0<dk f (k+1):=fun k hk=>(sK hp k hk).1
 have hdef:Def f n B:=⟨hs,hpos,hdb⟩;have b1:=k.b1;refine⟨hdef,.inl fun a ha=>ay (hb a ha) ?_,rfl,?_,by omega,fun a b ha hb=>(ht a b ha hb).mono (by omega)⟩
 ·unfold cN;exact ay (Nat.le_add_right B (B*B)) (Nat.le_mul_of_pos_right _ (Nat.pow_pos (by omega)))
 simp only[Nat.pow_zero,Nat.one_mul];exact ay (Cy hdef n (ac _)) (Nat.pow_le_pow_right (by omega) hn)
theorem RedI.start (hn1:1<=n) (hn:n<=8) (hs:SymF f n) (hp:AP f n) (hb: ∀a b,(f a b).natAbs<=9) (ht: ∀a b,a<n->b<n->Sz (t a b) 1):RedI 8 bB 41 n f f t 0 0:=
 RedI.start_ JT hn hs hp (fun k hk=>IJ hb (by omega)) (fun a _=>ay (hb a a) (by decide)) ht
end
end
theorem tV {w w':World} (h:Ext w w'):Keep (fun _=>False) w w':=⟨h.os,h.tape,h.output,h.size,fun k hk _=>h.block k hk⟩
theorem ug {w w':World} (h:Keep (fun _=>False) w w'):Ext w w':=⟨h.os,h.tape,h.output,h.size,fun k hk=>h.block k hk (fun h=>h)⟩
theorem x3 {w w':World} {X:Nat->Prop} (h:Ext w w') (hX: ∀b,X b->b<w.heap.size):Inv w (fun _=>False) X (famH 0 []) (fun _ _=>none) w':=by
 have e: ∀a,famH 0 [] a=[]:=fun a=>by unfold famH;split<;>rfl
 refine⟨tV h,fun a r o ho=>?_,fun a r a' r' o o' b c c' ho=>?_,fun a r o b c ho=>?_,fun b hb=>Nat.lt_of_lt_of_le (hX b hb) h.size,fun a r o ho=>?_⟩<;>(rw[e]at ho;simp at ho)
theorem fc {P:Program} {f:FuncId} {args:List TV} {r:TV} (hc:callable P f=true) (h: ∀(X:Nat->Prop) (w:World) (vs:Array Value),(∀b,X b->b<w.heap.size)->vs.size=args.length->
  (∀(j:Nat) t,args[j]?=some t-> ∃v:Value,vs[j]?=some v/\t.rel (fun _ _=>none) (fun _=>[]) X w v)->Calls P f vs w fun e w'=> ∃v,e= .returned v/\(∀ρ H Y,r.rel ρ H Y w' v)/\Ext w w'):CallC P f args ⟨[],r⟩:=
 ⟨hc,fun X w vs hX hvs ha=>(h X w vs hX hvs ha).mono fun e w' ⟨v,h1,h2,h3⟩=>⟨v,h1,fun _ _=>none,x3 h3 hX,h2 _ _ _⟩⟩
theorem CallC.calls {P:Program} {f:FuncId} {args:List TV} {r:TV} (h:CallC P f args ⟨[],r⟩) {w:World} {vs:Array Value} (hvs:vs.size=args.length)
  (ha: ∀(j:Nat) t,args[j]?=some t-> ∃v:Value,vs[j]?=some v/\t.rel (fun _ _=>none) (fun _=>[]) (fun _=>False) w v):Calls P f vs w fun e w'=> ∃v,e= .returned v/\(∃ρ H X,r.rel ρ H X w' v)/\Ext w w':=
 (h.2 (fun _=>False) w vs (fun b h=>h.elim) hvs ha).mono fun e w' ⟨v,h1,ρ,h2,h3⟩=>⟨v,h1,⟨_,_,_,h3⟩,ug h2.keep⟩
theorem nY {ρ:Rho} {H:OH} {X:Nat->Prop} {w:World} (v:Int) (b:Bool):(Au v b).rel ρ H X w (.tuple #[.int .i64 v,.bool b]):=by
 refine⟨#[.int .i64 v,.bool b],rfl,rfl,fun j c cs hj=>?_⟩
 match j,hj with
 |0,hj=>
  simp at hj;obtain⟨rfl,rfl⟩:=hj;exact⟨_,rfl,.inr ⟨rfl,_,rfl,bS.raw _ rfl⟩⟩
 |1,hj=>
  simp at hj;obtain⟨rfl,rfl⟩:=hj;exact⟨_,rfl,.inr ⟨rfl,_,rfl,bS.raw _ rfl⟩⟩
 |j+2,hj=>simp at hj
theorem pG {ρ:Rho} {H:OH} {X:Nat->Prop} {w:World} (b:Bool):(TV.raw (.bool b)).rel ρ H X w (.bool b):=bS.raw _ rfl
theorem n4 {X:Nat->Prop} {w:World} {u v:Value} (h:bS X w (.raw u) v):v=u:=by cases h;rfl
theorem gT {X:Nat->Prop} {w:World} {l:List Int} {v:Value} (h:bS X w (.sl (ls fI l)) v): ∃A c,v= .slice A l.length c/\l.length<=c/\l.length<=9223372036854775807/\RdI .i64 w A l:=by
 generalize hx:PV.sl (ls fI l)=x at h;cases h with
 |raw v h=>cases hx
 |ptr b off cs f hX hb hc hr=>cases hx
 |nil a c=>
  injection hx with hx
  have hl:l=[]:=by simpa[ls] using hx
  subst hl;exact⟨a,c,rfl,Nat.zero_le _,by simp,RdI.nil _ _ _⟩
 |sl b off es cap xs f hX hb hes hcap hm hc hr=>
  injection hx with hx
  subst hx;rw[fd]at hcap hm;refine⟨some ⟨b,off,none⟩,cap,by rw[fd],hcap,hm,fun hne=>⟨b,off,rfl,fun i x hx=>?_⟩⟩;rw[List.getElem?_map]at hx;obtain⟨z,hz,rfl⟩:=Option.map_eq_some_iff.1 hx;have h1:(ls fI l)[i]?=some (fI z):=by rw[gp,hz];rfl
  have he:es=1:=by rw[<- hes _ (au h1)];rfl
  subst he;have h2:=hc i _ 0 _ h1 rfl;have h3:=n4 (hr i _ 0 _ h1 rfl);rw[h3,Nat.mul_one,Nat.add_zero]at h2;exact h2
theorem kn {X:Nat->Prop} {w:World} {M:List (List Int)} {v:Value} (h:bS X w (.sl (ls (fR fI) M)) v): ∃A c,v= .slice A M.length c/\M.length<=c/\M.length<=9223372036854775807/\nM .i64 w A M:=by
 generalize hx:PV.sl (ls (fR fI) M)=x at h;cases h with
 |raw v h=>cases hx
 |ptr b off cs f hX hb hc hr=>cases hx
 |nil a c=>
  injection hx with hx
  have hl:M=[]:=by simpa[ls] using hx
  subst hl;exact⟨a,c,rfl,Nat.zero_le _,by simp,nM.nil _ _ _⟩
 |sl b off es cap xs f hX hb hes hcap hm hc hr=>
  injection hx with hx
  subst hx;rw[fd]at hcap hm;refine⟨some ⟨b,off,none⟩,cap,by rw[fd],hcap,hm,fun hne=>⟨b,off,rfl,fun i r hi=>?_⟩⟩;have h1:(ls (fR fI) M)[i]?=some (fR fI r):=by rw[gp,hi];rfl
  have he:es=1:=by rw[<- hes _ (au h1)];rfl
  subst he;have h2:=hc i _ 0 _ h1 rfl;have h3:=gT (hr i _ 0 _ h1 rfl);rw[Nat.mul_one,Nat.add_zero]at h2;exact⟨_,h2,h3⟩
/-! The program's functions. -/
theorem jx {args:List TV} {vs:Array Value} {X:Nat->Prop} {w:World} (h: ∀(j:Nat) t,args[j]?=some t-> ∃v:Value,vs[j]?=some v/\t.rel (fun _ _=>none) (fun _=>[]) X w v) {j:Nat} {x:PV} (hj:args[j]?=some (.one (.p x))): ∃v:Value,vs[j]?=some v/\bS X w x v:=h j _ hj
theorem Cv (M:List (List Int)) (x y:List Int):CallC Tryd.prog 15 [bT M,mq x,mq y] ⟨[],zw M x y⟩:=by
 refine fc (by kernel_rfl) fun X w vs hX hvs ha=>?_
 obtain⟨v0,e0,r0⟩:=jx ha (j:=0) rfl;obtain⟨v1,e1,r1⟩:=jx ha (j:=1) rfl;obtain⟨v2,e2,r2⟩:=jx ha (j:=2) rfl;obtain⟨A,c,rfl,hc,hl,hR⟩:=kn r0;obtain⟨B,d,rfl,hd,hlx,hx⟩:=gT r1;obtain⟨C,d',rfl,hd',hly,hy⟩:=gT r2;obtain rfl:vs= #[.slice A M.length c,.slice B x.length d,.slice C y.length d']:=by
  apply Array.ext_getElem?;intro j
  match j with
  |0=>exact e0
  |1=>exact e1
  |2=>exact e2
  |j+3=>rw[Array.getElem?_eq_none (by simp at hvs;omega)];rfl
 obtain⟨v,b,g1,g2⟩:=oX M x y;refine(qT A B C c d d' M x y w hR hx hy hl hc hlx hly).mono fun e w' ⟨h1,h2⟩=>?_
 rw[g2]at h1;rw[g1];exact⟨_,h1,fun _ _ _=>nY v b,h2⟩
theorem yn (M:List (List Int)) (x:List Int):CallC Tryd.prog 32 [bT M,mq x] ⟨[],zw M x x⟩:=by
 refine fc (by kernel_rfl) fun X w vs hX hvs ha=>?_
 obtain⟨v0,e0,r0⟩:=jx ha (j:=0) rfl;obtain⟨v1,e1,r1⟩:=jx ha (j:=1) rfl;obtain⟨A,c,rfl,hc,hl,hR⟩:=kn r0;obtain⟨B,d,rfl,hd,hlx,hx⟩:=gT r1;obtain rfl:vs= #[.slice A M.length c,.slice B x.length d]:=by
  apply Array.ext_getElem?;intro j
  match j with
  |0=>exact e0
  |1=>exact e1
  |j+2=>rw[Array.getElem?_eq_none (by simp at hvs;omega)];rfl
 obtain⟨v,b,g1,g2⟩:=oX M x x;refine(Ci A B c d M x w hR hx hl hc hlx).mono fun e w' ⟨h1,h2⟩=>?_
 rw[g2]at h1;rw[g1];exact⟨_,h1,fun _ _ _=>nY v b,h2⟩
end Go.Proofs.YtfgeomlagfomgaaDoor
