/-
  Part 6 of a proof (walks and plain facts).
-/
import Derived.Test.YtpgghglbpcabkaaGreatP04
import Derived.StillTailTactics
import Derived.Sort.Grow
import Derived.Deep.DeepFit
set_option linter.all false
set_option maxRecDepth 100000
set_option maxHeartbeats 64000000
namespace Go.Proofs.YtpgghglbpcabkaaGreat
open Go.RowKit
def natV:List Nat->Nat
 |[]=>0
 |a::l=>a+4294967296*natV l
def Lmb (l:List Nat):Prop:= ∀a∈l,a<4294967296
def kH (l:List Nat):Prop:=l.getLast?≠some 0
def dG:List Nat->List Nat
 |[]=>[]
 |a::l=>match dG l with
  |[]=>if a=0 then[]else[a]
  |b::m=>a::b::m
theorem fP (x y:List Nat):natV (x++y)=natV x+4294967296^x.length*natV y:=by
 induction x with
 |nil=>simp[natV]
 |cons a l ih=>simp[natV,ih,Nat.pow_succ,Nat.mul_add,Nat.mul_assoc,Nat.add_assoc,Nat.mul_comm]
theorem eO {l:List Nat} (h:Lmb l):natV l<4294967296^l.length:=by
 induction l with
 |nil=>simp[natV]
 |cons a l ih=>
  have ha:=h a List.mem_cons_self
  have:=ih (fun b hb=>h b (List.mem_cons_of_mem _ hb))
  rw[List.length_cons,Nat.pow_succ,natV]
  have h2:4294967296*(natV l+1)<=4294967296*4294967296^l.length:=Nat.mul_le_mul_left _ this
  rw[Nat.mul_comm (4294967296^l.length)]
  omega
theorem yl (l:List Nat):natV (dG l)=natV l:=by
 induction l with
 |nil=>rfl
 |cons a l ih=>
  unfold dG
  split
  ·rename_i h
   rw[h]at ih
   simp[natV]at ih
   split
   ·rename_i h0;simp[natV,<- ih,h0]
   ·simp[natV,<- ih]
  ·rename_i b m h
   rw[h]at ih
   simp[natV,<- ih]
theorem Bi (l:List Nat):kH (dG l):=by
 induction l with
 |nil=>simp[kH,dG]
 |cons a l ih=>
  unfold dG
  split
  ·split
   ·simp[kH]
   ·rename_i h0;simp[kH,h0]
  ·rename_i b m h
   rw[h]at ih
   unfold kH at*
   rw[List.getLast?_cons_cons];exact ih
theorem A0 (l:List Nat):(dG l).length<=l.length:=by
 induction l with
 |nil=>simp[dG]
 |cons a l ih=>
  unfold dG
  split
  ·split<;>simp
  ·rename_i b m h;rw[h]at ih;simp at ih⊢;omega
theorem lw {a:Nat} {l:List Nat} (h:kH (a::l)):kH l:=by
 cases l with
 |nil=>simp[kH]
 |cons b m=>unfold kH at*;rw[List.getLast?_cons_cons]at h;exact h
theorem m0 {l:List Nat} (h:kH l):dG l=l:=by
 induction l with
 |nil=>rfl
 |cons a l ih=>
  have e:=ih (lw h)
  unfold dG
  rw[e]
  cases l with
  |nil=>simp[kH]at h;simp[h]
  |cons b m=>rfl
theorem jJ (l:List Nat):dG (l++[0])=dG l:=by
 induction l with
 |nil=>simp[dG]
 |cons a l ih=>rw[List.cons_append,dG,ih];rfl
theorem qt {l:List Nat} {a:Nat} (h:a≠0):dG (l++[a])=l++[a]:=m0 (by simp[kH,h])
theorem zP {l:List Nat} (h:Lmb l):Lmb (dG l):=by
 induction l with
 |nil=>exact h
 |cons a l ih=>
  have ih:=ih (fun b hb=>h b (List.mem_cons_of_mem _ hb))
  unfold dG
  split
  ·split
   ·intro b hb;simp at hb
   ·intro b hb;simp at hb;subst hb;exact h _ List.mem_cons_self
  ·rename_i b m hh
   rw[hh]at ih
   intro c hc
   rcases List.mem_cons.1 hc with rfl|hc
   ·exact h _ List.mem_cons_self
   ·exact ih c hc
theorem oe {l:List Nat} (h:kH l) (hne:l≠[]):4294967296^(l.length-1)<=natV l:=by
 induction l with
 |nil=>exact absurd rfl hne
 |cons a l ih=>
  cases l with
  |nil=>simp[kH]at h;simp[natV];omega
  |cons b m=>
   have:=ih (lw h) (by simp)
   simp only[List.length_cons,Nat.add_sub_cancel]at this⊢
   rw[natV,Nat.pow_succ,Nat.mul_comm (4294967296^m.length)]
   have h2:=Nat.mul_le_mul_left 4294967296 this
   omega
theorem vh {l:List Nat} {k:Nat} (h:kH l) (hv:natV l<4294967296^k):l.length<=k:=by
 by_cases hne:l=[]
 ·subst hne;simp
 ·have:=oe h hne
  have h2:4294967296^(l.length-1)<4294967296^k:=Nat.lt_of_le_of_lt this hv
  have:=(Nat.pow_lt_pow_iff_right (by omega:1<4294967296)).1 h2
  omega
theorem Cn {l m:List Nat} (hl:Lmb l) (hm:Lmb m) (cl:kH l) (cm:kH m) (h:natV l=natV m):l=m:=by
 induction l generalizing m with
 |nil=>
  cases m with
  |nil=>rfl
  |cons b m=>
   have:=oe cm (by simp)
   have:0<4294967296^((b::m).length-1):=Nat.pow_pos (by omega)
   rw[<- h]at*
   simp[natV]at*
 |cons a l ih=>
  cases m with
  |nil=>
   have:=oe cl (by simp)
   have:0<4294967296^((a::l).length-1):=Nat.pow_pos (by omega)
   rw[h]at*
   simp[natV]at*
  |cons b m=>
   have ha:=hl a List.mem_cons_self
   have hb:=hm b List.mem_cons_self
   simp only[natV]at h
   have e1:a=b:=by omega
   have e2:natV l=natV m:=by omega
   rw[e1,ih (fun c hc=>hl c (List.mem_cons_of_mem _ hc)) (fun c hc=>hm c (List.mem_cons_of_mem _ hc)) (lw cl) (lw cm) e2]
def Ck (w:World) (A:Option Addr) (l:List Nat):Prop:=RdI .u32 w A (l.map fun n:Nat=>(n:Int))
theorem Ck.ext {w w':World} {A:Option Addr} {l:List Nat} (h:Ck w A l) (e:Ext w w'):Ck w' A l:=RdI.ext h e
theorem Ck.nil (w:World) (A:Option Addr):Ck w A []:=RdI.nil _ _ _
theorem Ck.at_ {w:World} {A:Option Addr} {l:List Nat} (h:Ck w A l) {i z:Nat} (hi:l[i]?=some z):
  ∃b off,A=some ⟨b,off,none⟩/\w.cell? ⟨b,off+i,none⟩=some (.int .u32 (z:Int)):=RdI.at_ h (by simp[hi])
def eY (neg:Bool) (n:Nat):Int:=if neg then -(n:Int)else n
def uf (w:World) (v:Value) (z:Int) (k:Nat):Prop:=
 ∃neg A c l,v= .agg #[.bool neg,.slice A l.length c]/\l.length<=c/\Ck w A l/\Lmb l/\kH l/\z=eY neg (natV l)/\l.length<=k/\(l=[]->neg=false)
theorem uf.ext {w w':World} {v:Value} {z:Int} {k:Nat} (h:uf w v z k) (e:Ext w w'):uf w' v z k:=by
 obtain⟨neg,A,c,l,h1,h2,h3,h4⟩:=h
 exact⟨neg,A,c,l,h1,h2,h3.ext e,h4⟩
theorem uf.mono {w:World} {v:Value} {z:Int} {k k':Nat} (h:uf w v z k) (e:k<=k'):uf w v z k':=by
 obtain⟨neg,A,c,l,h1,h2,h3,h4,h5,h6,h7,h8⟩:=h
 exact⟨neg,A,c,l,h1,h2,h3,h4,h5,h6,by omega,h8⟩
theorem uf.zero (w:World) (k:Nat):uf w (.agg #[.bool false,.slice none 0 0]) 0 k:=
 ⟨false,none,0,[],rfl,by simp,Ck.nil _ _,by intro a h;simp at h,by simp[kH],rfl,by simp,fun _=>rfl⟩
theorem y5 (a:Int) (w:World):
  Calls Tryz.prog 111 #[.int .i64 a] w fun e w'=>e= .returned (.bool false)/\w=w':=by
 go_enter Tryz.func111,Tryz.ntmps111
 go_wp2
 go_ret
 exact⟨by simp,rfl⟩
def kF (a b:Int):Int:=if a<b then -1 else if b<a then 1 else 0
theorem jI (a b:Int) (w:World):
  Calls Tryz.prog 75 #[.int .i64 a,.int .i64 b] w fun e w'=>e= .returned (.int .i64 (kF a b))/\w=w':=by
 go_enter Tryz.func75,Tryz.ntmps75
 go_wp2_with (go_at_call 111;refine(y5 _ _).mono ?_;rintro e w' ⟨rfl,rfl⟩)
 all_goals
  go_ret
  exact⟨fd (by unfold kF;(repeat' split)<;>omega),rfl⟩
def dt:List Int->List Int->Int
 |[],[]=>0
 |[],_::_=> -1
 |_::_,[]=>1
 |a::x,b::y=>if a<b then -1 else if b<a then 1 else dt x y
theorem qW {x y:List Int} {k:Nat} {a b:Int} (ha:x[k]?=some a) (hb:y[k]?=some b):
  dt (x.drop k) (y.drop k)=if a<b then -1 else if b<a then 1 else dt (x.drop (k+1)) (y.drop (k+1)):=by
 obtain⟨h1,rfl⟩:=List.getElem?_eq_some_iff.1 ha
 obtain⟨h2,rfl⟩:=List.getElem?_eq_some_iff.1 hb
 rw[List.drop_eq_getElem_cons h1,List.drop_eq_getElem_cons h2]
 rfl
theorem qk {x y:List Int} {k:Nat} (h1:k>=x.length) (h2:k<y.length):dt (x.drop k) (y.drop k)= -1:=by
 rw[List.drop_of_length_le h1,List.drop_eq_getElem_cons h2];rfl
theorem oq {x y:List Int} {k:Nat} (h1:k<x.length) (h2:k>=y.length):dt (x.drop k) (y.drop k)=1:=by
 rw[List.drop_of_length_le h2,List.drop_eq_getElem_cons h1];rfl
theorem qf {x y:List Int} {k:Nat} (h1:k>=x.length) (h2:k>=y.length):dt (x.drop k) (y.drop k)=0:=by
 rw[List.drop_of_length_le h1,List.drop_of_length_le h2];rfl
theorem C3 {a b:Int} {r:Int} (h:(kF a b !=0)=true):kF a b=if a<b then -1 else if b<a then 1 else r:=by
 unfold kF at*;(repeat' split)<;>simp_all
theorem Cp {a b:Int} {r:Int} (h:(kF a b !=0)=false):(if a<b then -1 else if b<a then 1 else r)=r:=by
 unfold kF at*;(repeat' split)<;>simp_all
theorem EU {a b:Int} {r:Int} (h:(a !=b)=true) (h':a<b): -1=if a<b then -1 else if b<a then 1 else r:=by simp[h']
theorem EY {a b:Int} {r:Int} (h:(a !=b)=true) (h': ¬a<b):1=if a<b then -1 else if b<a then 1 else r:=by
 have:a≠b:=by simpa using h
 rw[if_neg h',if_pos (by omega)]
theorem Cx {a b:Int} {r:Int} (h:(a !=b)=false):(if a<b then -1 else if b<a then 1 else r)=r:=by
 have:a=b:=by simpa using h
 rw[if_neg (by omega),if_neg (by omega)]
theorem lE (A B:Option Addr) (c d:Nat) (x y:List Int) (w:World) (hx:RdI .i64 w A x) (hy:RdI .i64 w B y) (lx:x.length<=9223372036854775807) (ly:y.length<=9223372036854775807):
  Calls Tryz.prog 112 #[.slice A x.length c,.slice B y.length d] w fun e w'=>e= .returned (.int .i64 (dt x y))/\w=w':=by
 have HX:=Lib.hid hx
 have HY:=Lib.hid hy
 clear hx hy
 go_enter Tryz.func112,Tryz.ntmps112
 go_wp2_with fail
 go_loop [11,5,6,7,8] (fun i _ _ _ _=> ∃k:Nat,k<=x.length/\i= .int .i64 k/\Hid (dt (x.drop k) (y.drop k)=dt x y)) (fun i _ _ _ _=>x.length-(intOf i).toNat)
 case atStart=>exact⟨0,Nat.zero_le _,rfl,Lib.hid rfl⟩
 case round=>
  obtain⟨k,hk,rfl,HR⟩:=hrel
  by_cases hlt:k<x.length
  ·obtain⟨a,ha⟩:=getElem?_of_lt hlt
   obtain⟨b,off,rfl,hc⟩:=HX.out.at_ ha
   have HA:=Lib.hid ha
   clear ha
   by_cases hly:k<y.length
   ·obtain⟨a',ha'⟩:=getElem?_of_lt hly
    obtain⟨b',off',rfl,hc'⟩:=HY.out.at_ ha'
    have HA':=Lib.hid ha'
    clear ha'
    have hD:=Lib.hid (qW HA.out HA'.out)
    go_wp2_with (go_at_call 75;refine(jI _ _ _).mono ?_;rintro e w' ⟨rfl,rfl⟩)
    ·go_ret
     have hne:(kF a a' !=0)=true:=by assumption
     exact⟨fd (by rw[<- HR.out,hD.out];exact C3 hne),rfl⟩
    ·go_round
     case rel=>
      have he:(kF a a' !=0)=false:=by assumption
      exact⟨k+1,by omega,by go_num,Lib.hid (by rw[<- HR.out,hD.out];exact(Cp he).symm)⟩
     case measure=>simp[intOf];omega
   ·go_wp2_with fail
    go_ret
    exact⟨fd (by rw[<- HR.out,oq hlt (by omega)]),rfl⟩
  ·have hk':k=x.length:=by omega
   subst hk'
   go_wp2_with fail
   all_goals
    go_ret
    exact⟨fd (by rw[<- HR.out];first|rw[qk (by omega) (by omega)]|rw[qf (by omega) (by omega)]),rfl⟩
theorem jr (A B:Option Addr) (c d:Nat) (x y:List Int) (w:World) (hx:RdI .i64 w A x) (hy:RdI .i64 w B y) (lx:x.length<=9223372036854775807) (ly:y.length<=9223372036854775807):
  Calls Tryz.prog 17 #[.slice A x.length c,.slice B y.length d] w fun e w'=>e= .returned (.int .i64 (dt x y))/\ ∃n,w'=w.drewN n:=by
 have HX:=Lib.hid hx
 have HY:=Lib.hid hy
 clear hx hy
 go_enter Tryz.func17,Tryz.ntmps17
 go_wp2_with fail
 go_loopw [5] (fun i wr=> ∃k n:Nat,k<=x.length/\k<=y.length/\i= .int .i64 k/\wr=w.drewN n/\Hid (dt (x.drop k) (y.drop k)=dt x y)) (fun i _=>x.length-(intOf i).toNat)
 case atStart=>exact⟨0,0,Nat.zero_le _,Nat.zero_le _,rfl,rfl,Lib.hid rfl⟩
 case round=>
  obtain⟨k,n,hk,hky,rfl,rfl,HR⟩:=hrel
  by_cases hlt:k<x.length
  ·obtain⟨a,ha⟩:=getElem?_of_lt hlt
   obtain⟨b,off,rfl,hc⟩:=HX.out.at_ ha
   have HA:=Lib.hid ha
   clear ha
   by_cases hly:k<y.length
   ·obtain⟨a',ha'⟩:=getElem?_of_lt hly
    obtain⟨b',off',rfl,hc'⟩:=HY.out.at_ ha'
    have HA':=Lib.hid ha'
    clear ha'
    have hD:=Lib.hid (qW HA.out HA'.out)
    go_wp2_with fail
    go_quiet (fail)
    go_wp2_with fail
    ·go_quiet (fail)
     have hne:(a !=a')=true:=by assumption
     go_wp2_with fail
     all_goals
      go_ret
      exact⟨fd (by rw[<- HR.out,hD.out];first|exact EU hne (by omega)|exact EY hne (by omega)),_,by rw[World.drewN_drewN,World.drewN_drewN]⟩
    ·have he:(a !=a')=false:=by assumption
     go_roundw
     case rel=>exact⟨k+1,_,by omega,by omega,by go_num,rfl,Lib.hid (by rw[<- HR.out,hD.out];exact(Cx he).symm)⟩
     case measure=>simp[intOf];omega
   ·go_wp2_with fail
    all_goals
     go_ret
     exact⟨fd (by rw[<- HR.out,oq hlt (by omega)]),_,rfl⟩
  ·by_cases hly:k<y.length
   ·go_wp2_with fail
    all_goals
     go_ret
     exact⟨fd (by rw[<- HR.out,qk (by omega) (by omega)]),_,rfl⟩
   ·go_wp2_with fail
    all_goals
     go_ret
     exact⟨fd (by rw[<- HR.out,qf (by omega) (by omega)]),_,rfl⟩
theorem pn (A B:Option Addr) (c d:Nat) (x y:List Int) (w:World) (hx:RdI .i64 w A x) (hy:RdI .i64 w B y) (lx:x.length<=9223372036854775807) (ly:y.length<=9223372036854775807):
  Calls Tryz.prog 76 #[.slice A x.length c,.slice B y.length d] w fun e w'=>e= .returned (.int .i64 (dt x y))/\w=w':=by
 go_enter Tryz.func76,Tryz.ntmps76
 go_wp2_with (go_at_call 112;refine(lE A B c d x y _ hx hy lx ly).mono ?_;rintro e w' ⟨rfl,rfl⟩)
 go_ret
 exact⟨rfl,rfl⟩
def BP:List Int->Int
 |[]=>0
 |a::l=>if a !=0 then a else BP l
theorem zC {x:List Int} {k:Nat} {a:Int} (h:x[k]?=some a):BP (x.drop k)=if a !=0 then a else BP (x.drop (k+1)):=by
 obtain⟨h1,rfl⟩:=List.getElem?_eq_some_iff.1 h
 rw[List.drop_eq_getElem_cons h1]
 rfl
theorem xR (A:Option Addr) (c:Nat) (x:List Int) (w:World) (hx:RdI .i64 w A x) (lx:x.length<=9223372036854775807):
  Calls Tryz.prog 74 #[.slice A x.length c] w fun e w'=>e= .returned (.int .i64 (BP x))/\w=w':=by
 have HX:=Lib.hid hx
 clear hx
 go_enter Tryz.func74,Tryz.ntmps74
 go_wp2_with fail
 go_loop [8,5] (fun i _=> ∃k:Nat,k<=x.length/\i= .int .i64 k/\Hid (BP (x.drop k)=BP x)) (fun i _=>x.length-(intOf i).toNat)
 case atStart=>exact⟨0,Nat.zero_le _,rfl,Lib.hid rfl⟩
 case round=>
  obtain⟨k,hk,rfl,HR⟩:=hrel
  by_cases hlt:k<x.length
  ·obtain⟨a,ha⟩:=getElem?_of_lt hlt
   obtain⟨b,off,rfl,hc⟩:=HX.out.at_ ha
   have HA:=Lib.hid (zC ha)
   clear ha
   by_cases h0:(a !=0)=true
   ·go_wp2_with fail
    go_ret
    exact⟨fd (by rw[<- HR.out,HA.out,if_pos h0]),rfl⟩
   ·have h0':(a !=0)=false:=by simpa using h0
    have H0:=Lib.hid h0'
    clear h0
    go_wp2_with fail
    go_round
    case rel=>exact⟨k+1,by omega,by go_num,Lib.hid (by rw[<- HR.out,HA.out,if_neg (by rw[H0.out];simp)])⟩
    case measure=>simp[intOf];omega
  ·go_wp2_with fail
   go_ret
   exact⟨fd (by rw[<- HR.out,List.drop_of_length_le (by omega)];rfl),rfl⟩
theorem ng (a b:Int) (w:World):
  Calls Tryz.prog 75 #[.int .i64 a,.int .i64 b] w fun e w'=>e= .returned (.int .i64 (kF a b))/\w'=w:=
 (jI a b w).mono fun _ _ ⟨h1,h2⟩=>⟨h1,h2.symm⟩
theorem nk (A B:Option Addr) (c d:Nat) (x y:List Int) (w:World) (hx:RdI .i64 w A x) (hy:RdI .i64 w B y) (lx:x.length<=9223372036854775807) (ly:y.length<=9223372036854775807):
  Calls Tryz.prog 76 #[.slice A x.length c,.slice B y.length d] w fun e w'=>e= .returned (.int .i64 (dt x y))/\w'=w:=
 (pn A B c d x y w hx hy lx ly).mono fun _ _ ⟨h1,h2⟩=>⟨h1,h2.symm⟩
def yy (k1:Int) (x:List Int) (k2:Int) (y:List Int):Int:=BP [kF k1 k2,dt x y]
theorem de {P:Program} {id:Nat} {Q:Exit->Act->World->Prop} {a:Act} {w:World} {l:List Oper} (n:Nat) (hm:P.follows .mixedOrders=true) (hB:Region.lexTailB .any l.toArray n=true)
  (h:wpStill P l.toArray w.drew (fun a'=>wpList P l.toArray Q (l.drop n) a' w.drew) (l.take n) a):(Code.region id l.toArray true).wp P Q a w:=wp_region_still_tail n hm hB h
theorem uF (w:World) (os:Array Obj) (o:Obj):(Sort.grow w os).alloc o=Sort.grow w (os.push o):=by
 unfold Sort.grow World.alloc;simp
theorem zX (w:World) (a b:Obj):((w.alloc a).alloc b).drew=Sort.grow (w.drewN 1) #[a,b]:=by
 unfold Sort.grow
 rw[show(w.drewN 1).heap++ #[a,b]=(w.heap.push a).push b from by
  show w.heap++ #[a,b]=_
  apply Array.ext'
  simp]
 rfl
theorem qw (w:World) (a b c d:Value) (t:TypeId):
  ((w.alloc (.cells #[a,b] t)).alloc (.cells #[c,d] t)).drew.cell? ⟨w.heap.size,0,none⟩=some a/\((w.alloc (.cells #[a,b] t)).alloc (.cells #[c,d] t)).drew.cell? ⟨w.heap.size,1,none⟩=some b/\
  ((w.alloc (.cells #[a,b] t)).alloc (.cells #[c,d] t)).drew.cell? ⟨w.heap.size+1,0,none⟩=some c/\((w.alloc (.cells #[a,b] t)).alloc (.cells #[c,d] t)).drew.cell? ⟨w.heap.size+1,1,none⟩=some d/\
  Ext w ((w.alloc (.cells #[a,b] t)).alloc (.cells #[c,d] t)).drew/\ ∃os,((w.alloc (.cells #[a,b] t)).alloc (.cells #[c,d] t)).drew=Sort.grow (w.drewN 1) os:=
 ⟨by go_simp,by go_simp,by go_simp,by go_simp,(((Ext.refl _).alloc _).alloc _).drew,_,zX w _ _⟩
theorem ie (k1 k2:Int) (A B:Option Addr) (c d:Nat) (x y:List Int) (w:World) (hx:RdI .i64 w A x) (hy:RdI .i64 w B y) (lx:x.length<=9223372036854775807) (ly:y.length<=9223372036854775807):
  Calls Tryz.prog 35 #[.agg #[.int .i64 k1,.slice A x.length c],.agg #[.int .i64 k2,.slice B y.length d]] w fun e w'=>
   e= .returned (.int .i64 (yy k1 x k2 y))/\ ∃q os,w'=Sort.grow (w.drewN q) os:=by
 have HX:=Lib.hid hx
 have HY:=Lib.hid hy
 clear hx hy
 go_enter Tryz.func35,Tryz.ntmps35
 go_wp2_with fail
 obtain⟨c1,c2,c3,c4,he,hg⟩:=qw w (.int .i64 k1) (.slice A x.length c) (.int .i64 k2) (.slice B y.length d) 74
 have HE:=Lib.hid he
 have HG:=Lib.hid hg
 clear he hg
 generalize(w.alloc (.cells #[.int .i64 k1,.slice A x.length c] 74)).alloc (.cells #[.int .i64 k2,.slice B y.length d] 74)=w2 at*
 refine de 10 (by kernel_rfl) (by kernel_rfl) ?_
 simp only[List.take_succ_cons,List.take_zero,List.drop_succ_cons,List.drop_zero]
 generalize w2.drew=w3 at*
 iterate 4 still_step
 still_call (ng _ _ _)
 iterate 4 still_step
 still_call (nk A B c d x y _ (HX.out.ext HE.out) (HY.out.ext HE.out) lx ly)
 refine wpStill_nil ?_
 have hor:=xR (some ⟨w3.heap.size,0,none⟩) 2 [kF k1 k2,dt x y] (w3.alloc (.cells #[.int .i64 (kF k1 k2),.int .i64 (dt x y)] 3)) (fun _=>⟨w3.heap.size,0,rfl,fun i v hv=>by
  match i,hv with
  |0,hv=>simp at hv;subst hv;go_simp
  |1,hv=>simp at hv;subst hv;go_simp⟩) (by simp)
 rw[show[kF k1 k2,dt x y].length=2 from rfl]at hor
 have HOR:=Lib.hid hor
 clear hor
 go_wp2_with fail
 refine HOR.out.mono ?_
 rintro e w' ⟨rfl,rfl⟩
 go_wp2_with fail
 go_ret
 obtain⟨os,rfl⟩:=HG.out
 exact⟨rfl,1,_,uF _ _ _⟩
theorem Tryz.inU32:(Tryz.prog.info? 118).map (fun i=>(i.zero,i.size,i.bytes))=some (some (.int .u32 0),1,4):=by kernel_rfl
def sg (z:Int):Int:=if z<0 then -1 else if z=0 then 0 else 1
theorem pZ (u:Nat):natV [u%4294967296,u/4294967296]=u:=by simp[natV];omega
def fg (a b:Nat):Int:=if a<b then -1 else if a=b then 0 else 1
theorem py {l:List Nat} {k a:Nat} (h:l[k]?=some a):natV l=natV (l.take k)+4294967296^k*(a+4294967296*natV (l.drop (k+1))):=by
 have hk:=(List.getElem?_eq_some_iff.1 h).1
 conv=>lhs;rw[<- List.take_append_drop k l]
 rw[fP,List.length_take,Nat.min_eq_left (by omega),List.drop_eq_getElem_cons hk,natV,(List.getElem?_eq_some_iff.1 h).2]
theorem zh {l:List Nat} (h:Lmb l) (k:Nat):Lmb (l.take k):=fun a ha=>h a (List.mem_of_mem_take ha)
theorem i5 {l m:List Nat} {k a b:Nat} (hl:Lmb l) (ha:l[k]?=some a) (hb:m[k]?=some b) (hd:l.drop (k+1)=m.drop (k+1)) (hab:a<b):natV l<natV m:=by
 have hk:=(List.getElem?_eq_some_iff.1 ha).1
 rw[py ha,py hb,hd]
 have h1:=eO (zh hl k)
 rw[List.length_take,Nat.min_eq_left (by omega)]at h1
 have h2:4294967296^k*(a+1+4294967296*natV (m.drop (k+1)))<=4294967296^k*(b+4294967296*natV (m.drop (k+1))):=Nat.mul_le_mul_left _ (by omega)
 have e:4294967296^k*(a+1+4294967296*natV (m.drop (k+1)))=4294967296^k+4294967296^k*(a+4294967296*natV (m.drop (k+1))):=by grind
 omega
theorem fX {l m:List Nat} (hl:Lmb l) (hm:kH m) (h:l.length<m.length):natV l<natV m:=by
 have h1:=eO hl
 have h2:=oe hm (by intro e;rw[e]at h;simp at h)
 have h3:4294967296^l.length<=4294967296^(m.length-1):=Nat.pow_le_pow_right (by omega) (by omega)
 omega
theorem jU {a b:Nat} (h:a<b):fg a b= -1:=by simp[fg,h]
theorem nw {a b:Nat} (h:b<a):fg a b=1:=by unfold fg;rw[if_neg (by omega),if_neg (by omega)]
theorem qi {l m:List Nat} {k a:Nat} (ha:l[k]?=some a) (hb:m[k]?=some a) (hd:l.drop (k+1)=m.drop (k+1)):l.drop k=m.drop k:=by
 obtain⟨h1,rfl⟩:=List.getElem?_eq_some_iff.1 ha
 obtain⟨h2,h3⟩:=List.getElem?_eq_some_iff.1 hb
 rw[List.drop_eq_getElem_cons h1,List.drop_eq_getElem_cons h2,hd,h3]
theorem kc:(∀(P:Program) (items:List (dN P)) (ow:List Nat) (s:AS) (Q:AS->Prop),dS P items ow [] (some s) Q=Q s)/\
  (∀(P:Program) (items:List (dN P)) (ow:List Nat) (st:CO) (l:List CO) (s:AS) (Q:AS->Prop),dS P items ow (st::l) (some s) Q=dS P items ow l (cR P items ow st s) Q)/\
  (∀{P:Program} {items:List (dN P)} {ow:List Nat} {i:Nat} {d:Option Tmp} {s:AS} (x:Operand),cR P items ow ⟨i,d,.move x,none⟩ s=(s.ev x).map (s.put d))/\
  (∀{P:Program} {items:List (dN P)} {ow:List Nat} {i:Nat} {d:Option Tmp} {s:AS} (x:Operand),cR P items ow ⟨i,d,.assign x,none⟩ s=(s.ev x).map (s.put d))/\
  (∀{P:Program} {items:List (dN P)} {ow:List Nat} {i:Nat} {d:Option Tmp} {s:AS} (op:BinOp) (t t':TypeId) (x y:Operand),cR P items ow ⟨i,d,.binOp op t x y t',none⟩ s=(aj P s.ev (.binOp op t x y t')).map (s.put d))/\
  (∀{P:Program} {items:List (dN P)} {ow:List Nat} {i:Nat} {d:Option Tmp} {s:AS} (t:TypeId) (x:Operand),cR P items ow ⟨i,d,.load t x,none⟩ s=(ao P s.ev s.H (.load t x)).map (s.put d))/\
  (∀{α:Type} {a:α} {l:List α},(a::l)[0]?=some a)/\
  (∀{α:Type} {a:α} {i:Nat} {l:List α},(a::l)[i+1]?=l[i]?)/\
  (∀{α:Type} {x:α} {xs:List α} {a:α},(x::xs).set 0 a=a::xs)/\
  (∀{α:Type} {x:α} {xs:List α} {i:Nat} {a:α},(x::xs).set (i+1) a=x::xs.set i a)/\
  (∀{α β:Type} {f:α->β},List.map f []=[])/\
  (∀{α β:Type} {f:α->β} {a:α} {l:List α},List.map f (a::l)=f a::List.map f l)/\
  (∀{α β:Type} (a:α) (f:α->β),Option.map f (some a)=some (f a))/\
  (∀{α:Type} {a:α} {l:List α} {f:α->Bool},(a::l).all f=(f a&&l.all f))/\
  (∀{α:Type} {f:α->Bool},([]:List α).all f=true)/\
  (∀{α:Type} {a:α} {xs:List α},(a::xs).length=xs.length+1)/\
  (∀{α:Type},([]:List α).length=0)/\
  (∀n:Nat,0+n=n)/\
  (∀b:Bool,(b&&b)=b)/\
  (∀{α:Type} {_:Decidable True} (t e:α),(if True then t else e)=t)/\
  (∀{α:Type} {_:Decidable False} (t e:α),(if False then t else e)=e)/\
  (∀{α:Type} (xs:List α),[]++xs=xs)/\
  (∀{α:Type} {a:α} {xs ys:List α},a::xs++ys=a::(xs++ys))/\
  (∀{α:Type} (xs:List α),xs++[]=xs)/\
  (∀{α β:Type} (a:α) (f:α->Option β),(some a).bind f=f a)/\
  (∀{α:Type},([]:List α).isEmpty=true)/\
  ((!true)=false)/\
  (∀{α:Type} {l:List α},List.drop 0 l=l)/\
  (∀{α:Type} {l:List α},List.take 0 l=[])/\
  (∀{α:Type} {a:α} {l:List α} {i:Nat},List.drop (i+1) (a::l)=List.drop i l)/\
  (∀{α:Type} {a:α} {l:List α} {i:Nat},List.take (i+1) (a::l)=a::List.take i l)/\
  (∀b:Bool,(b||true)=true)/\
  (∀p:Prop,(p/\p)=p)/\
  (∀p:Prop,(True/\p)=p)/\
  (∀b:Bool,(b&&true)=b)/\
  (∀b:Bool,(b&&false)=false)/\
  (∀{α:Type} [BEq α] [ReflBEq α] (a:α),(a==a)=true)/\
  ((false=true)=False)/\
  (∀{α:Type} {xs:List α} {i:Nat},xs.toArray[i]?=xs[i]?)/\
  (∀n:Nat,(n:Int).toNat=n)/\
  (∀(ops:Array Oper) (x:Nat),cY ops [] x=[])/\
  (∀(ops:Array Oper) (x:Nat) (o:Oper) (l:List Oper),cY ops (o::l) x=ab ops o x::cY ops l (x+1))/\
  (∀(s:AS) (t:Tmp),s.ev (.tmp t)=s.tmps[t]?)/\
  (∀(s:AS) (v:Value),s.ev (.const v)=some (ac v))/\
  (∀(s:AS) (g:Nat),s.ev (.global g)=some (.raw (.pointer (some ⟨g,0,none⟩))))/\
  (∀(s:AS) (f:FuncId),s.ev (.func f)=some (.raw (.func (.func f) #[] #[])))/\
  (∀(s:AS) (d:Tmp) (t:TV),s.put (some d) t={s with tmps:=s.tmps.set d t})/\
  (∀(s:AS) (t:TV),s.put none t=s):=
 ⟨@zG,@qS,@zp,@uL,@B0,@AT,@List.getElem?_cons_zero,@List.getElem?_cons_succ,@List.set_cons_zero,@List.set_cons_succ,@List.map_nil,@List.map_cons,@Option.map_some,@List.all_cons,@List.all_nil,@List.length_cons,@List.length_nil,@Nat.zero_add,@Bool.and_self,@if_true,@if_false,@List.nil_append,@List.cons_append,@List.append_nil,@Option.bind_some,@List.isEmpty_nil,@Bool.not_true,@List.drop_zero,@List.take_zero,@List.drop_succ_cons,@List.take_succ_cons,@Bool.or_true,@and_self,@true_and,@Bool.and_true,@Bool.and_false,@beq_self_eq_true,@Bool.false_eq_true,@List.getElem?_toArray,@Int.toNat_natCast,by intros;rfl,by intros;rfl,by intros;rfl,by intros;rfl,by intros;rfl,by intros;rfl,by intros;rfl,by intros;rfl⟩
abbrev jk:TV:= .one .junk
abbrev bO (l:List Nat):TV:= .one (.p (.sl (ls fU l)))
theorem gL (l:List Nat) (hb:l.length<=1073741824):CallC Tryz.prog 96 [bO l] ⟨[],bO (dG l)⟩:=by
 refine aC Tryz.func96 rfl (by kernel_rfl) ?_;rw[Tryz.ntmps96]
 (refine aa [] fun K hK=>?_;simp(disch:=omega) only[kc,ab,List.replicate,ac,Value.oneCell'];apply hK)
 (refine aa [] fun K hK=>?_;simp(disch:=omega) only[kc,ab,Nat.reduceAdd,aq,ao,ah,aD];apply hK)
 refine CP (G:={n:Nat//n<=l.length/\dG l=dG (l.take n)}) (fun n=>⟨[bO l,jk,.raw (.slice none 0 0),.raw (.int .i64 n.1),jk,jk,jk,jk,jk,jk,jk,jk,jk,jk,jk,jk,jk,jk,jk,jk,jk,jk],Hm []⟩) (fun n=>n.1) ⟨l.length,Nat.le_refl _,by simp⟩ ?_ ?_
 ·refine am trivial ?_
  simp[cu,bD,bA]
 ·rintro⟨n,hn,hT⟩
  simp only
  by_cases h0:0<n
  ·obtain⟨a,ha⟩:=getElem?_of_lt (l:=l) (k:=n-1) (by omega)
   have e1:((n:Int)-1).toNat=n-1:=by omega
   (refine ae (aa [] fun K hK=>?_);simp(disch:=omega) only[kc,ab,Nat.reduceAdd,Hm,aj,ac,Value.oneCell',ai,bE,aA,bL,bC,ag,ao,an,e1,ah,bI,ha,fU,aO,ax,bu,aM];apply hK)
   have htk:l.take n=l.take (n-1)++[a]:=by
    have:=List.take_succ_eq_append_getElem (i:=n-1) (l:=l) (by omega)
    rw[show n-1+1=n by omega]at this
    rw[this,(List.getElem?_eq_some_iff.1 ha).2]
   refine af rfl (fun hz=>ay ?_) (fun hz=>bF ?_)
   ·have hz':a=0:=by simpa using hz
    refine aU ?_
    ((refine aX [] [] (by simp) fun K hK=>?_);simp(disch:=omega) only[kc,ab,Nat.reduceAdd,bE,aj,ac,Value.oneCell',ai,bC];apply hK)
    refine⟨⟨n-1,by omega,?_⟩,by simp only;omega,am trivial ?_⟩
    ·rw[hT,htk,hz',jJ]
    ·have e:((n-1:Nat):Int)=(n:Int)-1:=by omega
     simp[cu,bD,bA,e]
   ·have hz':a≠0:=by intro e;simp[e]at hz
    have hfin:dG l=l.take n:=by rw[hT,htk,qt hz']
    show bX _ _ _ _
    have hlen:(l.take n).length=n:=by simp;omega
    (refine aa [] fun K hK=>?_;simp(disch:=omega) only[kc,ab,Nat.reduceAdd,bj,gC,ao,ah,eS,an,aO,Nat.zero_le,aD,vE ry,and_true,wa,bL,dE,l8,bN,ac,Value.oneCell',newsOf,Ab,aT,aI,cp,dz,fu,hlen,DN ry];apply hK)
    refine aE ⟨.inr rfl,ot 21 (dL rfl) ?_ rfl⟩
    simp(disch:=omega) only[kc,bK,Tryz.results96,aN,gR,eX,au,bL,ew,d8,hfin]
    simp[List.take_take]
  ·have hn0:n=0:=by omega
   subst hn0
   have hfin:dG l=[]:=by rw[hT];simp[dG]
   (refine ae (aa [] fun K hK=>?_);simp(disch:=omega) only[kc,ab,Nat.reduceAdd,Hm,aj,ac,Value.oneCell',ai,bj,aA,Option.map_none,ag,ao,aM];apply hK)
   refine af rfl (fun hz=>by cases hz) (fun hz=>bF ?_)
   show bX _ _ _ _
   (refine aa [] fun K hK=>?_;simp(disch:=omega) only[kc,ab,Nat.reduceAdd,gC,ao,ah,eS,an,aO,Nat.le_refl,aD,Nat.zero_le,vE ry,dE,l8,bN,ac,Value.oneCell',newsOf,aT,aI,cp,dz,Nat.reduceMul,gN,and_true,bL];apply hK)
   refine aE ⟨.inr rfl,ot 21 (dL (f:=fU) (l:=[]) rfl) ?_ rfl⟩
   simp(disch:=omega) only[kc,bK,Tryz.results96,aN,gR,eX,au,bL,Nat.add_zero,hfin]
   simp[ls]
section
def eW (H:OH):AV->Prop
 | .sl a _ _ _=>H a≠[]
 | .ptr a _ _ _=>H a≠[]
 |_=>True
def ff (H:OH):TV->Prop
 | .one x=>eW H x
 | .agg cs=> ∀x∈cs,eW H x
 | .fn _ cs=> ∀x∈cs,eW H x
 | .tup ts=> ∀t∈ts,∀x∈t.2,eW H x
def lK (s:AS):Prop:=(∀(t:Nat) x,s.tmps[t]?=some x->ff s.H x)/\ ∀a,∀o∈s.H a,selfO a o
section
variable {P:Program} {s s':AS} {H:OH}
theorem jC {w0 w:World} {O X:Nat->Prop} {a:Act} (h:fM w0 O X s a w):lK s:=by
 obtain⟨_,_,ρ,hinv,htm⟩:=h
 have av: ∀x v,AV.rel ρ s.H (Xo X ρ s.H) w x v->eW s.H x:=fun x v hx=>by
  cases x with
  |p x=>trivial
  |sl a r off len=>obtain⟨o,h1,_⟩:=hx;intro h0;rw[h0]at h1;simp at h1
  |ptr a r i j=>obtain⟨o,_,_,h1,_⟩:=hx;intro h0;rw[h0]at h1;simp at h1
  |junk=>trivial
 have agg: ∀cs v,cE ρ s.H (Xo X ρ s.H) w cs v-> ∀x∈cs,eW s.H x:=fun cs v hc x hx=>by
  obtain⟨vs,_,_,h3⟩:=hc
  obtain⟨k,hk,rfl⟩:=List.getElem_of_mem hx
  obtain⟨u,_,_,h4⟩:=h3 k _ (List.getElem?_eq_getElem hk)
  exact av _ _ h4
 refine⟨fun t x hx=>?_,fun a o ho=>?_⟩
 ·obtain⟨v,_,hv⟩:=htm t x hx
  cases x with
  |one x=>exact av x v hv
  |agg cs=>exact agg cs v hv
  |fn f cs=>obtain⟨u,h1,h2⟩:=hv;exact agg cs u h1
  |tup ts=>
   obtain⟨vs,_,_,h3⟩:=hv
   intro t ht x hx
   obtain⟨k,hk,rfl⟩:=List.getElem_of_mem ht
   obtain⟨u,_,h4⟩:=h3 k _ _ (List.getElem?_eq_getElem hk)
   rcases h4 with⟨_,h4⟩|⟨_,y,h5,h4⟩
   ·exact agg _ _ h4 x hx
   ·have h5:ts[k].2=[y]:=h5
    rw[h5]at hx;simp at hx;subst hx;exact av _ _ h4
 ·obtain⟨k,hk,rfl⟩:=List.getElem_of_mem ho
  exact hinv.self a k _ (List.getElem?_eq_getElem hk)
theorem eK (h:lK s) {x:Operand} {t:TV} (hx:s.ev x=some t):ff s.H t:=by
 cases x with
 |tmp k=>exact h.1 k t hx
 |const v=>
  simp only[AS.ev]at hx
  injection hx with hx
  subst hx
  unfold ac
  split
  ·split
   ·intro y hy;simp only[List.mem_map]at hy;obtain⟨u,_,rfl⟩:=hy;trivial
   ·trivial
  ·split<;>trivial
 |global g=>simp only[AS.ev]at hx;injection hx with hx;subst hx;trivial
 |func f=>simp only[AS.ev]at hx;injection hx with hx;subst hx;trivial
theorem iQ (h:lK s) {d:Option Tmp} {t:TV} (ht:ff s.H t):lK (s.put d t):=by
 refine⟨fun k x hx=>?_,by rw[gZ];exact h.2⟩
 rw[gZ]
 cases d with
 |none=>exact h.1 k x hx
 |some d=>
  simp only[AS.put]at hx
  by_cases hk:d=k
  ·subst hk
   rw[List.getElem?_set]at hx
   simp at hx
   obtain⟨_,rfl⟩:=hx
   exact ht
  ·rw[List.getElem?_set_ne hk]at hx;exact h.1 k x hx
theorem xO (h:lK s) {op:Op} {t:TV} (ht:aj P s.ev op=some t):ff s.H t:=by
 cases op<;>simp only[aj]at ht<;>try cases ht
 case move x=>exact eK h ht
 case assign x=>exact eK h ht
 case pick c a b=>
  split at ht
  ·exact eK h ht
  ·exact eK h ht
  ·cases ht
 case binOp op ty x y yt=>
  split at ht
  ·obtain⟨v,_,rfl⟩:=Option.map_eq_some_iff.1 ht;trivial
  ·cases ht
 case unOp op ty x=>
  split at ht
  ·obtain⟨v,_,rfl⟩:=Option.map_eq_some_iff.1 ht;trivial
  ·cases ht
 case convert a b x=>
  split at ht
  ·injection ht with ht;subst ht;trivial
  ·cases ht
 case extract x k=>
  split at ht
  ·rename_i ts hx
   have hl:=eK h hx
   split at ht
   ·rename_i cs hk
    injection ht with ht
    subst ht
    exact hl _ (List.mem_of_getElem? hk)
   ·rename_i y hk
    injection ht with ht
    subst ht
    exact hl _ (List.mem_of_getElem? hk) y (by simp)
   ·cases ht
  ·cases ht
theorem mJ {t:TypeId} {cs:List AV} {T:TV} (h:ax P t cs=some T) (hc: ∀x∈cs,eW H x):ff H T:=by
 unfold ax at h
 split at h
 ·split at h
  ·injection h with h;subst h;exact fun x hx=>hc x (List.mem_of_mem_take hx)
  ·cases h
 ·split at h
  ·injection h with h;subst h;exact hc _ (by simp)
  ·cases h
 ·cases h
theorem ra {t:TV} {cs:List AV} (h:cellsOf t=some cs) (ht:ff H t): ∀x∈cs,eW H x:=by
 unfold cellsOf at h
 split at h
 ·injection h with h;subst h;intro x hx;simp at hx;subst hx;trivial
 ·injection h with h;subst h;exact ht
 ·cases h
theorem qH (h:lK s) {pl:List (Nat×Nat)}: ∀(parts:List (Nat×Operand)) (cs cs':List AV),ex pl s.ev cs parts=some cs'->(∀x∈cs,eW s.H x)-> ∀x∈cs',eW s.H x
 |[],cs,cs',hf,hc=>by simp only[ex]at hf;injection hf with hf;subst hf;exact hc
 |(f,x)::rest,cs,cs',hf,hc=>by
  simp only[ex]at hf
  split at hf
  ·rename_i off n ys hp hx
   obtain⟨t,ht,hys⟩:=Option.bind_eq_some_iff.1 hx
   split at hf
   ·refine qH h rest _ cs' hf fun y hy=>?_
    simp only[List.mem_append]at hy
    rcases hy with(hy|hy)|hy
    ·exact hc y (List.mem_of_mem_take hy)
    ·exact ra hys (eK h ht) y hy
    ·exact hc y (List.mem_of_mem_drop hy)
   ·cases hf
  ·cases hf
theorem yz (h:lK s) {a r i:Nat} {o:OObj} {e:List AV} (ho:(s.H a)[r]?=some o) (he:o.elems[i]?=some e): ∀x∈e,eW s.H x:=fun x hx=>by
 have hs:=h.2 a o (List.mem_of_getElem? ho) e (List.mem_of_getElem? he) x hx
 have hne:s.H a≠[]:=by intro h0;rw[h0]at ho;simp at ho
 cases x with
 |sl b _ _ _=>have hs:b=a:=hs;subst hs;exact hne
 |ptr b _ _ _=>have hs:b=a:=hs;subst hs;exact hne
 |p x=>trivial
 |junk=>trivial
theorem yi (h:lK s) {op:Op} {t:TV} (ht:ao P s.ev s.H op=some t):ff s.H t:=by
 cases op
 case load ty x=>
  simp only[ao]at ht
  split at ht
  ·exact mJ ht (fun y hy=>by simp only[List.mem_map]at hy;obtain⟨z,_,rfl⟩:=hy;trivial)
  ·split at ht
   ·rename_i o ho
    split at ht
    ·rename_i e he
     exact mJ ht (fun y hy=>yz h ho he y (List.mem_of_mem_drop hy))
    ·cases ht
   ·cases ht
  ·cases ht
 case indexAddr ty x ix=>
  simp only[ao]at ht
  split at ht
  ·split at ht
   ·cases ht
   ·split at ht
    ·split at ht
     ·split at ht
      ·injection ht with ht;subst ht;trivial
      ·cases ht
     ·cases ht
    ·rename_i e a r off len hs hx
     split at ht
     ·split at ht
      ·injection ht with ht;subst ht;have q:=eK h hx;exact q
      ·cases ht
     ·cases ht
    ·cases ht
  ·cases ht
 case fieldAddr ty x f=>
  simp only[ao]at ht
  split at ht
  ·split at ht
   ·injection ht with ht;subst ht;trivial
   ·cases ht
  ·rename_i hx
   split at ht
   ·injection ht with ht;subst ht;have q:=eK h hx;exact q
   ·cases ht
  ·cases ht
 case field ty x f=>
  simp only[ao]at ht
  split at ht
  ·rename_i hx
   exact mJ ht (fun y hy=>eK h hx y (List.mem_of_mem_drop hy))
  ·cases ht
 case slice ty x lo hi mx=>
  cases mx with
  |some _=>simp only[ao]at ht;cases ht
  |none=>
   simp only[ao]at ht
   split at ht
   ·split at ht
    ·split at ht
     ·injection ht with ht;subst ht;trivial
     ·cases ht
    ·cases ht
   ·rename_i hx
    split at ht
    ·split at ht
     ·injection ht with ht;subst ht;have q:=eK h hx;exact q
     ·split at ht
      ·injection ht with ht;subst ht;trivial
      ·cases ht
    ·cases ht
   ·cases ht
 case build ty parts=>
  simp only[ao]at ht
  split at ht
  ·split at ht
   ·obtain⟨cs,hcs,rfl⟩:=Option.map_eq_some_iff.1 ht
    exact qH h _ _ _ hcs (fun y hy=>by simp only[List.mem_map]at hy;obtain⟨z,_,rfl⟩:=hy;trivial)
   ·cases ht
  ·cases ht
 case nilCheck x=>
  simp only[ao]at ht
  split at ht
  ·injection ht with ht;subst ht;trivial
  ·rename_i hx;injection ht with ht;subst ht;have q:=eK h hx;exact q
  ·cases ht
 case makeFunc fn first captured=>
  cases fn with
  |func f=>
   simp only[ao]at ht
   split at ht
   ·obtain⟨cs,hcs,rfl⟩:=Option.map_eq_some_iff.1 ht
    obtain⟨ts,hts,hc⟩:=Option.bind_eq_some_iff.1 hcs
    intro x hx
    obtain⟨j,hj,rfl⟩:=List.getElem_of_mem hx
    obtain⟨h1,h2⟩:=(kC hc).2 j _ (List.getElem?_eq_getElem hj)
    obtain⟨y,y1,y2⟩:=(d5 hts).2 j _ h1
    have q:=eK h y2
    exact q
   ·cases ht
  |_=>simp only[ao]at ht;cases ht
 case call c=>
  obtain⟨callee,args,argTypes⟩:=c
  cases callee with
  |builtin b=>
   cases b
   case len=>
    simp only[ao]at ht
    split at ht
    ·split at ht
     ·injection ht with ht;subst ht;trivial
     ·injection ht with ht;subst ht;trivial
     ·injection ht with ht;subst ht;trivial
     ·cases ht
    ·cases ht
   all_goals (simp only[ao]at ht;cases ht)
  |value f=>simp only[ao]at ht;cases ht
  |invoke r m=>simp only[ao]at ht;cases ht
 all_goals (simp only[ao]at ht;cases ht)
end
end
section
section
variable {P:Program} {s s':AS} {H H':OH}
def ug (H H':OH):Prop:= ∀a,H a≠[]->H' a=H a
def mz (H H':OH):AV->Prop
 | .sl a _ _ _=>H' a=H a
 | .ptr a _ _ _=>H' a=H a
 |_=>True
def iB (H H':OH):TV->Prop
 | .one x=>mz H H' x
 | .agg cs=> ∀x∈cs,mz H H' x
 | .fn _ cs=> ∀x∈cs,mz H H' x
 | .tup ts=> ∀t∈ts,∀x∈t.2,mz H H' x
theorem ij {x:AV} (h:eW H x) (g:ug H H'):mz H H' x:=by
 cases x with
 |sl a _ _ _=>exact g a h
 |ptr a _ _ _=>exact g a h
 |p x=>trivial
 |junk=>trivial
theorem tu {t:TV} (h:ff H t) (g:ug H H'):iB H H' t:=by
 cases t with
 |one x=>exact ij h g
 |agg cs=>exact fun x hx=>ij (h x hx) g
 |fn f cs=>exact fun x hx=>ij (h x hx) g
 |tup ts=>exact fun t ht x hx=>ij (h t ht x hx) g
theorem iq (x:AV):mz H H x:=by cases x<;>first|rfl|trivial
theorem su (t:TV):iB H H t:=by
 cases t with
 |one x=>exact iq x
 |agg cs=>exact fun x _=>iq x
 |fn f cs=>exact fun x _=>iq x
 |tup ts=>exact fun t _ x _=>iq x
theorem px {ev ev':Operand->Option TV} {op:Op} (h: ∀x∈op.operands,ev x=ev' x):aj P ev op=aj P ev' op:=by
 cases op<;>simp only[Op.operands]at h<;>simp only[aj]
 case move x=>exact h x (by simp)
 case assign x=>exact h x (by simp)
 case pick c a b=>rw[h c (by simp),h a (by simp),h b (by simp)]
 case binOp op t x y t'=>rw[h x (by simp),h y (by simp)]
 case unOp op t x=>rw[h x (by simp)]
 case convert a b x=>rw[h x (by simp)]
 case extract x k=>rw[h x (by simp)]
theorem xX (k:Nat->Nat->Bool) {ev:Operand->Option TV} {op:Op}:aj P (fun x=>(ev x).map (aH k)) op=(aj P ev op).map (aH k):=by
 have key: ∀(t:TV) v,aH k t= .one (.p (.raw v))↔t= .one (.p (.raw v)):=fun t v=>by
  cases t with
  |one x=>
   cases x with
   |p x=>exact Iff.rfl
   |sl a r off len=>simp only[aH,aL];split<;>simp
   |ptr a r i j=>simp only[aH,aL];split<;>simp
   |junk=>simp[aH,aL]
  |agg cs=>simp[aH]
  |fn f cs=>simp[aH]
  |tup ts=>simp[aH]
 cases op<;>simp only[aj]<;>try rfl
 case pick c a b=>
  cases hc:ev c with
  |none=>rfl
  |some t=>
   simp only[Option.map_some]
   by_cases h1:t= .one (.p (.raw (.bool true)))
   ·subst h1;rfl
   ·by_cases h2:t= .one (.p (.raw (.bool false)))
    ·subst h2;rfl
    ·have e1: ∀b,aH k t≠ .one (.p (.raw (.bool b))):=fun b he=>by
      have:=(key t _).1 he
      cases b
      ·exact h2 this
      ·exact h1 this
     split
     ·rename_i he;injection he with he;exact absurd he (e1 _)
     ·rename_i he;injection he with he;exact absurd he (e1 _)
     ·split
      ·rename_i he;injection he with he;exact absurd he h1
      ·rename_i he;injection he with he;exact absurd he h2
      ·rfl
 case binOp op t x y t'=>
  cases hx:ev x with
  |none=>rfl
  |some tx=>
   cases hy:ev y with
   |none=>
    simp only[Option.map_some,Option.map_none]
    split
    ·rename_i he;cases he
    ·rfl
   |some ty=>
    simp only[Option.map_some]
    by_cases h1: ∃a b,tx= .one (.p (.raw a))/\ty= .one (.p (.raw b))
    ·obtain⟨a,b,rfl,rfl⟩:=h1
     simp only[aH,aL]
     cases ai (ox P t) op a b<;>rfl
    ·split
     ·rename_i a b ha hb
      injection ha with ha
      injection hb with hb
      exact absurd ⟨a,b,(key _ _).1 ha,(key _ _).1 hb⟩ h1
     ·split
      ·rename_i a b ha hb
       injection ha with ha
       injection hb with hb
       exact absurd ⟨a,b,ha,hb⟩ h1
      ·rfl
 case unOp op t x=>
  cases hx:ev x with
  |none=>rfl
  |some tx=>
   simp only[Option.map_some]
   by_cases h1: ∃a,tx= .one (.p (.raw a))
   ·obtain⟨a,rfl⟩:=h1
    simp only[aH,aL]
    cases eA op a<;>rfl
   ·split
    ·rename_i a ha;injection ha with ha;exact absurd ⟨a,(key _ _).1 ha⟩ h1
    ·split
     ·rename_i a ha;injection ha with ha;exact absurd ⟨a,ha⟩ h1
     ·rfl
 case convert a b x=>
  cases hx:ev x with
  |none=>rfl
  |some tx=>
   simp only[Option.map_some]
   by_cases h1: ∃q n,tx= .one (.p (.raw (.int q n)))
   ·obtain⟨q,n,rfl⟩:=h1
    simp only[aH,aL]
    cases P.underlying a with
    |none=>rfl
    |some u=>cases td P b<;>rfl
   ·split
    ·rename_i q n _ _ ha _ _;injection ha with ha;exact absurd ⟨_,_,(key _ _).1 ha⟩ h1
    ·split
     ·rename_i q n _ _ ha _ _;injection ha with ha;exact absurd ⟨_,_,ha⟩ h1
     ·rfl
 case extract x i=>
  cases hx:ev x with
  |none=>rfl
  |some tx=>
   cases tx with
   |one y=>rfl
   |agg cs=>rfl
   |fn f cs=>rfl
   |tup ts=>
    simp only[Option.map_some,aH,List.getElem?_map]
    cases hi:ts[i]? with
    |none=>rfl
    |some t=>
     obtain⟨b,cs⟩:=t
     cases b with
     |true=>rfl
     |false=>
      cases cs with
      |nil=>rfl
      |cons y l=>cases l<;>rfl
theorem m4 {ev ev':Operand->Option TV} {x:Option Operand} {d:Nat} (h: ∀y,x=some y->ev y=ev' y):eS ev x d=eS ev' x d:=by
 cases x with
 |none=>rfl
 |some y=>simp only[eS,h y rfl]
theorem oL {pl:List (Nat×Nat)} {ev ev':Operand->Option TV}: ∀(parts:List (Nat×Operand)) (cs:List AV),(∀p∈parts,ev p.2=ev' p.2)->ex pl ev cs parts=ex pl ev' cs parts
 |[],cs,_=>rfl
 |(f,x)::rest,cs,h=>by
  simp only[ex,h (f,x) (by simp)]
  split
  ·split
   ·exact oL rest _ (fun p hp=>h p (by simp[hp]))
   ·rfl
  ·rfl
theorem qU {n:Nat} {ev ev':Operand->Option TV}: ∀(parts:List (Nat×Operand)) (i:Nat),(∀p∈parts,ev p.2=ev' p.2)->fW ev n i parts=fW ev' n i parts
 |[],i,_=>rfl
 |(f,x)::rest,i,h=>by
  simp only[fW,h (f,x) (by simp),qU rest (i+1) (fun p hp=>h p (by simp[hp]))]
theorem jO {ev ev':Operand->Option TV}: ∀(l:List Operand),(∀x∈l,ev x=ev' x)->aQ ev l=aQ ev' l
 |[],_=>rfl
 |x::l,h=>by simp only[aQ,h x (by simp),jO l (fun y hy=>h y (by simp[hy]))]
theorem pt {ev ev':Operand->Option TV} {op:Op} (h: ∀x∈op.operands,ev x=ev' x) (hl: ∀x∈op.operands,∀t,ev x=some t->iB H H' t):ao P ev H op=ao P ev' H' op:=by
 cases op<;>simp only[Op.operands]at h hl<;>try (simp only[ao];done)
 case load t x=>
  simp only[ao,<- h x (by simp)]
  cases hx:ev x with
  |none=>rfl
  |some tx=>
   have:=hl x (by simp) tx hx
   cases tx with
   |one y=>
    cases y with
    |ptr a r i j=>simp only[show H' a=H a from this]
    |p y=>cases y<;>rfl
    |sl a r off len=>rfl
    |junk=>rfl
   |agg cs=>rfl
   |fn f cs=>rfl
   |tup ts=>rfl
 case indexAddr t x ix=>
  simp only[ao,<- h x (by simp),<- h ix (by simp)]
  cases dW P t with
  |none=>rfl
  |some e=>
   cases hx:ev x with
   |none=>rfl
   |some tx=>
    have:=hl x (by simp) tx hx
    cases tx with
    |one y=>
     cases y with
     |sl a r off len=>simp only[show H' a=H a from this]
     |p y=>cases y<;>rfl
     |ptr a r i j=>rfl
     |junk=>rfl
    |agg cs=>rfl
    |fn f cs=>rfl
    |tup ts=>rfl
 case fieldAddr t x f=>simp only[ao,<- h x (by simp)]
 case field t x f=>simp only[ao,<- h x (by simp)]
 case slice t x lo hi mx=>
  cases mx with
  |some m=>simp only[ao]
  |none=>
   simp only[ao,<- h x (by simp)]
   have hlo: ∀d,eS ev lo d=eS ev' lo d:=fun d=>m4 fun y hy=>h y (by subst hy;simp)
   have hhi: ∀d,eS ev hi d=eS ev' hi d:=fun d=>m4 fun y hy=>h y (by subst hy;cases lo<;>simp)
   simp only[hlo,hhi]
   cases dW P t with
   |none=>rfl
   |some e=>
    cases hx:ev x with
    |none=>rfl
    |some tx=>
     have:=hl x (by simp) tx hx
     cases tx with
     |one y=>
      cases y with
      |sl a r off len=>simp only[show H' a=H a from this]
      |p y=>cases y<;>rfl
      |ptr a r i j=>rfl
      |junk=>rfl
     |agg cs=>rfl
     |fn f cs=>rfl
     |tup ts=>rfl
 case build t parts=>
  simp only[ao]
  have: ∀pl cs,ex pl ev cs parts.toList=ex pl ev' cs parts.toList:=fun pl cs=>oL _ _ (fun p hp=>h p.2 (by simp only[List.mem_toArray,List.mem_map];exact⟨p,hp,rfl⟩))
  simp only[this]
 case nilCheck x=>simp only[ao,<- h x (by simp)]
 case makeFunc fn first captured=>
  cases fn with
  |func f=>
   simp only[ao]
   rw[jO captured.toList (fun x hx=>h x (by simp at hx⊢;exact .inr hx))]
  |_=>simp only[ao]
 case call c=>
  obtain⟨callee,⟨args⟩,⟨argTypes⟩⟩:=c
  cases callee with
  |builtin b=>
   cases b<;>try (simp only[ao];done)
   simp only[ao]
   simp only[Call.operands]at h
   split
   ·rename_i x t
    rw[h x (by simp)]
   ·rfl
  |value f=>simp only[ao]
  |invoke r m=>simp only[ao]
 all_goals rfl
theorem DY (x:PV):bo H' (.one (.p x))=bo H (.one (.p x)):=by
 have key: ∀G:OH,bo G (.one (.p x))= .one (.p x)\/(x= .raw (.slice none 0 0)/\bo G (.one (.p x))= .one (.p (.sl []))):=fun G=>by
  unfold bo
  split
  ·rename_i heq;cases heq
  ·rename_i heq;injection heq with heq;injection heq with heq;exact .inr ⟨heq,rfl⟩
  ·exact .inl rfl
 by_cases hx:x= .raw (.slice none 0 0)
 ·subst hx;rfl
 ·rcases key H with h1|⟨h1,_⟩
  ·rcases key H' with h2|⟨h2,_⟩
   ·rw[h1,h2]
   ·exact absurd h2 hx
  ·exact absurd h1 hx
theorem Ed (x:PV):newsOf H' (.one (.p x))=newsOf H (.one (.p x)):=by
 unfold newsOf
 split
 ·rename_i heq;injection heq with heq;injection heq with heq;subst heq;rfl
 ·rename_i heq;injection heq with heq;injection heq with heq;subst heq;rfl
 ·rename_i heq;cases heq
 ·rfl
theorem gD {t:TV} (hl:iB H H' t):bo H' t=bo H t/\ ∀b,az b H' t=az b H t:=by
 cases t with
 |one x=>
  cases x with
  |sl a r off len=>exact⟨by simp only[bo,show H' a=H a from hl],fun b=>by simp only[az,show H' a=H a from hl]⟩
  |p x=>exact⟨DY x,fun b=>rfl⟩
  |ptr a r i j=>exact⟨rfl,fun b=>rfl⟩
  |junk=>exact⟨rfl,fun b=>rfl⟩
 |agg cs=>exact⟨rfl,fun b=>rfl⟩
 |fn f cs=>exact⟨rfl,fun b=>rfl⟩
 |tup ts=>exact⟨rfl,fun b=>rfl⟩
theorem yq {t:TV} (hl:iB H H' t):newsOf H' t=newsOf H t:=by
 cases t with
 |one x=>
  cases x with
  |sl a r off len=>simp only[newsOf,show H' a=H a from hl]
  |p x=>exact Ed x
  |ptr a r i j=>rfl
  |junk=>rfl
 |agg cs=>rfl
 |fn f cs=>rfl
 |tup ts=>rfl
theorem u9 {items:List (dN P)} {ow:List Nat} {i d:Nat} {ev ev':Operand->Option TV} {op:Op} (h: ∀x∈op.operands,ev x=ev' x) (hl: ∀x∈op.operands,∀t,ev x=some t->iB H H' t):aI P items ow i d ev H op=aI P items ow i d ev' H' op:=by
 cases op<;>simp only[Op.operands]at h hl<;>try (simp only[aI];done)
 case box e x=>simp only[aI,<- h x (by simp)]
 case makeSlice t l c=>simp only[aI,<- h l (by simp),<- h c (by simp)]
 case buildSlice t n parts=>
  simp only[aI]
  have: ∀n i,fW ev n i parts.toList=fW ev' n i parts.toList:=fun n i=>qU _ _ (fun p hp=>h p.2 (by simp only[List.mem_toArray,List.mem_map];exact⟨p,hp,rfl⟩))
  simp only[this]
 case call c=>
  obtain⟨callee,⟨args⟩,⟨argTypes⟩⟩:=c
  simp only[Call.operands]at h hl
  cases callee with
  |value f=>
   have he:aQ ev args=aQ ev' args:=jO args (fun x hx=>h x (by simp[hx]))
   cases f<;>try (simp only[aI];done)
   ·rename_i k
    simp only[aI]
    rw[<- he,<- h (.tmp k) (by simp)]
    cases hcl:yN (ev (.tmp k))with
    |none=>cases List.find? (fun x=>x.i==i) items<;>cases aQ ev args<;>rfl
    |some fe=>
     obtain⟨f,extra⟩:=fe
     cases hts:aQ ev args with
     |none=>cases List.find? (fun x=>x.i==i) items<;>rfl
     |some ts0=>
      have hex: ∀t∈extra,iB H H' t:=fun t ht=>by
       unfold yN at hcl
       split at hcl
       ·rename_i f' cs hk
        injection hcl with hcl
        injection hcl with hcl hcl'
        subst hcl hcl'
        have hs:=hl (.tmp k) (by simp) _ hk
        simp only[List.mem_map]at ht
        obtain⟨y,hy,rfl⟩:=ht
        exact hs y hy
       ·split at hcl
        ·injection hcl with hcl
         injection hcl with hcl hcl'
         subst hcl hcl'
         simp at ht
        ·cases hcl
       ·cases hcl
      have hlv: ∀t∈ts0++extra,iB H H' t:=fun t ht=>by
       rcases List.mem_append.1 ht with ht|ht
       ·obtain⟨j,hj,rfl⟩:=List.getElem_of_mem ht
        obtain⟨x,hx,hxt⟩:=(d5 hts).2 j _ (List.getElem?_eq_getElem hj)
        exact hl x (by simp[List.mem_of_getElem? hx]) _ hxt
       ·exact hex t ht
      have e1:(ts0++extra).map (bo H')=(ts0++extra).map (bo H):=List.map_congr_left fun t ht=>(gD (hlv t ht)).1
      have e2: ∀b,(ts0++extra).all (az b H')=(ts0++extra).all (az b H):=fun b=>by
       rw[Bool.eq_iff_iff]
       simp only[List.all_eq_true]
       exact⟨fun hh t ht=>by rw[<- (gD (hlv t ht)).2 b];exact hh t ht,fun hh t ht=>by rw[(gD (hlv t ht)).2 b];exact hh t ht⟩
      cases List.find? (fun x=>x.i==i) items with
      |none=>rfl
      |some it=>
       have ec:(it.f=f/\(ts0++extra).map (bo H')=it.args/\(ts0++extra).all (az it.res.plain H')=true/\(!it.res.fam.isEmpty||noRefTV it.res.r)=true)↔(it.f=f/\(ts0++extra).map (bo H)=it.args/\(ts0++extra).all (az it.res.plain H)=true/\(!it.res.fam.isEmpty||noRefTV it.res.r)=true):=by rw[e1,e2]
       by_cases hc:it.f=f/\(ts0++extra).map (bo H)=it.args/\(ts0++extra).all (az it.res.plain H)=true/\(!it.res.fam.isEmpty||noRefTV it.res.r)=true
       ·simp only[]
        rw[if_pos hc,if_pos (ec.2 hc)]
       ·simp only[]
        rw[if_neg hc,if_neg (fun h=>hc (ec.1 h))]
   rename_i f
   simp only[aI]
   rw[<- he]
   cases hts:aQ ev args with
   |none=>cases List.find? (fun x=>x.i==i) items<;>rfl
   |some ts=>
    have hlv: ∀t∈ts,iB H H' t:=fun t ht=>by
     obtain⟨k,hk,rfl⟩:=List.getElem_of_mem ht
     obtain⟨x,hx,hxt⟩:=(d5 hts).2 k _ (List.getElem?_eq_getElem hk)
     exact hl x (by simp[List.mem_of_getElem? hx]) _ hxt
    have e1:ts.map (bo H')=ts.map (bo H):=List.map_congr_left fun t ht=>(gD (hlv t ht)).1
    have e2: ∀b,ts.all (az b H')=ts.all (az b H):=fun b=>by
     rw[Bool.eq_iff_iff]
     simp only[List.all_eq_true]
     exact⟨fun hh t ht=>by rw[<- (gD (hlv t ht)).2 b];exact hh t ht,fun hh t ht=>by rw[(gD (hlv t ht)).2 b];exact hh t ht⟩
    cases List.find? (fun x=>x.i==i) items with
    |none=>rfl
    |some it=>
     have ec:(it.f=f/\ts.map (bo H')=it.args/\ts.all (az it.res.plain H')=true/\(!it.res.fam.isEmpty||noRefTV it.res.r)=true)↔(it.f=f/\ts.map (bo H)=it.args/\ts.all (az it.res.plain H)=true/\(!it.res.fam.isEmpty||noRefTV it.res.r)=true):=by rw[e1,e2]
     by_cases hc:it.f=f/\ts.map (bo H)=it.args/\ts.all (az it.res.plain H)=true/\(!it.res.fam.isEmpty||noRefTV it.res.r)=true
     ·simp only[]
      rw[if_pos hc,if_pos (ec.2 hc)]
     ·simp only[]
      rw[if_neg hc,if_neg (fun h=>hc (ec.1 h))]
  |builtin b=>
   cases b<;>try (simp only[aI];done)
   simp only[aI]
   split
   ·rename_i x y t t'
    rw[<- h x (by simp),<- h y (by simp)]
    have e1:(ev y).bind (newsOf H')=(ev y).bind (newsOf H):=by
     cases hy:ev y with
     |none=>rfl
     |some ty=>exact yq (hl y (by simp) ty hy)
    rw[e1]
   ·rfl
  |invoke r m=>simp only[aI]
end
end
section
inductive Cd where
 |val (t:TV)
 |new (t:TV) (o:OObj) (l:List OObj)
 |wr (q:uX)
section
variable (P:Program) (items:List (dN P)) (ow:List Nat)
noncomputable def xJ (r:Option (TV×List OObj)):Option Cd:=match r with
 |some (t,[])=>some (.val t)
 |some (t,o::l)=>some (.new t o l)
 |none=>none
noncomputable def iH (i:Nat) (d:Option Tmp) (op:Op) (ev:Operand->Option TV) (H:OH):Option Cd:=
 if rm op then(aj P ev op).map .val
 else if Ci op then(ao P ev H op).map .val
 else match bN P ev H op with
  |some q=>some (.wr q)
  |none=>match d with
   |none=>none
   |some d=>xJ (aI P items ow i d ev H op)
def cG (d:Option Tmp) (s:AS):Cd->Option AS
 | .val t=>some (s.put d t)
 | .new t o l=>match d with
  |some d=>(match s.H d with|[]=>some (AS.put ⟨s.tmps,au s.H d (o::l)⟩ (some d) t)|_=>none)
  |none=>none
 | .wr q=>some (AS.put ⟨s.tmps.map (aH q.k),q.H⟩ d q.t)
theorem qb (i:Nat) (o:Oper) (s:AS):dZ P items ow i o s=(iH P items ow i o.dst o.op s.ev s.H).bind (cG o.dst s):=by
 unfold dZ iH
 split
 ·cases aj P s.ev o.op<;>rfl
 ·split
  ·cases ao P s.ev s.H o.op<;>rfl
  ·cases bN P s.ev s.H o.op with
   |some q=>rfl
   |none=>
    cases hd:o.dst with
    |none=>rfl
    |some d=>
     simp only
     cases hA:aI P items ow i d s.ev s.H o.op with
     |none=>rfl
     |some tF=>
      obtain⟨t,F⟩:=tF
      cases F with
      |nil=>rfl
      |cons o' l=>simp only[xJ,Option.bind_some,cG];cases s.H d<;>rfl
def gate (ops:Array Oper) (o:Oper) (s:AS):Option Bool:=match o.guard with
 |none=>some true
 |some (g,want)=>match(ops[g]?).bind (·.dst)with
  |none=>none
  |some d=>match s.tmps[d]? with
   |some (.one (.p (.raw (.bool b))))=>some (b==want)
   |some (.tup [])=>some false
   |_=>none
noncomputable def dq (ops:Array Oper) (i:Nat) (o:Oper) (s:AS):Option Cd:=match gate ops o s with
 |some true=>iH P items ow i o.dst o.op s.ev s.H
 |some false=>some (.val .undef)
 |none=>none
theorem cf (ops:Array Oper) (i:Nat) (o:Oper) (s:AS):cz P items ow ops i o s=(dq P items ow ops i o s).bind (cG o.dst s):=by
 unfold cz dq gate
 cases hg:o.guard with
 |none=>simp only;exact qb P items ow i o s
 |some gw=>
  obtain⟨g,want⟩:=gw
  simp only
  cases(ops[g]?).bind (·.dst)with
  |none=>rfl
  |some d=>
   simp only
   cases hs:s.tmps[d]? with
   |none=>rfl
   |some t=>
    cases t with
    |agg cs=>rfl
    |fn f cs=>rfl
    |tup ts=>cases ts<;>rfl
    |one x=>
     cases x with
     |sl a r off len=>rfl
     |ptr a r i j=>rfl
     |junk=>rfl
     |p x=>
      cases x with
      |sl xs=>rfl
      |ptr cs=>rfl
      |raw v=>
       cases v<;>try rfl
       rename_i b
       simp only
       by_cases hbw:b=want
       ·subst hbw;simp only[if_true,beq_self_eq_true];exact qb P items ow i o s
       ·rw[if_neg hbw]
        have:(b==want)=false:=by simpa using hbw
        rw[this];rfl
variable {P} {items} {ow}
variable {ops:Array Oper} {s s1 s2 s':AS} {H H':OH}
theorem lZ (s:AS) (d:Option Tmp) (t:TV) (k:Nat) (h: ∀e,d=some e->e≠k):(s.put d t).tmps[k]?=s.tmps[k]?:=by
 cases d with
 |none=>rfl
 |some e=>simp only[AS.put];exact List.getElem?_set_ne (h e rfl)
theorem D1 (s:AS) (d:Option Tmp) (t:TV) {x:Operand} (h: ∀e,d=some e->x≠ .tmp e):(s.put d t).ev x=s.ev x:=by
 cases x with
 |tmp k=>exact lZ s d t k (fun e he hk=>h e he (by rw[hk]))
 |const v=>rfl
 |global g=>rfl
 |func f=>rfl
theorem eM (s:AS) {d e:Option Tmp} (t u:TV) (h: ∀k,d=some k->e≠some k):(s.put d t).put e u=(s.put e u).put d t:=by
 cases d with
 |none=>rfl
 |some d=>
  cases e with
  |none=>rfl
  |some e=>
   have:d≠e:=fun hde=>h d rfl (by rw[hde])
   simp only[AS.put]
   rw[List.set_comm _ _ this]
def iu (ops:Array Oper) (o:Oper) (d:Option Tmp):Prop:= ∀e,d=some e->e∉o.looksAt ops
theorem iu.op {o:Oper} {d:Option Tmp} (h:iu ops o d): ∀x∈o.op.operands,∀e,d=some e->x≠ .tmp e:=fun x hx e he hxe=>by
 subst hxe
 exact h e he (List.mem_append_left _ (List.mem_filterMap.2 ⟨.tmp e,by simpa using hx,rfl⟩))
theorem iu.gate {o:Oper} {d:Option Tmp} (h:iu ops o d) {g:Nat} {w:Bool} (hg:o.guard=some (g,w)) {k:Tmp} (hk:(ops[g]?).bind (·.dst)=some k): ∀e,d=some e->e≠k:=fun e he hek=>by
 subst hek
 refine h e he (List.mem_append_right _ ?_)
 simp only[hg,hk]
 simp
theorem y8 {o:Oper} {d:Option Tmp} (h:iu ops o d) (t:TV):gate ops o (s.put d t)=gate ops o s:=by
 unfold gate
 cases hg:o.guard with
 |none=>rfl
 |some gw=>
  obtain⟨g,want⟩:=gw
  simp only
  cases hk:(ops[g]?).bind (·.dst)with
  |none=>rfl
  |some k=>simp only;rw[lZ s d t k (h.gate hg hk)]
theorem C4 (k:Nat->Nat->Bool) (H':OH) (x:Operand):AS.ev ⟨s.tmps.map (aH k),H'⟩ x=(s.ev x).map (aH k):=by
 cases x with
 |tmp t=>simp only[AS.ev,List.getElem?_map]
 |const v=>
  simp only[AS.ev,Option.map_some]
  congr 1
  unfold ac
  split
  ·split
   ·simp only[aH];congr 1;rw[List.map_map];rfl
   ·rfl
  ·split<;>rfl
 |global g=>rfl
 |func f=>rfl
theorem yD {o:Oper} (k:Nat->Nat->Bool) (H':OH):gate ops o ⟨s.tmps.map (aH k),H'⟩=gate ops o s:=by
 unfold gate
 cases hg:o.guard with
 |none=>rfl
 |some gw=>
  obtain⟨g,want⟩:=gw
  simp only
  cases hk:(ops[g]?).bind (·.dst)with
  |none=>rfl
  |some e=>
   simp only[List.getElem?_map]
   cases s.tmps[e]? with
   |none=>rfl
   |some t=>
    cases t with
    |one x=>
     cases x with
     |p x=>rfl
     |sl a r off len=>simp only[Option.map_some,aH,aL];cases k a r<;>rfl
     |ptr a r i j=>simp only[Option.map_some,aH,aL];cases k a r<;>rfl
     |junk=>rfl
    |agg cs=>rfl
    |fn f cs=>rfl
    |tup ts=>cases ts<;>rfl
theorem uy {ev ev':Operand->Option TV} {op:Op} (h: ∀x∈op.operands,ev x=ev' x):bN P ev H op=bN P ev' H op:=by
 cases op<;>simp only[Op.operands]at h<;>try (simp only[bN];done)
 case store t x y=>simp only[bN,<- h x (by simp),<- h y (by simp)]
 case call c=>
  obtain⟨callee,⟨args⟩,⟨argTypes⟩⟩:=c
  simp only[Call.operands]at h
  simp only[bN]
  split
  ·rename_i x y t t'
   rw[<- h x (by simp),<- h y (by simp)]
  ·rfl
theorem mY {i:Nat} {d:Option Tmp} {ev ev':Operand->Option TV} {op:Op} (h: ∀x∈op.operands,ev x=ev' x) (hs: ∀x∈op.operands,∀t,ev x=some t->iB H H' t) (hD:H'=H\/ ∀e G,bN P e G op=none):
  iH P items ow i d op ev H=iH P items ow i d op ev' H':=by
 unfold iH
 rw[px h,pt h hs]
 have hd:bN P ev H op=bN P ev' H' op:=by
  rcases hD with rfl|hD
  ·exact uy h
  ·rw[hD,hD]
 rw[hd]
 have ha: ∀d,aI P items ow i d ev H op=aI P items ow i d ev' H' op:=fun d=>u9 h hs
 simp only[ha]
theorem cM {i:Nat} {o:Oper} {d:Option Tmp} (h:iu ops o d) (t:TV):dq P items ow ops i o (s.put d t)=dq P items ow ops i o s:=by
 unfold dq
 rw[y8 h,gZ]
 split
 ·exact(mY (fun x hx=>(D1 s d t (h.op x hx)).symm) (fun x _ t _=>su t) (.inl rfl)).symm
 ·rfl
 ·rfl
theorem lN {i:Nat} {o:Oper} (hl:lK s) (hg:ug s.H H') (hD: ∀e G,bN P e G o.op=none):dq P items ow ops i o ⟨s.tmps,H'⟩=dq P items ow ops i o s:=by
 unfold dq
 rw[show gate ops o ⟨s.tmps,H'⟩=gate ops o s from rfl]
 split
 ·refine(mY (fun x _=>?_) (fun x _ t ht=>tu (eK hl ht) hg) (.inr hD)).symm
  cases x<;>rfl
 ·rfl
 ·rfl
theorem qK {i:Nat} {o:Oper} (hM:rm o.op=true) {out:Cd} (h:dq P items ow ops i o s=some out): ∃t,out= .val t:=by
 unfold dq iH at h
 split at h
 ·rw[if_pos hM]at h
  obtain⟨t,_,rfl⟩:=Option.map_eq_some_iff.1 h
  exact⟨t,rfl⟩
 ·injection h with h;exact⟨_,h.symm⟩
 ·cases h
theorem pB {i:Nat} {o:Oper} (hM:rm o.op=true) (tm:List TV) (H H':OH):dq P items ow ops i o ⟨tm,H⟩=dq P items ow ops i o ⟨tm,H'⟩:=by
 unfold dq iH
 rw[show gate ops o ⟨tm,H⟩=gate ops o ⟨tm,H'⟩from rfl]
 simp only[hM,if_true]
 rfl
theorem lR {i:Nat} {o:Oper} (hM:rm o.op=true) (k:Nat->Nat->Bool) (H':OH) {t':TV}:dq P items ow ops i o ⟨s.tmps.map (aH k),H'⟩=some (.val t')↔ ∃t,dq P items ow ops i o s=some (.val t)/\t'=aH k t:=by
 unfold dq iH
 rw[yD]
 cases gate ops o s with
 |none=>simp
 |some b=>
  cases b with
  |false=>
   simp only[Option.some.injEq,Cd.val.injEq]
   constructor
   ·rintro rfl;exact⟨_,rfl,rfl⟩
   ·rintro⟨t,rfl,rfl⟩;rfl
  |true=>
   simp only[hM,if_true]
   have e:aj P (AS.ev ⟨s.tmps.map (aH k),H'⟩) o.op=(aj P s.ev o.op).map (aH k):=by
    rw[<- xX]
    exact px (fun x _=>C4 k H' x)
   rw[e]
   cases aj P s.ev o.op with
   |none=>simp
   |some t=>
    simp only[Option.map_some,Option.some.injEq,Cd.val.injEq]
    constructor
    ·rintro rfl;exact⟨t,rfl,rfl⟩
    ·rintro⟨t,rfl,rfl⟩;rfl
theorem AR (tm:List TV) (H:OH) (d:Option Tmp) (t:TV):AS.put ⟨tm,H⟩ d t=⟨(AS.put ⟨tm,H⟩ d t).tmps,H⟩:=by cases d<;>rfl
theorem wc (s:AS) (k:Nat->Nat->Bool) (H':OH) (d:Option Tmp) (t:TV):(⟨(s.put d t).tmps.map (aH k),H'⟩:AS)=AS.put ⟨s.tmps.map (aH k),H'⟩ d (aH k t):=by
 cases d with
 |none=>rfl
 |some d=>simp only[AS.put,List.map_set]
def Ez (P:Program) (oi oj:Oper):Prop:=rm oi.op=true\/rm oj.op=true\/((∀e G,bN P e G oi.op=none)/\ ∀e G,bN P e G oj.op=none)
theorem lB {d:Option Tmp} {out:Cd} (hw: ∀q,out≠ .wr q) (h:cG d s out=some s1): ∃t H1,s1=AS.put ⟨s.tmps,H1⟩ d t/\ug s.H H1/\((H1=s.H/\out= .val t)\/ ∃e o l,d=some e/\s.H e=[]/\H1=au s.H e (o::l)/\out= .new t o l):=by
 cases out with
 |val t=>simp only[cG]at h;injection h with h;exact⟨t,s.H,h.symm,fun _ _=>rfl,.inl ⟨rfl,rfl⟩⟩
 |new t o l=>
  simp only[cG]at h
  cases d with
  |none=>cases h
  |some e=>
   simp only at h
   split at h
   ·rename_i hH
    injection h with h
    refine⟨t,au s.H e (o::l),h.symm,fun a ha=>?_,.inr ⟨e,o,l,rfl,hH,rfl,rfl⟩⟩
    exact bv (by rintro rfl;exact ha hH)
   ·cases h
 |wr q=>exact absurd rfl (hw q)
theorem xS {i j:Nat} {oi oj:Oper} (hl:lK s) (hij:iu ops oj oi.dst) (hji:iu ops oi oj.dst) (hd: ∀k,oi.dst=some k->oj.dst≠some k) (hsw:Ez P oi oj)
  (h1:cz P items ow ops i oi s=some s1) (h2:cz P items ow ops j oj s1=some s'): ∃s2,cz P items ow ops j oj s=some s2/\cz P items ow ops i oi s2=some s':=by
 rw[cf]at h1 h2
 obtain⟨ui,hui,h1⟩:=Option.bind_eq_some_iff.1 h1
 obtain⟨uj,huj,h2⟩:=Option.bind_eq_some_iff.1 h2
 by_cases hMi:rm oi.op=true
 ·obtain⟨t,rfl⟩:=qK hMi hui
  simp only[cG]at h1
  injection h1 with h1
  subst h1
  rw[cM hij]at huj
  cases uj with
  |val u=>
   simp only[cG]at h2
   injection h2 with h2
   subst h2
   refine⟨s.put oj.dst u,by rw[cf,huj];rfl,?_⟩
   rw[cf,cM hji,hui]
   simp only[Option.bind_some,cG]
   rw[eM s t u hd]
  |new u o l=>
   simp only[cG,gZ]at h2
   cases hdj:oj.dst with
   |none=>rw[hdj]at h2;cases h2
   |some e=>
    rw[hdj]at h2
    simp only at h2
    split at h2
    ·rename_i hH
     injection h2 with h2
     subst h2
     refine⟨AS.put ⟨s.tmps,au s.H e (o::l)⟩ (some e) u,by rw[cf,huj];simp only[Option.bind_some,cG,hdj,hH],?_⟩
     rw[cf,<- hdj,cM hji,pB hMi s.tmps _ s.H]
     rw[show(⟨s.tmps,s.H⟩:AS)=s from rfl,hui]
     simp only[Option.bind_some,cG]
     rw[eM _ u t (fun k hk hk'=>hd k hk' (by rw[hk]))]
     congr 2
     cases oi.dst<;>rfl
    ·cases h2
  |wr q=>
   simp only[cG]at h2
   injection h2 with h2
   subst h2
   refine⟨AS.put ⟨s.tmps.map (aH q.k),q.H⟩ oj.dst q.t,by rw[cf,huj];rfl,?_⟩
   rw[cf,cM hji,(lR hMi q.k q.H).2 ⟨t,hui,rfl⟩]
   simp only[Option.bind_some,cG]
   rw[wc,eM _ _ _ (fun k hk hk'=>hd k hk' (by rw[hk]))]
 ·by_cases hMj:rm oj.op=true
  ·obtain⟨u,rfl⟩:=qK hMj huj
   simp only[cG]at h2
   injection h2 with h2
   subst h2
   cases ui with
   |val t=>
    simp only[cG]at h1
    injection h1 with h1
    subst h1
    rw[cM hij]at huj
    refine⟨s.put oj.dst u,by rw[cf,huj];rfl,?_⟩
    rw[cf,cM hji,hui]
    simp only[Option.bind_some,cG]
    rw[eM s t u hd]
   |new t o l=>
    simp only[cG]at h1
    cases hdi:oi.dst with
    |none=>rw[hdi]at h1;cases h1
    |some e=>
     rw[hdi]at h1
     simp only at h1
     split at h1
     ·rename_i hH
      injection h1 with h1
      subst h1
      rw[<- hdi,cM hij,pB hMj s.tmps _ s.H,show(⟨s.tmps,s.H⟩:AS)=s from rfl]at huj
      refine⟨s.put oj.dst u,by rw[cf,huj];rfl,?_⟩
      rw[cf,cM hji,hui]
      simp only[Option.bind_some,cG,gZ,hdi,hH]
      rw[eM _ t u (fun k hk=>hd k (by rw[hdi];exact hk))]
      congr 2
      cases oj.dst<;>rfl
     ·cases h1
   |wr q=>
    simp only[cG]at h1
    injection h1 with h1
    subst h1
    rw[cM hij]at huj
    obtain⟨u0,hu0,rfl⟩:=(lR hMj q.k q.H).1 huj
    refine⟨s.put oj.dst u0,by rw[cf,hu0];rfl,?_⟩
    rw[cf,cM hji,hui]
    simp only[Option.bind_some,cG]
    rw[wc,eM _ _ _ hd]
  ·obtain⟨hDi,hDj⟩:(∀e G,bN P e G oi.op=none)/\ ∀e G,bN P e G oj.op=none:=by
    rcases hsw with h|h|h
    ·exact absurd h hMi
    ·exact absurd h hMj
    ·exact h
   have nowr: ∀{i:Nat} {o:Oper} {s:AS} {u:Cd},(∀e G,bN P e G o.op=none)->dq P items ow ops i o s=some u-> ∀q,u≠ .wr q:=fun{i o s u} hD hu q hq=>by
    subst hq
    unfold dq iH at hu
    split at hu
    ·split at hu
     ·obtain⟨_,_,hh⟩:=Option.map_eq_some_iff.1 hu;cases hh
     ·split at hu
      ·obtain⟨_,_,hh⟩:=Option.map_eq_some_iff.1 hu;cases hh
      ·rw[hD]at hu
       simp only at hu
       split at hu
       ·cases hu
       ·unfold xJ at hu
        split at hu<;>cases hu
    ·cases hu
    ·cases hu
   obtain⟨t,H1,rfl,hg1,hc1⟩:=lB (nowr hDi hui) h1
   rw[cM hij,lN hl hg1 hDj]at huj
   obtain⟨u,H2,rfl,hg2,hc2⟩:=lB (nowr hDj huj) h2
   simp only[gZ]at hc2 hg2
   -- what j does to s alone
   have hj: ∃H3,cz P items ow ops j oj s=some (AS.put ⟨s.tmps,H3⟩ oj.dst u)/\ug s.H H3/\((H3=s.H/\H2=H1)\/ ∃e o l,oj.dst=some e/\H3=au s.H e (o::l)/\H2=au H1 e (o::l)):=by
    rcases hc2 with⟨e1,e2⟩|⟨e,o,l,e1,e2,e3,e4⟩
    ·exact⟨s.H,by rw[cf,huj,e2];rfl,fun _ _=>rfl,.inl ⟨rfl,e1⟩⟩
    ·have hse:s.H e=[]:=by
      rcases hc1 with⟨c1,_⟩|⟨e',o',l',c1,c2,c3,_⟩
      ·rw[<- c1];exact e2
      ·rw[c3,bv (by rintro rfl;exact hd _ c1 e1)]at e2;exact e2
     refine⟨au s.H e (o::l),by rw[cf,huj,e4];simp only[Option.bind_some,cG,e1,hse],fun a ha=>bv (by rintro rfl;exact ha hse),.inr ⟨e,o,l,e1,rfl,e3⟩⟩
   obtain⟨H3,hj1,hg3,hj2⟩:=hj
   refine⟨_,hj1,?_⟩
   rw[cf,cM hji,lN hl hg3 hDi,hui]
   simp only[Option.bind_some]
   rcases hc1 with⟨c1,c2⟩|⟨e',o',l',c1,c2,c3,c4⟩
   ·subst c2
    simp only[cG]
    rw[eM _ u t (fun k hk hk'=>hd k hk' (by rw[hk]))]
    congr 1
    have:H3=H2:=by
     rcases hj2 with⟨q1,q2⟩|⟨e,o,l,q0,q1,q2⟩
     ·rw[q1,q2,c1]
     ·rw[q1,q2,c1]
    rw[this,AR s.tmps H1,c1]
    cases oi.dst<;>rfl
   ·subst c4
    have hH3:H3 e'=[]:=by
     rcases hj2 with⟨q1,_⟩|⟨e,o,l,q0,q1,_⟩
     ·rw[q1];exact c2
     ·rw[q1,bv (by rintro rfl;exact hd _ c1 q0)];exact c2
    simp only[cG,c1,gZ,hH3]
    have e1:(⟨(AS.put ⟨s.tmps,H3⟩ oj.dst u).tmps,au H3 e' (o'::l')⟩:AS)=AS.put ⟨s.tmps,au H3 e' (o'::l')⟩ oj.dst u:=by cases oj.dst<;>rfl
    rw[e1,eM _ u t (fun k hk hk'=>hd k (by rw[c1];exact hk') (by rw[hk]))]
    congr 1
    have:au H3 e' (o'::l')=H2:=by
     rcases hj2 with⟨q1,q2⟩|⟨e,o,l,q0,q1,q2⟩
     ·rw[q1,q2,c3]
     ·rw[q1,q2,c3]
      funext z
      have hne:e'≠e:=by rintro rfl;exact hd _ c1 q0
      by_cases h1:z=e'
      ·subst h1;rw[bV,bv hne,bV]
      ·rw[bv h1]
       by_cases h2:z=e
       ·subst h2;rw[bV,bV]
       ·rw[bv h2,bv h2,bv h1]
    rw[this,AR s.tmps H1]
    rfl
end
end
end Go.Proofs.YtpgghglbpcabkaaGreat
