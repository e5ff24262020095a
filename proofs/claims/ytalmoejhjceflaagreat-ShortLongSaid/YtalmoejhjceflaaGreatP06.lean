/-
  Part 7 of a proof (walks and plain facts).
-/
import Derived.Test.YtalmoejhjceflaaGreatP05
import Derived.StillTailTactics
import Derived.Sort.Grow
import Derived.Deep.DeepFit
set_option linter.all false
set_option maxRecDepth 100000
set_option maxHeartbeats 64000000
open Option renaming map_some → ah
open List renaming all_eq_true → aj
open List renaming mem_map → am
open List renaming getElem?_eq_getElem → aw
open List renaming mem_of_getElem? → ax
open List renaming getElem?_map → az
namespace Go.Proofs.YtalmoejhjceflaaGreat
open Go.RowKit
def Lj:List Int->Int
 |[]=>0
 |a::l=>if a !=0 then a else Lj l
theorem JO {x:List Int} {k:Nat} {a:Int} (h:x[k]?=some a):Lj (x.drop k)=if a !=0 then a else Lj (x.drop (k+1)):=by
 obtain⟨h1,rfl⟩:=List.getElem?_eq_some_iff.1 h;rw[List.drop_eq_getElem_cons h1];rfl
theorem E9 (A:Option Addr) (c:Nat) (x:List Int) (w:World) (hx:RdI .i64 w A x) (lx:x.length<=9223372036854775807):
  Calls Tryz.prog 191 #[.slice A x.length c] w fun e w'=>e= .returned (.int .i64 (Lj x))/\w=w':=by
 have HX:=Lib.hid hx;clear hx
 go_enter Tryz.func191,Tryz.ntmps191
 go_wp2_with fail
 go_loop [8,5] (fun i _=> ∃k:Nat,k<=x.length/\i= .int .i64 k/\Hid (Lj (x.drop k)=Lj x)) (fun i _=>x.length-(intOf i).toNat)
 case atStart=>exact⟨0,Nat.zero_le _,rfl,Lib.hid rfl⟩
 case round=>
  obtain⟨k,hk,rfl,HR⟩:=hrel;by_cases hlt:k<x.length
  ·obtain⟨a,ha⟩:=getElem?_of_lt hlt;obtain⟨b,off,rfl,hc⟩:=HX.out.at_ ha;have HA:=Lib.hid (JO ha);clear ha;by_cases h0:(a !=0)=true
   ·go_wp2_with fail
    go_ret
    exact⟨fq (by rw[<- HR.out,HA.out,if_pos h0]),rfl⟩
   have h0':(a !=0)=false:=by simpa using h0
   have H0:=Lib.hid h0';clear h0
   go_wp2_with fail
   go_round
   case rel=>exact⟨k+1,by omega,by go_num,Lib.hid (by rw[<- HR.out,HA.out,if_neg (by rw[H0.out];simp)])⟩
   case measure=>simp[intOf];omega
  go_wp2_with fail
  go_ret
  exact⟨fq (by rw[<- HR.out,List.drop_of_length_le (by omega)];rfl),rfl⟩
theorem qY (a b:Int) (w:World):
  Calls Tryz.prog 192 #[.int .i64 a,.int .i64 b] w fun e w'=>e= .returned (.int .i64 (ng a b))/\w'=w:=
 (lH a b w).mono fun _ _ ⟨h1,h2⟩=>⟨h1,h2.symm⟩
theorem rj (A B:Option Addr) (c d:Nat) (x y:List Int) (w:World) (hx:RdI .i64 w A x) (hy:RdI .i64 w B y) (lx:x.length<=9223372036854775807) (ly:y.length<=9223372036854775807):
  Calls Tryz.prog 193 #[.slice A x.length c,.slice B y.length d] w fun e w'=>e= .returned (.int .i64 (cB x y))/\w'=w:=
 (uB A B c d x y w hx hy lx ly).mono fun _ _ ⟨h1,h2⟩=>⟨h1,h2.symm⟩
def E7 (k1:Int) (x:List Int) (k2:Int) (y:List Int):Int:=Lj [ng k1 k2,cB x y]
theorem cu {P:Program} {id:Nat} {Q:Exit->Act->World->Prop} {a:Act} {w:World} {l:List Oper} (n:Nat) (hm:P.follows .mixedOrders=true) (hB:Region.lexTailB .any l.toArray n=true)
  (h:wpStill P l.toArray w.drew (fun a'=>wpList P l.toArray Q (l.drop n) a' w.drew) (l.take n) a):(Code.region id l.toArray true).wp P Q a w:=wp_region_still_tail n hm hB h
theorem B6 (w:World) (os:Array Obj) (o:Obj):(Sort.grow w os).alloc o=Sort.grow w (os.push o):=by
 unfold Sort.grow World.alloc;simp
theorem IM (w:World) (a b:Obj):((w.alloc a).alloc b).drew=Sort.grow (w.drewN 1) #[a,b]:=by
 unfold Sort.grow;rw[show(w.drewN 1).heap++ #[a,b]=(w.heap.push a).push b from by
  show w.heap++ #[a,b]=_;apply Array.ext';simp]
 rfl
theorem wC (w:World) (a b c d:Value) (t:TypeId):
  ((w.alloc (.cells #[a,b] t)).alloc (.cells #[c,d] t)).drew.cell? ⟨w.heap.size,0,none⟩=some a/\((w.alloc (.cells #[a,b] t)).alloc (.cells #[c,d] t)).drew.cell? ⟨w.heap.size,1,none⟩=some b/\
  ((w.alloc (.cells #[a,b] t)).alloc (.cells #[c,d] t)).drew.cell? ⟨w.heap.size+1,0,none⟩=some c/\((w.alloc (.cells #[a,b] t)).alloc (.cells #[c,d] t)).drew.cell? ⟨w.heap.size+1,1,none⟩=some d/\
  Ext w ((w.alloc (.cells #[a,b] t)).alloc (.cells #[c,d] t)).drew/\ ∃os,((w.alloc (.cells #[a,b] t)).alloc (.cells #[c,d] t)).drew=Sort.grow (w.drewN 1) os:=
 ⟨by go_simp,by go_simp,by go_simp,by go_simp,(((Ext.refl _).alloc _).alloc _).drew,_,IM w _ _⟩
theorem jp (k1 k2:Int) (A B:Option Addr) (c d:Nat) (x y:List Int) (w:World) (hx:RdI .i64 w A x) (hy:RdI .i64 w B y) (lx:x.length<=9223372036854775807) (ly:y.length<=9223372036854775807):
  Calls Tryz.prog 132 #[.agg #[.int .i64 k1,.slice A x.length c],.agg #[.int .i64 k2,.slice B y.length d]] w fun e w'=>
   e= .returned (.int .i64 (E7 k1 x k2 y))/\ ∃q os,w'=Sort.grow (w.drewN q) os:=by
 have HX:=Lib.hid hx;have HY:=Lib.hid hy;clear hx hy
 go_enter Tryz.func132,Tryz.ntmps132
 go_wp2_with fail
 obtain⟨c1,c2,c3,c4,he,hg⟩:=wC w (.int .i64 k1) (.slice A x.length c) (.int .i64 k2) (.slice B y.length d) 177;have HE:=Lib.hid he;have HG:=Lib.hid hg;clear he hg;generalize(w.alloc (.cells #[.int .i64 k1,.slice A x.length c] 177)).alloc (.cells #[.int .i64 k2,.slice B y.length d] 177)=w2 at*
 refine cu 10 (by kernel_rfl) (by kernel_rfl) ?_;simp only[List.take_succ_cons,List.take_zero,List.drop_succ_cons,List.drop_zero];generalize w2.drew=w3 at*
 iterate 4 still_step
 still_call (qY _ _ _)
 iterate 4 still_step
 still_call (rj A B c d x y _ (HX.out.ext HE.out) (HY.out.ext HE.out) lx ly)
 refine wpStill_nil ?_;have hor:=E9 (some ⟨w3.heap.size,0,none⟩) 2 [ng k1 k2,cB x y] (w3.alloc (.cells #[.int .i64 (ng k1 k2),.int .i64 (cB x y)] 3)) (fun _=>⟨w3.heap.size,0,rfl,fun i v hv=>by
  match i,hv with
  |0,hv=>simp at hv;subst hv;go_simp
  |1,hv=>simp at hv;subst hv;go_simp⟩) (by simp)
 rw[show[ng k1 k2,cB x y].length=2 from rfl]at hor;have HOR:=Lib.hid hor;clear hor
 go_wp2_with fail
 refine HOR.out.mono ?_;rintro e w' ⟨rfl,rfl⟩
 go_wp2_with fail
 go_ret
 obtain⟨os,rfl⟩:=HG.out;exact⟨rfl,1,_,B6 _ _ _⟩
theorem Tryz.inU32:(Tryz.prog.info? 165).map (fun i=>(i.zero,i.size,i.bytes))=some (some (.int .u32 0),1,4):=by kernel_rfl
def sg (z:Int):Int:=if z<0 then -1 else if z=0 then 0 else 1
theorem Gy (u:Nat):natV [u%4294967296,u/4294967296]=u:=by simp[natV];omega
def mL (a b:Nat):Int:=if a<b then -1 else if a=b then 0 else 1
theorem ta {l:List Nat} {k a:Nat} (h:l[k]?=some a):natV l=natV (l.take k)+4294967296^k*(a+4294967296*natV (l.drop (k+1))):=by
 have hk:=(List.getElem?_eq_some_iff.1 h).1
 conv=>lhs;rw[<- List.take_append_drop k l]
 rw[ik,List.length_take,Nat.min_eq_left (by omega),List.drop_eq_getElem_cons hk,natV,(List.getElem?_eq_some_iff.1 h).2]
theorem Jb {l:List Nat} (h:Lmb l) (k:Nat):Lmb (l.take k):=fun a ha=>h a (List.mem_of_mem_take ha)
theorem s8 {l m:List Nat} {k a b:Nat} (hl:Lmb l) (ha:l[k]?=some a) (hb:m[k]?=some b) (hd:l.drop (k+1)=m.drop (k+1)) (hab:a<b):natV l<natV m:=by
 have hk:=(List.getElem?_eq_some_iff.1 ha).1;rw[ta ha,ta hb,hd];have h1:=f8 (Jb hl k);rw[List.length_take,Nat.min_eq_left (by omega)]at h1;have h2:4294967296^k*(a+1+4294967296*natV (m.drop (k+1)))<=4294967296^k*(b+4294967296*natV (m.drop (k+1))):=Nat.mul_le_mul_left _ (by omega);have e:4294967296^k*(a+1+4294967296*natV (m.drop (k+1)))=4294967296^k+4294967296^k*(a+4294967296*natV (m.drop (k+1))):=by grind
 omega
theorem lV {l m:List Nat} (hl:Lmb l) (hm:nN m) (h:l.length<m.length):natV l<natV m:=by
 have h1:=f8 hl;have h2:=sa hm (by intro e;rw[e]at h;simp at h);have h3:4294967296^l.length<=4294967296^(m.length-1):=Nat.pow_le_pow_right (by omega) (by omega);omega
theorem w9 {a b:Nat} (h:a<b):mL a b= -1:=by simp[mL,h]
theorem Dy {a b:Nat} (h:b<a):mL a b=1:=by unfold mL;rw[if_neg (by omega),if_neg (by omega)]
theorem Fg {l m:List Nat} {k a:Nat} (ha:l[k]?=some a) (hb:m[k]?=some a) (hd:l.drop (k+1)=m.drop (k+1)):l.drop k=m.drop k:=by
 obtain⟨h1,rfl⟩:=List.getElem?_eq_some_iff.1 ha;obtain⟨h2,h3⟩:=List.getElem?_eq_some_iff.1 hb;rw[List.drop_eq_getElem_cons h1,List.drop_eq_getElem_cons h2,hd,h3]
section
def eh (H:OH):AV->Prop
 | .sl a _ _ _=>H a≠[]
 | .ptr a _ _ _=>H a≠[]
 | .fn _ a qs=>H a≠[]/\qs≠[]
 |_=>True
def fj (H:OH):TV->Prop
 | .one x=>eh H x
 | .agg cs=> ∀x∈cs,eh H x
 | .fn _ cs=> ∀x∈cs,eh H x
 | .tup ts=> ∀t∈ts,∀x∈t.2,eh H x
def iw (s:AS):Prop:=(∀(t:Nat) x,s.tmps[t]?=some x->fj s.H x)/\ ∀a,∀o∈s.H a,selfO a o
section
variable {P:Program} {s s':AS} {H:OH}
theorem cO {w0 w:World} {O X:Nat->Prop} {a:Act} (h:cW w0 O X s a w):iw s:=by
 obtain⟨_,_,ρ,hinv,htm⟩:=h;have av: ∀x v,AV.rel ρ s.H (Xo X ρ s.H) w x v->eh s.H x:=fun x v hx=>by
  cases x with
  |p x=>trivial
  |sl a r off len=>obtain⟨o,h1,_⟩:=hx;intro h0;rw[h0]at h1;simp at h1
  |ptr a r i j=>obtain⟨o,_,_,h1,_⟩:=hx;intro h0;rw[h0]at h1;simp at h1
  |fn f a qs=>obtain⟨vs,_,_,g0,h3⟩:=hx;obtain⟨u,_,o,_,_,h1,_⟩:=h3 0 qs[0] (aw g0);exact⟨fun h0=>by rw[h0]at h1;simp at h1,List.ne_nil_of_length_pos g0⟩
  |junk=>trivial
 have agg: ∀cs v,bJ ρ s.H (Xo X ρ s.H) w cs v-> ∀x∈cs,eh s.H x:=fun cs v hc x hx=>by
  obtain⟨vs,_,_,h3⟩:=hc;obtain⟨k,hk,rfl⟩:=List.getElem_of_mem hx;obtain⟨u,_,_,h4⟩:=h3 k _ (aw hk);exact av _ _ h4
 refine⟨fun t x hx=>?_,fun a o ho=>?_⟩
 ·obtain⟨v,_,hv⟩:=htm t x hx;cases x with
  |one x=>exact av x v hv
  |agg cs=>exact agg cs v hv
  |fn f cs=>obtain⟨u,h1,h2⟩:=hv;exact agg cs u h1
  |tup ts=>
   obtain⟨vs,_,_,h3⟩:=hv;intro t ht x hx;obtain⟨k,hk,rfl⟩:=List.getElem_of_mem ht;obtain⟨u,_,h4⟩:=h3 k _ _ (aw hk);rcases h4 with⟨_,h4⟩|⟨_,y,h5,h4⟩
   ·exact agg _ _ h4 x hx
   have h5:ts[k].2=[y]:=h5;rw[h5]at hx;simp at hx;subst hx;exact av _ _ h4
 obtain⟨k,hk,rfl⟩:=List.getElem_of_mem ho;exact hinv.self a k _ (aw hk)
theorem dN (h:iw s) {x:Operand} {t:TV} (hx:s.ev x=some t):fj s.H t:=by
 cases x with
 |tmp k=>exact h.1 k t hx
 |const v=>
  simp only[AS.ev]at hx;injection hx with hx
  subst hx;unfold mz;split
  ·split
   ·intro y hy;simp only[am]at hy;obtain⟨u,_,rfl⟩:=hy;trivial
   trivial
  split<;>trivial
 |global g=>simp only[AS.ev]at hx;injection hx with hx;subst hx;trivial
 |func f=>simp only[AS.ev]at hx;injection hx with hx;subst hx;trivial
theorem j6 (h:iw s) {d:Option Tmp} {t:TV} (ht:fj s.H t):iw (s.put d t):=by
 refine⟨fun k x hx=>?_,by rw[eK];exact h.2⟩;rw[eK];cases d with
 |none=>exact h.1 k x hx
 |some d=>
  simp only[AS.put]at hx;by_cases hk:d=k
  ·subst hk;rw[List.getElem?_set]at hx;simp at hx;obtain⟨_,rfl⟩:=hx;exact ht
  rw[List.getElem?_set_ne hk]at hx;exact h.1 k x hx
theorem Fk (h:iw s) {op:Op} {t:TV} (ht:iB P s.ev op=some t):fj s.H t:=by
 cases op<;>simp only[iB]at ht<;>try cases ht
 case call c=>
  unfold RK at ht;split at ht
  ·obtain⟨k,k',a,b,_,rfl⟩:=j5 ht;trivial
  ·obtain⟨k,k',a,b,_,rfl⟩:=j5 ht;trivial
  cases ht
 case move x=>exact dN h ht
 case assign x=>exact dN h ht
 case pick c a b=>
  split at ht
  ·exact dN h ht
  ·exact dN h ht
  cases ht
 case binOp op ty x y yt=>
  split at ht
  ·unfold vQ at ht;split at ht
   ·injection ht with ht;subst ht;trivial
   ·injection ht with ht;subst ht;trivial
   cases ht
  split at ht
  ·obtain⟨v,_,rfl⟩:=Option.map_eq_some_iff.1 ht;trivial
  ·unfold y6 at ht;split at ht
   ·split at ht
    ·injection ht with ht;subst ht;trivial
    cases ht
   ·split at ht
    ·injection ht with ht;subst ht;trivial
    cases ht
   cases ht
  cases ht
 case unOp op ty x=>
  split at ht
  ·obtain⟨v,_,rfl⟩:=Option.map_eq_some_iff.1 ht;trivial
  cases ht
 case convert a b x=>
  split at ht
  ·injection ht with ht;subst ht;trivial
  cases ht
 case extract x k=>
  split at ht
  ·rename_i ts hx;have hl:=dN h hx;split at ht
   ·rename_i cs hk;injection ht with ht
    subst ht;exact hl _ (ax hk)
   ·rename_i y hk;injection ht with ht
    subst ht;exact hl _ (ax hk) y (by simp)
   cases ht
  cases ht
theorem mC {t:TypeId} {cs:List AV} {T:TV} (h:kY P t cs=some T) (hc: ∀x∈cs,eh H x):fj H T:=by
 unfold kY at h;split at h
 ·split at h
  ·injection h with h;subst h;exact fun x hx=>hc x (List.mem_of_mem_take hx)
  cases h
 ·split at h
  ·injection h with h;subst h;exact hc _ (by simp)
  cases h
 cases h
theorem wZ {t:TV} {cs:List AV} (h:cellsOf t=some cs) (ht:fj H t): ∀x∈cs,eh H x:=by
 unfold cellsOf at h;split at h
 ·injection h with h;subst h;intro x hx;simp at hx;subst hx;trivial
 ·injection h with h;subst h;intro x hx;simp at hx;subst hx;exact ht
 ·injection h with h;subst h;exact ht
 cases h
theorem vE (h:iw s) {pl:List (Nat×Nat)}: ∀(parts:List (Nat×Operand)) (cs cs':List AV),ic pl s.ev cs parts=some cs'->(∀x∈cs,eh s.H x)-> ∀x∈cs',eh s.H x
 |[],cs,cs',hf,hc=>by simp only[ic]at hf;injection hf with hf;subst hf;exact hc
 |(f,x)::rest,cs,cs',hf,hc=>by
  simp only[ic]at hf;split at hf
  ·rename_i off n ys hp hx;obtain⟨t,ht,hys⟩:=Option.bind_eq_some_iff.1 hx;split at hf
   ·refine vE h rest _ cs' hf fun y hy=>?_
    simp only[List.mem_append]at hy;rcases hy with(hy|hy)|hy
    ·exact hc y (List.mem_of_mem_take hy)
    ·exact wZ hys (dN h ht) y hy
    exact hc y (List.mem_of_mem_drop hy)
   cases hf
  cases hf
theorem Gl (h:iw s) {a r i:Nat} {o:OObj} {e:List AV} (ho:(s.H a)[r]?=some o) (he:o.elems[i]?=some e): ∀x∈e,eh s.H x:=fun x hx=>by
 have hs:=h.2 a o (ax ho) e (ax he) x hx;have hne:s.H a≠[]:=by intro h0;rw[h0]at ho;simp at ho
 cases x with
 |sl b _ _ _=>have hs:b=a:=hs;subst hs;exact hne
 |ptr b _ _ _=>have hs:b=a:=hs;subst hs;exact hne
 |fn _ b _=>have hs1:b=a:=hs.1;subst hs1;exact⟨hne,hs.2⟩
 |p x=>trivial
 |junk=>trivial
theorem Fl (h:iw s) {op:Op} {t:TV} (ht:bQ P s.ev s.H op=some t):fj s.H t:=by
 cases op
 case load ty x=>
  simp only[bQ]at ht;split at ht
  ·exact mC ht (fun y hy=>by simp only[am]at hy;obtain⟨z,_,rfl⟩:=hy;trivial)
  ·split at ht
   ·rename_i o ho;split at ht
    ·rename_i e he;exact mC ht (fun y hy=>Gl h ho he y (List.mem_of_mem_drop hy))
    cases ht
   cases ht
  cases ht
 case indexAddr ty x ix=>
  simp only[bQ]at ht;split at ht
  ·split at ht
   ·cases ht
   split at ht
   ·split at ht
    ·split at ht
     ·injection ht with ht;subst ht;trivial
     cases ht
    cases ht
   ·rename_i e a r off len hs hx;split at ht
    ·split at ht
     ·injection ht with ht;subst ht;have q:=dN h hx;exact q
     cases ht
    cases ht
   ·split at ht
    ·split at ht
     ·split at ht
      ·injection ht with ht;subst ht;trivial
      cases ht
     cases ht
    cases ht
   ·rename_i hx;split at ht
    ·split at ht
     ·split at ht
      ·injection ht with ht;subst ht;have q:=dN h hx;exact q
      cases ht
     cases ht
    cases ht
   ·split at ht
    ·split at ht
     ·split at ht
      ·injection ht with ht;subst ht;trivial
      cases ht
     cases ht
    cases ht
   cases ht
  cases ht
 case index ty x ix=>
  simp only[bQ]at ht;split at ht
  ·split at ht
   ·cases ht
   split at ht
   ·rename_i hx;split at ht
    ·split at ht
     ·exact mC ht (fun y hy=>dN h hx y (List.mem_of_mem_drop hy))
     cases ht
    cases ht
   cases ht
  cases ht
 case fieldAddr ty x f=>
  simp only[bQ]at ht;split at ht
  ·split at ht
   ·injection ht with ht;subst ht;trivial
   cases ht
  ·rename_i hx;split at ht
   ·injection ht with ht;subst ht;have q:=dN h hx;exact q
   cases ht
  cases ht
 case field ty x f=>
  simp only[bQ]at ht;split at ht
  ·rename_i hx;exact mC ht (fun y hy=>dN h hx y (List.mem_of_mem_drop hy))
  cases ht
 case slice ty x lo hi mx=>
  cases mx with
  |some mx=>
   cases lo with
   |none=>simp only[bQ]at ht;cases ht
   |some lo=>
   cases hi with
   |none=>simp only[bQ]at ht;cases ht
   |some hi=>
   simp only[bQ]at ht;split at ht
   ·rename_i hx;split at ht
    ·split at ht
     ·injection ht with ht;subst ht;have q:=dN h hx;exact q
     cases ht
    cases ht
   cases ht
  |none=>
   simp only[bQ]at ht;split at ht
   ·split at ht
    ·split at ht
     ·injection ht with ht;subst ht;trivial
     cases ht
    cases ht
   ·rename_i hx;split at ht
    ·split at ht
     ·injection ht with ht;subst ht;have q:=dN h hx;exact q
     split at ht
     ·injection ht with ht;subst ht;trivial
     cases ht
    cases ht
   cases ht
 case build ty parts=>
  simp only[bQ]at ht;split at ht
  ·split at ht
   ·obtain⟨cs,hcs,rfl⟩:=Option.map_eq_some_iff.1 ht;exact vE h _ _ _ hcs (fun y hy=>by simp only[am]at hy;obtain⟨z,_,rfl⟩:=hy;trivial)
   cases ht
  cases ht
 case nilCheck x=>
  simp only[bQ]at ht;split at ht
  ·injection ht with ht;subst ht;trivial
  ·rename_i hx;injection ht with ht;subst ht;have q:=dN h hx;exact q
  cases ht
 case makeFunc fn first captured=>
  cases fn with
  |func f=>
   simp only[bQ]at ht;split at ht
   ·obtain⟨cs,hcs,rfl⟩:=Option.map_eq_some_iff.1 ht;obtain⟨ts,hts,hc⟩:=Option.bind_eq_some_iff.1 hcs;intro x hx;obtain⟨j,hj,rfl⟩:=List.getElem_of_mem hx;obtain⟨h1,h2⟩:=(nd hc).2 j _ (aw hj);obtain⟨y,y1,y2⟩:=(bZ hts).2 j _ h1;have q:=dN h y2;exact q
   cases ht
  |_=>simp only[bQ]at ht;cases ht
 case call c=>
  obtain⟨callee,args,argTypes⟩:=c;cases callee with
  |builtin b=>
   cases b
   case len=>
    simp only[bQ]at ht;split at ht
    ·split at ht
     ·injection ht with ht;subst ht;trivial
     ·injection ht with ht;subst ht;trivial
     ·injection ht with ht;subst ht;trivial
     cases ht
    cases ht
   all_goals (simp only[bQ]at ht;cases ht)
  |value f=>simp only[bQ]at ht;cases ht
  |invoke r m=>simp only[bQ]at ht;cases ht
 all_goals (simp only[bQ]at ht;cases ht)
end
end
section
section
variable {P:Program} {s s':AS} {H H':OH}
def yn (H H':OH):Prop:= ∀a,H a≠[]->H' a=H a
def qi (H H':OH):AV->Prop
 | .sl a _ _ _=>H' a=H a
 | .ptr a _ _ _=>H' a=H a
 | .fn _ a _=>H' a=H a
 |_=>True
def jQ (H H':OH):TV->Prop
 | .one x=>qi H H' x
 | .agg cs=> ∀x∈cs,qi H H' x
 | .fn _ cs=> ∀x∈cs,qi H H' x
 | .tup ts=> ∀t∈ts,∀x∈t.2,qi H H' x
theorem jy {x:AV} (h:eh H x) (g:yn H H'):qi H H' x:=by
 cases x with
 |sl a _ _ _=>exact g a h
 |ptr a _ _ _=>exact g a h
 |fn _ a _=>exact g a h.1
 |p x=>trivial
 |junk=>trivial
theorem Ai {t:TV} (h:fj H t) (g:yn H H'):jQ H H' t:=by
 cases t with
 |one x=>exact jy h g
 |agg cs=>exact fun x hx=>jy (h x hx) g
 |fn f cs=>exact fun x hx=>jy (h x hx) g
 |tup ts=>exact fun t ht x hx=>jy (h t ht x hx) g
theorem jz (x:AV):qi H H x:=by cases x<;>first|rfl|trivial
theorem Aj (t:TV):jQ H H t:=by
 cases t with
 |one x=>exact jz x
 |agg cs=>exact fun x _=>jz x
 |fn f cs=>exact fun x _=>jz x
 |tup ts=>exact fun t _ x _=>jz x
theorem su {ev ev':Operand->Option TV} {op:Op} (h: ∀x∈op.operands,ev x=ev' x):iB P ev op=iB P ev' op:=by
 cases op<;>simp only[Op.operands]at h<;>simp only[iB]
 case call c=>
  have e:c.args.toList.map ev=c.args.toList.map ev':=List.map_congr_left fun x hx=>h x (by simp only[Call.operands,Array.mem_append];exact .inr (Array.mem_toList_iff.1 hx))
  unfold RK;rw[e]
 case move x=>exact h x (by simp)
 case assign x=>exact h x (by simp)
 case pick c a b=>rw[h c (by simp),h a (by simp),h b (by simp)]
 case binOp op t x y t'=>rw[h x (by simp),h y (by simp)]
 case unOp op t x=>rw[h x (by simp)]
 case convert a b x=>rw[h x (by simp)]
 case extract x k=>rw[h x (by simp)]
theorem y5 (k:Nat->Nat->Bool): ∀(xs ys:List AV),IC (xs.map (a6 k)) (ys.map (a6 k))=IC xs ys
 |[],[]=>rfl
 |[],_::_=>rfl
 |x::xs,[]=>by
  simp only[List.map_cons,List.map_nil];cases x with
  |p x=>cases x with
   |raw v=>cases v<;>rfl
   |sl _=>rfl
   |ptr _=>rfl
  |sl a r off len=>simp only[a6];split<;>rfl
  |ptr a r i j=>simp only[a6];split<;>rfl
  |fn f a qs=>simp only[a6];split<;>rfl
  |junk=>rfl
 |x::xs,y::ys=>by
  have ih:=y5 k xs ys;simp only[List.map_cons];cases x with
  |p x=>cases x with
   |raw v=>
    cases v
    case int k1 a=>
     cases y with
     |p y=>cases y with
      |raw u=>cases u<;>first|rfl|simp only[a6,IC,ih]
      |sl _=>rfl
      |ptr _=>rfl
     |sl a r off len=>simp only[a6];split<;>rfl
     |ptr a r i j=>simp only[a6];split<;>rfl
     |fn f a qs=>simp only[a6];split<;>rfl
     |junk=>rfl
    all_goals rfl
   |sl _=>rfl
   |ptr _=>rfl
  |sl a r off len=>simp only[a6];split<;>rfl
  |ptr a r i j=>simp only[a6];split<;>rfl
  |fn f a qs=>simp only[a6];split<;>rfl
  |junk=>rfl
theorem FR (k:Nat->Nat->Bool) (t:TV):tc (a7 k t)=tc t:=by
 cases t with
 |one x=>
  cases x with
  |p x=>rfl
  |sl a r off len=>simp only[a7,a6];split<;>rfl
  |ptr a r i j=>simp only[a7,a6];split<;>rfl
  |fn f a qs=>simp only[a7,a6];split<;>rfl
  |junk=>rfl
 |agg cs=>rfl
 |fn f cs=>rfl
 |tup ts=>rfl
theorem td (k:Nat->Nat->Bool) (t:Option TV):(t.map (a7 k)).bind tc=t.bind tc:=by
 cases t with
 |none=>rfl
 |some t=>exact FR k t
theorem zF (k:Nat->Nat->Bool) (f:Int->Int->Int) (l:List (Option TV)):Li f (l.map (Option.map (a7 k)))=(Li f l).map (a7 k):=by
 have key: ∀(t:TV) v,a7 k t= .one (.p (.raw v))↔t= .one (.p (.raw v)):=fun t v=>by
  cases t with
  |one x=>
   cases x with
   |p x=>exact Iff.rfl
   |sl a r off len=>simp only[a7,a6];split<;>simp
   |ptr a r i j=>simp only[a7,a6];split<;>simp
   |fn f a qs=>simp only[a7,a6];split<;>simp
   |junk=>simp[a7,a6]
  |agg cs=>simp[a7]
  |fn f cs=>simp[a7]
  |tup ts=>simp[a7]
 have inv: ∀(o:Option TV) v,o.map (a7 k)=some (.one (.p (.raw v)))->o=some (.one (.p (.raw v))):=fun o v h=>by
  cases o with
  |none=>cases h
  |some t=>injection h with h;rw[(key t v).1 h]
 cases h:Li f l with
 |some t=>
  obtain⟨c,c',a,b,rfl,rfl⟩:=j5 h;rfl
 |none=>
  cases h2:Li f (l.map (Option.map (a7 k)))with
  |none=>rfl
  |some t=>
   obtain⟨c,c',a,b,e,_⟩:=j5 h2;obtain⟨x,y,rfl,e1,e2⟩:=xu e;rw[inv _ _ e1,inv _ _ e2]at h;cases h
theorem Fj (k:Nat->Nat->Bool) {ev:Operand->Option TV} {op:Op}:iB P (fun x=>(ev x).map (a7 k)) op=(iB P ev op).map (a7 k):=by
 have key: ∀(t:TV) v,a7 k t= .one (.p (.raw v))↔t= .one (.p (.raw v)):=fun t v=>by
  cases t with
  |one x=>
   cases x with
   |p x=>exact Iff.rfl
   |sl a r off len=>simp only[a7,a6];split<;>simp
   |ptr a r i j=>simp only[a7,a6];split<;>simp
   |fn f a qs=>simp only[a7,a6];split<;>simp
   |junk=>simp[a7,a6]
  |agg cs=>simp[a7]
  |fn f cs=>simp[a7]
  |tup ts=>simp[a7]
 cases op<;>simp only[iB]<;>try rfl
 case call c=>
  unfold RK;have e:c.args.toList.map (fun x=>(ev x).map (a7 k))=(c.args.toList.map ev).map (Option.map (a7 k)):=by rw[List.map_map];rfl
  rw[e];split
  ·exact zF k _ _
  ·exact zF k _ _
  rfl
 case pick c a b=>
  cases hc:ev c with
  |none=>rfl
  |some t=>
   simp only[ah];by_cases h1:t= .one (.p (.raw (.bool true)))
   ·subst h1;rfl
   by_cases h2:t= .one (.p (.raw (.bool false)))
   ·subst h2;rfl
   have e1: ∀b,a7 k t≠ .one (.p (.raw (.bool b))):=fun b he=>by
    have:=(key t _).1 he;cases b
    ·exact h2 this
    exact h1 this
   split
   ·rename_i he;injection he with he;exact absurd he (e1 _)
   ·rename_i he;injection he with he;exact absurd he (e1 _)
   split
   ·rename_i he;injection he with he;exact absurd he h1
   ·rename_i he;injection he with he;exact absurd he h2
   rfl
 case binOp op t x y t'=>
  by_cases hnil:B9 y=true
  ·rw[if_pos hnil,if_pos hnil];unfold vQ;rw[td,td];split<;>rfl
  rw[if_neg hnil,if_neg hnil];cases hx:ev x with
  |none=>rfl
  |some tx=>
   cases hy:ev y with
   |none=>
    simp only[ah,Option.map_none];split
    ·rename_i he;cases he
    ·rename_i he;cases he
    rfl
   |some ty=>
    simp only[ah];by_cases h1: ∃a b,tx= .one (.p (.raw a))/\ty= .one (.p (.raw b))
    ·obtain⟨a,b,rfl,rfl⟩:=h1;simp only[a7,a6];cases vC (vq P t) op a b<;>rfl
    by_cases h2: ∃xs ys,tx= .agg xs/\ty= .agg ys
    ·obtain⟨xs,ys,rfl,rfl⟩:=h2;simp only[a7,y6,List.length_map,y5];split
     ·split<;>rfl
     ·split<;>rfl
     rfl
    have keya: ∀(t:TV) cs,a7 k t= .agg cs-> ∃cs',t= .agg cs':=fun t cs ht=>by
     cases t<;>simp[a7]at ht;exact⟨_,rfl⟩
    split
    ·rename_i a b ha hb;injection ha with ha
     injection hb with hb
     exact absurd ⟨a,b,(key _ _).1 ha,(key _ _).1 hb⟩ h1
    ·rename_i a b ha hb;injection ha with ha
     injection hb with hb
     obtain⟨c1,e1⟩:=keya _ _ ha;obtain⟨c2,e2⟩:=keya _ _ hb;exact absurd ⟨c1,c2,e1,e2⟩ h2
    split
    ·rename_i a b ha hb;injection ha with ha
     injection hb with hb
     exact absurd ⟨a,b,ha,hb⟩ h1
    ·rename_i a b ha hb;injection ha with ha
     injection hb with hb
     exact absurd ⟨a,b,ha,hb⟩ h2
    rfl
 case unOp op t x=>
  cases hx:ev x with
  |none=>rfl
  |some tx=>
   simp only[ah];by_cases h1: ∃a,tx= .one (.p (.raw a))
   ·obtain⟨a,rfl⟩:=h1;simp only[a7,a6];cases Fo op a<;>rfl
   split
   ·rename_i a ha;injection ha with ha;exact absurd ⟨a,(key _ _).1 ha⟩ h1
   split
   ·rename_i a ha;injection ha with ha;exact absurd ⟨a,ha⟩ h1
   rfl
 case convert a b x=>
  cases hx:ev x with
  |none=>rfl
  |some tx=>
   simp only[ah];by_cases h1: ∃q n,tx= .one (.p (.raw (.int q n)))
   ·obtain⟨q,n,rfl⟩:=h1;simp only[a7,a6];cases P.underlying a with
    |none=>rfl
    |some u=>cases uQ P b<;>rfl
   split
   ·rename_i q n _ _ ha _ _;injection ha with ha;exact absurd ⟨_,_,(key _ _).1 ha⟩ h1
   split
   ·rename_i q n _ _ ha _ _;injection ha with ha;exact absurd ⟨_,_,ha⟩ h1
   rfl
 case extract x i=>
  cases hx:ev x with
  |none=>rfl
  |some tx=>
   cases tx with
   |one y=>rfl
   |agg cs=>rfl
   |fn f cs=>rfl
   |tup ts=>
    simp only[ah,a7,az];cases hi:ts[i]? with
    |none=>rfl
    |some t=>
     obtain⟨b,cs⟩:=t;cases b with
     |true=>rfl
     |false=>
      cases cs with
      |nil=>rfl
      |cons y l=>cases l<;>rfl
theorem gX {ev ev':Operand->Option TV} {x:Option Operand} {d:Nat} (h: ∀y,x=some y->ev y=ev' y):dG ev x d=dG ev' x d:=by
 cases x with
 |none=>rfl
 |some y=>simp only[dG,h y rfl]
theorem sG {pl:List (Nat×Nat)} {ev ev':Operand->Option TV}: ∀(parts:List (Nat×Operand)) (cs:List AV),(∀p∈parts,ev p.2=ev' p.2)->ic pl ev cs parts=ic pl ev' cs parts
 |[],cs,_=>rfl
 |(f,x)::rest,cs,h=>by
  simp only[ic,h (f,x) (by simp)];split
  ·split
   ·exact sG rest _ (fun p hp=>h p (by simp[hp]))
   rfl
  rfl
theorem vJ {n:Nat} {ev ev':Operand->Option TV}: ∀(parts:List (Nat×Operand)) (i:Nat),(∀p∈parts,ev p.2=ev' p.2)->nn ev n i parts=nn ev' n i parts
 |[],i,_=>rfl
 |(f,x)::rest,i,h=>by
  simp only[nn,h (f,x) (by simp),vJ rest (i+1) (fun p hp=>h p (by simp[hp]))]
theorem ib {ev ev':Operand->Option TV}: ∀(l:List Operand),(∀x∈l,ev x=ev' x)->ew ev l=ew ev' l
 |[],_=>rfl
 |x::l,h=>by simp only[ew,h x (by simp),ib l (fun y hy=>h y (by simp[hy]))]
theorem sw {ev ev':Operand->Option TV} {op:Op} (h: ∀x∈op.operands,ev x=ev' x) (hl: ∀x∈op.operands,∀t,ev x=some t->jQ H H' t):bQ P ev H op=bQ P ev' H' op:=by
 cases op<;>simp only[Op.operands]at h hl<;>try (simp only[bQ];done)
 case load t x=>
  simp only[bQ,<- h x (by simp)];cases hx:ev x with
  |none=>rfl
  |some tx=>
   have:=hl x (by simp) tx hx;cases tx with
   |one y=>
    cases y with
    |ptr a r i j=>simp only[show H' a=H a from this]
    |p y=>cases y<;>rfl
    |sl a r off len=>rfl
    |junk=>rfl
    |fn=>rfl
   |agg cs=>rfl
   |fn f cs=>rfl
   |tup ts=>rfl
 case indexAddr t x ix=>
  simp only[bQ,<- h x (by simp),<- h ix (by simp)];cases db P t with
  |none=>
   cases hx:ev x with
   |none=>rfl
   |some tx=>
    cases tx with
    |one y=>
     cases y with
     |p y=>
      cases y with
      |raw v=>
       cases v with
       |pointer a=>
        cases a with
        |none=>rfl
        |some a=>
         obtain⟨b,off,sp⟩:=a;cases sp<;>rfl
       |_=>rfl
      |sl xs=>rfl
      |ptr cs=>rfl
     |sl a r off len=>rfl
     |ptr a r i j=>rfl
     |junk=>rfl
     |fn=>rfl
    |agg cs=>rfl
    |fn f cs=>rfl
    |tup ts=>rfl
  |some e=>
   cases hx:ev x with
   |none=>rfl
   |some tx=>
    have:=hl x (by simp) tx hx;cases tx with
    |one y=>
     cases y with
     |sl a r off len=>simp only[show H' a=H a from this]
     |p y=>cases y<;>rfl
     |ptr a r i j=>rfl
     |junk=>rfl
     |fn=>rfl
    |agg cs=>rfl
    |fn f cs=>rfl
    |tup ts=>rfl
 case index t x ix=>simp only[bQ,<- h x (by simp),<- h ix (by simp)]
 case fieldAddr t x f=>simp only[bQ,<- h x (by simp)]
 case field t x f=>simp only[bQ,<- h x (by simp)]
 case slice t x lo hi mx=>
  cases mx with
  |some m=>
   cases lo with
   |none=>simp only[bQ]
   |some lo=>
   cases hi with
   |none=>simp only[bQ]
   |some hi=>
   simp only[bQ,<- h x (by simp)];have hlo:dG ev (some lo) 0=dG ev' (some lo) 0:=gX fun y hy=>h y (by injection hy with hy;subst hy;simp)
   have hhi:dG ev (some hi) 0=dG ev' (some hi) 0:=gX fun y hy=>h y (by injection hy with hy;subst hy;simp)
   have hmx:dG ev (some m) 0=dG ev' (some m) 0:=gX fun y hy=>h y (by injection hy with hy;subst hy;simp)
   simp only[hlo,hhi,hmx];cases db P t with
   |none=>rfl
   |some e=>
    cases hx:ev x with
    |none=>rfl
    |some tx=>
     have:=hl x (by simp) tx hx;cases tx with
     |one y=>
      cases y with
      |sl a r off len=>simp only[show H' a=H a from this]
      |p y=>cases y<;>rfl
      |ptr a r i j=>rfl
      |junk=>rfl
      |fn=>rfl
     |agg cs=>rfl
     |fn f cs=>rfl
     |tup ts=>rfl
  |none=>
   simp only[bQ,<- h x (by simp)];have hlo: ∀d,dG ev lo d=dG ev' lo d:=fun d=>gX fun y hy=>h y (by subst hy;simp)
   have hhi: ∀d,dG ev hi d=dG ev' hi d:=fun d=>gX fun y hy=>h y (by subst hy;cases lo<;>simp)
   simp only[hlo,hhi];cases db P t with
   |none=>rfl
   |some e=>
    cases hx:ev x with
    |none=>rfl
    |some tx=>
     have:=hl x (by simp) tx hx;cases tx with
     |one y=>
      cases y with
      |sl a r off len=>simp only[show H' a=H a from this]
      |p y=>cases y<;>rfl
      |ptr a r i j=>rfl
      |junk=>rfl
      |fn=>rfl
     |agg cs=>rfl
     |fn f cs=>rfl
     |tup ts=>rfl
 case build t parts=>
  simp only[bQ];have: ∀pl cs,ic pl ev cs parts.toList=ic pl ev' cs parts.toList:=fun pl cs=>sG _ _ (fun p hp=>h p.2 (by simp only[List.mem_toArray,am];exact⟨p,hp,rfl⟩))
  simp only[this]
 case nilCheck x=>simp only[bQ,<- h x (by simp)]
 case makeFunc fn first captured=>
  cases fn with
  |func f=>
   simp only[bQ];rw[ib captured.toList (fun x hx=>h x (by simp at hx⊢;exact .inr hx))]
  |_=>simp only[bQ]
 case call c=>
  obtain⟨callee,⟨args⟩,⟨argTypes⟩⟩:=c;cases callee with
  |builtin b=>
   cases b<;>try (simp only[bQ];done)
   simp only[bQ];simp only[Call.operands]at h;split
   ·rename_i x t;rw[h x (by simp)]
   rfl
  |value f=>simp only[bQ]
  |invoke r m=>simp only[bQ]
 all_goals rfl
theorem P4 (x:PV):fJ H' (.one (.p x))=fJ H (.one (.p x)):=by
 have key: ∀G:OH,fJ G (.one (.p x))= .one (.p x)\/(x= .raw (.slice none 0 0)/\fJ G (.one (.p x))= .one (.p (.sl []))):=fun G=>by
  unfold fJ;split
  ·rename_i heq;cases heq
  ·rename_i heq;injection heq with heq;injection heq with heq;exact .inr ⟨heq,rfl⟩
  exact .inl rfl
 by_cases hx:x= .raw (.slice none 0 0)
 ·subst hx;rfl
 rcases key H with h1|⟨h1,_⟩
 ·rcases key H' with h2|⟨h2,_⟩
  ·rw[h1,h2]
  exact absurd h2 hx
 exact absurd h1 hx
theorem P3 (x:PV):fA H' (.one (.p x))=fA H (.one (.p x)):=by
 unfold fA;split
 ·rename_i heq;injection heq with heq;injection heq with heq;subst heq;rfl
 ·rename_i heq;injection heq with heq;injection heq with heq;subst heq;rfl
 ·rename_i heq;cases heq
 rfl
theorem iN {t:TV} (hl:jQ H H' t):fJ H' t=fJ H t/\ ∀b,dU b H' t=dU b H t:=by
 cases t with
 |one x=>
  cases x with
  |sl a r off len=>exact⟨by simp only[fJ,show H' a=H a from hl],fun b=>by simp only[dU,show H' a=H a from hl]⟩
  |p x=>exact⟨P4 x,fun b=>rfl⟩
  |ptr a r i j=>exact⟨rfl,fun b=>rfl⟩
  |junk=>exact⟨rfl,fun b=>rfl⟩
  |fn=>exact⟨rfl,fun b=>rfl⟩
 |agg cs=>exact⟨rfl,fun b=>rfl⟩
 |fn f cs=>exact⟨rfl,fun b=>rfl⟩
 |tup ts=>exact⟨rfl,fun b=>rfl⟩
theorem FQ {t:TV} (hl:jQ H H' t):fA H' t=fA H t:=by
 cases t with
 |one x=>
  cases x with
  |sl a r off len=>simp only[fA,show H' a=H a from hl]
  |p x=>exact P3 x
  |ptr a r i j=>rfl
  |junk=>rfl
  |fn=>rfl
 |agg cs=>rfl
 |fn f cs=>rfl
 |tup ts=>rfl
theorem BH {items:List (cQ P)} {ow:List Nat} {i d:Nat} {ev ev':Operand->Option TV} {op:Op} (h: ∀x∈op.operands,ev x=ev' x) (hl: ∀x∈op.operands,∀t,ev x=some t->jQ H H' t):cf P items ow i d ev H op=cf P items ow i d ev' H' op:=by
 cases op<;>simp only[Op.operands]at h hl<;>try (simp only[cf];done)
 case box e x=>simp only[cf,<- h x (by simp)]
 case makeSlice t l c=>simp only[cf,<- h l (by simp),<- h c (by simp)]
 case buildSlice t n parts=>
  simp only[cf];have: ∀n i,nn ev n i parts.toList=nn ev' n i parts.toList:=fun n i=>vJ _ _ (fun p hp=>h p.2 (by simp only[List.mem_toArray,am];exact⟨p,hp,rfl⟩))
  simp only[this]
 case call c=>
  obtain⟨callee,⟨args⟩,⟨argTypes⟩⟩:=c;simp only[Call.operands]at h hl;cases callee with
  |value f=>
   have he:ew ev args=ew ev' args:=ib args (fun x hx=>h x (by simp[hx]));cases f<;>try (simp only[cf];done)
   ·rename_i k;simp only[cf];rw[<- he,<- h (.tmp k) (by simp)];cases hcl:Bu (ev (.tmp k))with
    |none=>cases List.find? (fun x=>x.i==i) items<;>cases ew ev args<;>rfl
    |some fe=>
     obtain⟨f,extra⟩:=fe;cases hts:ew ev args with
     |none=>cases List.find? (fun x=>x.i==i) items<;>rfl
     |some ts0=>
      have hex: ∀t∈extra,jQ H H' t:=fun t ht=>by
       unfold Bu at hcl;split at hcl
       ·rename_i f' cs hk;injection hcl with hcl
        injection hcl with hcl hcl'
        subst hcl hcl';have hs:=hl (.tmp k) (by simp) _ hk;simp only[am]at ht;obtain⟨y,hy,rfl⟩:=ht;exact hs y hy
       ·rename_i f' a qs hk;injection hcl with hcl
        injection hcl with hcl hcl'
        subst hcl hcl';have hs:=hl (.tmp k) (by simp) _ hk;simp only[am]at ht;obtain⟨y,hy,rfl⟩:=ht;exact hs
       ·split at hcl
        ·injection hcl with hcl
         injection hcl with hcl hcl'
         subst hcl hcl';simp at ht
        cases hcl
       cases hcl
      have hlv: ∀t∈ts0++extra,jQ H H' t:=fun t ht=>by
       rcases List.mem_append.1 ht with ht|ht
       ·obtain⟨j,hj,rfl⟩:=List.getElem_of_mem ht;obtain⟨x,hx,hxt⟩:=(bZ hts).2 j _ (aw hj);exact hl x (by simp[ax hx]) _ hxt
       exact hex t ht
      have e1:(ts0++extra).map (fJ H')=(ts0++extra).map (fJ H):=List.map_congr_left fun t ht=>(iN (hlv t ht)).1
      have e2: ∀b,(ts0++extra).all (dU b H')=(ts0++extra).all (dU b H):=fun b=>by
       rw[Bool.eq_iff_iff];simp only[aj];exact⟨fun hh t ht=>by rw[<- (iN (hlv t ht)).2 b];exact hh t ht,fun hh t ht=>by rw[(iN (hlv t ht)).2 b];exact hh t ht⟩
      cases List.find? (fun x=>x.i==i) items with
      |none=>rfl
      |some it=>
       have ec:(it.f=f/\(ts0++extra).map (fJ H')=it.args/\(ts0++extra).all (dU it.res.plain H')=true/\(!it.res.fam.isEmpty||noRefTV it.res.r)=true)↔(it.f=f/\(ts0++extra).map (fJ H)=it.args/\(ts0++extra).all (dU it.res.plain H)=true/\(!it.res.fam.isEmpty||noRefTV it.res.r)=true):=by rw[e1,e2]
       by_cases hc:it.f=f/\(ts0++extra).map (fJ H)=it.args/\(ts0++extra).all (dU it.res.plain H)=true/\(!it.res.fam.isEmpty||noRefTV it.res.r)=true
       ·simp only[];rw[if_pos hc,if_pos (ec.2 hc)]
       simp only[];rw[if_neg hc,if_neg (fun h=>hc (ec.1 h))]
   rename_i f;simp only[cf];rw[<- he];cases hts:ew ev args with
   |none=>cases List.find? (fun x=>x.i==i) items<;>rfl
   |some ts=>
    have hlv: ∀t∈ts,jQ H H' t:=fun t ht=>by
     obtain⟨k,hk,rfl⟩:=List.getElem_of_mem ht;obtain⟨x,hx,hxt⟩:=(bZ hts).2 k _ (aw hk);exact hl x (by simp[ax hx]) _ hxt
    have e1:ts.map (fJ H')=ts.map (fJ H):=List.map_congr_left fun t ht=>(iN (hlv t ht)).1
    have e2: ∀b,ts.all (dU b H')=ts.all (dU b H):=fun b=>by
     rw[Bool.eq_iff_iff];simp only[aj];exact⟨fun hh t ht=>by rw[<- (iN (hlv t ht)).2 b];exact hh t ht,fun hh t ht=>by rw[(iN (hlv t ht)).2 b];exact hh t ht⟩
    cases List.find? (fun x=>x.i==i) items with
    |none=>rfl
    |some it=>
     have ec:(it.f=f/\ts.map (fJ H')=it.args/\ts.all (dU it.res.plain H')=true/\(!it.res.fam.isEmpty||noRefTV it.res.r)=true)↔(it.f=f/\ts.map (fJ H)=it.args/\ts.all (dU it.res.plain H)=true/\(!it.res.fam.isEmpty||noRefTV it.res.r)=true):=by rw[e1,e2]
     by_cases hc:it.f=f/\ts.map (fJ H)=it.args/\ts.all (dU it.res.plain H)=true/\(!it.res.fam.isEmpty||noRefTV it.res.r)=true
     ·simp only[];rw[if_pos hc,if_pos (ec.2 hc)]
     simp only[];rw[if_neg hc,if_neg (fun h=>hc (ec.1 h))]
  |builtin b=>
   cases b<;>try (simp only[cf];done)
   simp only[cf];split
   ·rename_i x y t t';rw[<- h x (by simp),<- h y (by simp)];have e1:(ev y).bind (fA H')=(ev y).bind (fA H):=by
     cases hy:ev y with
     |none=>rfl
     |some ty=>exact FQ (hl y (by simp) ty hy)
    rw[e1]
   rfl
  |invoke r m=>simp only[cf]
end
end
section
inductive Lw where
 |val (t:TV)
 |new (t:TV) (o:OObj) (l:List OObj)
 |wr (q:A3)
section
variable (P:Program) (items:List (cQ P)) (ow:List Nat)
noncomputable def Co (r:Option (TV×List OObj)):Option Lw:=match r with
 |some (t,[])=>some (.val t)
 |some (t,o::l)=>some (.new t o l)
 |none=>none
noncomputable def jv (i:Nat) (d:Option Tmp) (op:Op) (ev:Operand->Option TV) (H:OH):Option Lw:=
 if mR op then(iB P ev op).map .val
 else if uC op then(bQ P ev H op).map .val
 else match eY P ev H op with
  |some q=>some (.wr q)
  |none=>match d with
   |none=>none
   |some d=>Co (cf P items ow i d ev H op)
def b8 (d:Option Tmp) (s:AS):Lw->Option AS
 | .val t=>some (s.put d t)
 | .new t o l=>match d with
  |some d=>(match s.H d with|[]=>some (AS.put ⟨s.tmps,aJ s.H d (o::l)⟩ (some d) t)|_=>none)
  |none=>none
 | .wr q=>some (AS.put ⟨s.tmps.map (a7 q.k),q.H⟩ d q.t)
theorem vk (i:Nat) (o:Oper) (s:AS):dr P items ow i o s=(jv P items ow i o.dst o.op s.ev s.H).bind (b8 o.dst s):=by
 unfold dr jv;split
 ·cases iB P s.ev o.op<;>rfl
 split
 ·cases bQ P s.ev s.H o.op<;>rfl
 cases eY P s.ev s.H o.op with
 |some q=>rfl
 |none=>
  cases hd:o.dst with
  |none=>rfl
  |some d=>
   simp only;cases hA:cf P items ow i d s.ev s.H o.op with
   |none=>rfl
   |some tF=>
    obtain⟨t,F⟩:=tF;cases F with
    |nil=>rfl
    |cons o' l=>simp only[Co,Option.bind_some,b8];cases s.H d<;>rfl
def gate (ops:Array Oper) (o:Oper) (s:AS):Option Bool:=match o.guard with
 |none=>some true
 |some (g,want)=>match(ops[g]?).bind (·.dst)with
  |none=>none
  |some d=>match s.tmps[d]? with
   |some (.one (.p (.raw (.bool b))))=>some (b==want)
   |some (.tup [])=>some false
   |_=>none
noncomputable def cw (ops:Array Oper) (i:Nat) (o:Oper) (s:AS):Option Lw:=match gate ops o s with
 |some true=>jv P items ow i o.dst o.op s.ev s.H
 |some false=>some (.val .undef)
 |none=>none
theorem bM (ops:Array Oper) (i:Nat) (o:Oper) (s:AS):bf P items ow ops i o s=(cw P items ow ops i o s).bind (b8 o.dst s):=by
 unfold bf cw gate;cases hg:o.guard with
 |none=>simp only;exact vk P items ow i o s
 |some gw=>
  obtain⟨g,want⟩:=gw;simp only;cases(ops[g]?).bind (·.dst)with
  |none=>rfl
  |some d=>
   simp only;cases hs:s.tmps[d]? with
   |none=>rfl
   |some t=>
    cases t with
    |agg cs=>rfl
    |fn f cs=>rfl
    |tup ts=>cases ts<;>rfl
    |one x=>
     cases x with
     |sl a r off len=>rfl
     |ptr a r i j=>rfl
     |fn=>rfl
     |junk=>rfl
     |p x=>
      cases x with
      |sl xs=>rfl
      |ptr cs=>rfl
      |raw v=>
       cases v<;>try rfl
       rename_i b;simp only;by_cases hbw:b=want
       ·subst hbw;simp only[if_true,beq_self_eq_true];exact vk P items ow i o s
       rw[if_neg hbw];have:(b==want)=false:=by simpa using hbw
       rw[this];rfl
variable {P} {items} {ow}
variable {ops:Array Oper} {s s1 s2 s':AS} {H H':OH}
theorem j7 (s:AS) (d:Option Tmp) (t:TV) (k:Nat) (h: ∀e,d=some e->e≠k):(s.put d t).tmps[k]?=s.tmps[k]?:=by
 cases d with
 |none=>rfl
 |some e=>simp only[AS.put];exact List.getElem?_set_ne (h e rfl)
theorem P8 (s:AS) (d:Option Tmp) (t:TV) {x:Operand} (h: ∀e,d=some e->x≠ .tmp e):(s.put d t).ev x=s.ev x:=by
 cases x with
 |tmp k=>exact j7 s d t k (fun e he hk=>h e he (by rw[hk]))
 |const v=>rfl
 |global g=>rfl
 |func f=>rfl
theorem fg (s:AS) {d e:Option Tmp} (t u:TV) (h: ∀k,d=some k->e≠some k):(s.put d t).put e u=(s.put e u).put d t:=by
 cases d with
 |none=>rfl
 |some d=>
  cases e with
  |none=>rfl
  |some e=>
   have:d≠e:=fun hde=>h d rfl (by rw[hde])
   simp only[AS.put];rw[List.set_comm _ _ this]
def jD (ops:Array Oper) (o:Oper) (d:Option Tmp):Prop:= ∀e,d=some e->e∉o.looksAt ops
theorem jD.op {o:Oper} {d:Option Tmp} (h:jD ops o d): ∀x∈o.op.operands,∀e,d=some e->x≠ .tmp e:=fun x hx e he hxe=>by
 subst hxe;exact h e he (List.mem_append_left _ (List.mem_filterMap.2 ⟨.tmp e,by simpa using hx,rfl⟩))
theorem jD.gate {o:Oper} {d:Option Tmp} (h:jD ops o d) {g:Nat} {w:Bool} (hg:o.guard=some (g,w)) {k:Tmp} (hk:(ops[g]?).bind (·.dst)=some k): ∀e,d=some e->e≠k:=fun e he hek=>by
 subst hek;refine h e he (List.mem_append_right _ ?_);simp only[hg,hk]
 simp
theorem IK {o:Oper} {d:Option Tmp} (h:jD ops o d) (t:TV):gate ops o (s.put d t)=gate ops o s:=by
 unfold gate;cases hg:o.guard with
 |none=>rfl
 |some gw=>
  obtain⟨g,want⟩:=gw;simp only;cases hk:(ops[g]?).bind (·.dst)with
  |none=>rfl
  |some k=>simp only;rw[j7 s d t k (h.gate hg hk)]
theorem Mp (k:Nat->Nat->Bool) (H':OH) (x:Operand):AS.ev ⟨s.tmps.map (a7 k),H'⟩ x=(s.ev x).map (a7 k):=by
 cases x with
 |tmp t=>simp only[AS.ev,az]
 |const v=>
  simp only[AS.ev,ah]
  congr 1
  unfold mz;split
  ·split
   ·simp only[a7];congr 1;rw[List.map_map];rfl
   rfl
  split<;>rfl
 |global g=>rfl
 |func f=>rfl
theorem Fq {o:Oper} (k:Nat->Nat->Bool) (H':OH):gate ops o ⟨s.tmps.map (a7 k),H'⟩=gate ops o s:=by
 unfold gate;cases hg:o.guard with
 |none=>rfl
 |some gw=>
  obtain⟨g,want⟩:=gw;simp only;cases hk:(ops[g]?).bind (·.dst)with
  |none=>rfl
  |some e=>
   simp only[az];cases s.tmps[e]? with
   |none=>rfl
   |some t=>
    cases t with
    |one x=>
     cases x with
     |p x=>rfl
     |sl a r off len=>simp only[ah,a7,a6];cases k a r<;>rfl
     |ptr a r i j=>simp only[ah,a7,a6];cases k a r<;>rfl
     |fn f a qs=>simp only[ah,a7,a6];generalize qs.any (fun q=>k a q.1)=b;cases b<;>rfl
     |junk=>rfl
    |agg cs=>rfl
    |fn f cs=>rfl
    |tup ts=>cases ts<;>rfl
theorem BK {ev ev':Operand->Option TV} {op:Op} (h: ∀x∈op.operands,ev x=ev' x):eY P ev H op=eY P ev' H op:=by
 cases op<;>simp only[Op.operands]at h<;>try (simp only[eY];done)
 case store t x y=>simp only[eY,<- h x (by simp),<- h y (by simp)]
 case call c=>
  obtain⟨callee,⟨args⟩,⟨argTypes⟩⟩:=c;simp only[Call.operands]at h;simp only[eY];split
  ·rename_i x y t t';rw[<- h x (by simp),<- h y (by simp)]
  rfl
theorem qL {i:Nat} {d:Option Tmp} {ev ev':Operand->Option TV} {op:Op} (h: ∀x∈op.operands,ev x=ev' x) (hs: ∀x∈op.operands,∀t,ev x=some t->jQ H H' t) (hD:H'=H\/ ∀e G,eY P e G op=none):
  jv P items ow i d op ev H=jv P items ow i d op ev' H':=by
 unfold jv;rw[su h,sw h hs];have hd:eY P ev H op=eY P ev' H' op:=by
  rcases hD with rfl|hD
  ·exact BK h
  rw[hD,hD]
 rw[hd];have ha: ∀d,cf P items ow i d ev H op=cf P items ow i d ev' H' op:=fun d=>BH h hs
 simp only[ha]
theorem ck {i:Nat} {o:Oper} {d:Option Tmp} (h:jD ops o d) (t:TV):cw P items ow ops i o (s.put d t)=cw P items ow ops i o s:=by
 unfold cw;rw[IK h,eK];split
 ·exact(qL (fun x hx=>(P8 s d t (h.op x hx)).symm) (fun x _ t _=>Aj t) (.inl rfl)).symm
 ·rfl
 rfl
theorem pp {i:Nat} {o:Oper} (hl:iw s) (hg:yn s.H H') (hD: ∀e G,eY P e G o.op=none):cw P items ow ops i o ⟨s.tmps,H'⟩=cw P items ow ops i o s:=by
 unfold cw;rw[show gate ops o ⟨s.tmps,H'⟩=gate ops o s from rfl];split
 ·refine(qL (fun x _=>?_) (fun x _ t ht=>Ai (dN hl ht) hg) (.inr hD)).symm;cases x<;>rfl
 ·rfl
 rfl
theorem wt {i:Nat} {o:Oper} (hM:mR o.op=true) {out:Lw} (h:cw P items ow ops i o s=some out): ∃t,out= .val t:=by
 unfold cw jv at h;split at h
 ·rw[if_pos hM]at h;obtain⟨t,_,rfl⟩:=Option.map_eq_some_iff.1 h;exact⟨t,rfl⟩
 ·injection h with h;exact⟨_,h.symm⟩
 cases h
theorem ut {i:Nat} {o:Oper} (hM:mR o.op=true) (tm:List TV) (H H':OH):cw P items ow ops i o ⟨tm,H⟩=cw P items ow ops i o ⟨tm,H'⟩:=by
 unfold cw jv;rw[show gate ops o ⟨tm,H⟩=gate ops o ⟨tm,H'⟩from rfl];simp only[hM,if_true];rfl
theorem pq {i:Nat} {o:Oper} (hM:mR o.op=true) (k:Nat->Nat->Bool) (H':OH) {t':TV}:cw P items ow ops i o ⟨s.tmps.map (a7 k),H'⟩=some (.val t')↔ ∃t,cw P items ow ops i o s=some (.val t)/\t'=a7 k t:=by
 unfold cw jv;rw[Fq];cases gate ops o s with
 |none=>simp
 |some b=>
  cases b with
  |false=>
   simp only[Option.some.injEq,Lw.val.injEq];constructor
   ·rintro rfl;exact⟨_,rfl,rfl⟩
   rintro⟨t,rfl,rfl⟩;rfl
  |true=>
   simp only[hM,if_true];have e:iB P (AS.ev ⟨s.tmps.map (a7 k),H'⟩) o.op=(iB P s.ev o.op).map (a7 k):=by
    rw[<- Fj];exact su (fun x _=>Mp k H' x)
   rw[e];cases iB P s.ev o.op with
   |none=>simp
   |some t=>
    simp only[ah,Option.some.injEq,Lw.val.injEq];constructor
    ·rintro rfl;exact⟨t,rfl,rfl⟩
    rintro⟨t,rfl,rfl⟩;rfl
theorem JW (tm:List TV) (H:OH) (d:Option Tmp) (t:TV):AS.put ⟨tm,H⟩ d t=⟨(AS.put ⟨tm,H⟩ d t).tmps,H⟩:=by cases d<;>rfl
theorem D3 (s:AS) (k:Nat->Nat->Bool) (H':OH) (d:Option Tmp) (t:TV):(⟨(s.put d t).tmps.map (a7 k),H'⟩:AS)=AS.put ⟨s.tmps.map (a7 k),H'⟩ d (a7 k t):=by
 cases d with
 |none=>rfl
 |some d=>simp only[AS.put,List.map_set]
def Rl (P:Program) (oi oj:Oper):Prop:=mR oi.op=true\/mR oj.op=true\/((∀e G,eY P e G oi.op=none)/\ ∀e G,eY P e G oj.op=none)
theorem n7 {d:Option Tmp} {out:Lw} (hw: ∀q,out≠ .wr q) (h:b8 d s out=some s1): ∃t H1,s1=AS.put ⟨s.tmps,H1⟩ d t/\yn s.H H1/\((H1=s.H/\out= .val t)\/ ∃e o l,d=some e/\s.H e=[]/\H1=aJ s.H e (o::l)/\out= .new t o l):=by
 cases out with
 |val t=>simp only[b8]at h;injection h with h;exact⟨t,s.H,h.symm,fun _ _=>rfl,.inl ⟨rfl,rfl⟩⟩
 |new t o l=>
  simp only[b8]at h;cases d with
  |none=>cases h
  |some e=>
   simp only at h;split at h
   ·rename_i hH;injection h with h
    refine⟨t,aJ s.H e (o::l),h.symm,fun a ha=>?_,.inr ⟨e,o,l,rfl,hH,rfl,rfl⟩⟩;exact aN (by rintro rfl;exact ha hH)
   cases h
 |wr q=>exact absurd rfl (hw q)
theorem Gv {i j:Nat} {oi oj:Oper} (hl:iw s) (hij:jD ops oj oi.dst) (hji:jD ops oi oj.dst) (hd: ∀k,oi.dst=some k->oj.dst≠some k) (hsw:Rl P oi oj)
  (h1:bf P items ow ops i oi s=some s1) (h2:bf P items ow ops j oj s1=some s'): ∃s2,bf P items ow ops j oj s=some s2/\bf P items ow ops i oi s2=some s':=by
 rw[bM]at h1 h2;obtain⟨ui,hui,h1⟩:=Option.bind_eq_some_iff.1 h1;obtain⟨uj,huj,h2⟩:=Option.bind_eq_some_iff.1 h2;by_cases hMi:mR oi.op=true
 ·obtain⟨t,rfl⟩:=wt hMi hui;simp only[b8]at h1;injection h1 with h1
  subst h1;rw[ck hij]at huj;cases uj with
  |val u=>
   simp only[b8]at h2;injection h2 with h2
   subst h2;refine⟨s.put oj.dst u,by rw[bM,huj];rfl,?_⟩;rw[bM,ck hji,hui];simp only[Option.bind_some,b8];rw[fg s t u hd]
  |new u o l=>
   simp only[b8,eK]at h2;cases hdj:oj.dst with
   |none=>rw[hdj]at h2;cases h2
   |some e=>
    rw[hdj]at h2;simp only at h2;split at h2
    ·rename_i hH;injection h2 with h2
     subst h2;refine⟨AS.put ⟨s.tmps,aJ s.H e (o::l)⟩ (some e) u,by rw[bM,huj];simp only[Option.bind_some,b8,hdj,hH],?_⟩;rw[bM,<- hdj,ck hji,ut hMi s.tmps _ s.H];rw[show(⟨s.tmps,s.H⟩:AS)=s from rfl,hui];simp only[Option.bind_some,b8];rw[fg _ u t (fun k hk hk'=>hd k hk' (by rw[hk]))]
     congr 2
     cases oi.dst<;>rfl
    cases h2
  |wr q=>
   simp only[b8]at h2;injection h2 with h2
   subst h2;refine⟨AS.put ⟨s.tmps.map (a7 q.k),q.H⟩ oj.dst q.t,by rw[bM,huj];rfl,?_⟩;rw[bM,ck hji,(pq hMi q.k q.H).2 ⟨t,hui,rfl⟩];simp only[Option.bind_some,b8];rw[D3,fg _ _ _ (fun k hk hk'=>hd k hk' (by rw[hk]))]
 by_cases hMj:mR oj.op=true
 ·obtain⟨u,rfl⟩:=wt hMj huj;simp only[b8]at h2;injection h2 with h2
  subst h2;cases ui with
  |val t=>
   simp only[b8]at h1;injection h1 with h1
   subst h1;rw[ck hij]at huj;refine⟨s.put oj.dst u,by rw[bM,huj];rfl,?_⟩;rw[bM,ck hji,hui];simp only[Option.bind_some,b8];rw[fg s t u hd]
  |new t o l=>
   simp only[b8]at h1;cases hdi:oi.dst with
   |none=>rw[hdi]at h1;cases h1
   |some e=>
    rw[hdi]at h1;simp only at h1;split at h1
    ·rename_i hH;injection h1 with h1
     subst h1;rw[<- hdi,ck hij,ut hMj s.tmps _ s.H,show(⟨s.tmps,s.H⟩:AS)=s from rfl]at huj;refine⟨s.put oj.dst u,by rw[bM,huj];rfl,?_⟩;rw[bM,ck hji,hui];simp only[Option.bind_some,b8,eK,hdi,hH];rw[fg _ t u (fun k hk=>hd k (by rw[hdi];exact hk))]
     congr 2
     cases oj.dst<;>rfl
    cases h1
  |wr q=>
   simp only[b8]at h1;injection h1 with h1
   subst h1;rw[ck hij]at huj;obtain⟨u0,hu0,rfl⟩:=(pq hMj q.k q.H).1 huj;refine⟨s.put oj.dst u0,by rw[bM,hu0];rfl,?_⟩;rw[bM,ck hji,hui];simp only[Option.bind_some,b8];rw[D3,fg _ _ _ hd]
 obtain⟨hDi,hDj⟩:(∀e G,eY P e G oi.op=none)/\ ∀e G,eY P e G oj.op=none:=by
  rcases hsw with h|h|h
  ·exact absurd h hMi
  ·exact absurd h hMj
  exact h
 have nowr: ∀{i:Nat} {o:Oper} {s:AS} {u:Lw},(∀e G,eY P e G o.op=none)->cw P items ow ops i o s=some u-> ∀q,u≠ .wr q:=fun{i o s u} hD hu q hq=>by
  subst hq;unfold cw jv at hu;split at hu
  ·split at hu
   ·obtain⟨_,_,hh⟩:=Option.map_eq_some_iff.1 hu;cases hh
   split at hu
   ·obtain⟨_,_,hh⟩:=Option.map_eq_some_iff.1 hu;cases hh
   rw[hD]at hu;simp only at hu;split at hu
   ·cases hu
   unfold Co at hu;split at hu<;>cases hu
  ·cases hu
  cases hu
 obtain⟨t,H1,rfl,hg1,hc1⟩:=n7 (nowr hDi hui) h1;rw[ck hij,pp hl hg1 hDj]at huj;obtain⟨u,H2,rfl,hg2,hc2⟩:=n7 (nowr hDj huj) h2;simp only[eK]at hc2 hg2
 -- what j does to s alone
 have hj: ∃H3,bf P items ow ops j oj s=some (AS.put ⟨s.tmps,H3⟩ oj.dst u)/\yn s.H H3/\((H3=s.H/\H2=H1)\/ ∃e o l,oj.dst=some e/\H3=aJ s.H e (o::l)/\H2=aJ H1 e (o::l)):=by
  rcases hc2 with⟨e1,e2⟩|⟨e,o,l,e1,e2,e3,e4⟩
  ·exact⟨s.H,by rw[bM,huj,e2];rfl,fun _ _=>rfl,.inl ⟨rfl,e1⟩⟩
  have hse:s.H e=[]:=by
   rcases hc1 with⟨c1,_⟩|⟨e',o',l',c1,c2,c3,_⟩
   ·rw[<- c1];exact e2
   rw[c3,aN (by rintro rfl;exact hd _ c1 e1)]at e2;exact e2
  refine⟨aJ s.H e (o::l),by rw[bM,huj,e4];simp only[Option.bind_some,b8,e1,hse],fun a ha=>aN (by rintro rfl;exact ha hse),.inr ⟨e,o,l,e1,rfl,e3⟩⟩
 obtain⟨H3,hj1,hg3,hj2⟩:=hj;refine⟨_,hj1,?_⟩;rw[bM,ck hji,pp hl hg3 hDi,hui];simp only[Option.bind_some];rcases hc1 with⟨c1,c2⟩|⟨e',o',l',c1,c2,c3,c4⟩
 ·subst c2;simp only[b8];rw[fg _ u t (fun k hk hk'=>hd k hk' (by rw[hk]))]
  congr 1
  have:H3=H2:=by
   rcases hj2 with⟨q1,q2⟩|⟨e,o,l,q0,q1,q2⟩
   ·rw[q1,q2,c1]
   rw[q1,q2,c1]
  rw[this,JW s.tmps H1,c1];cases oi.dst<;>rfl
 subst c4;have hH3:H3 e'=[]:=by
  rcases hj2 with⟨q1,_⟩|⟨e,o,l,q0,q1,_⟩
  ·rw[q1];exact c2
  rw[q1,aN (by rintro rfl;exact hd _ c1 q0)];exact c2
 simp only[b8,c1,eK,hH3];have e1:(⟨(AS.put ⟨s.tmps,H3⟩ oj.dst u).tmps,aJ H3 e' (o'::l')⟩:AS)=AS.put ⟨s.tmps,aJ H3 e' (o'::l')⟩ oj.dst u:=by cases oj.dst<;>rfl
 rw[e1,fg _ u t (fun k hk hk'=>hd k (by rw[c1];exact hk') (by rw[hk]))]
 congr 1
 have:aJ H3 e' (o'::l')=H2:=by
  rcases hj2 with⟨q1,q2⟩|⟨e,o,l,q0,q1,q2⟩
  ·rw[q1,q2,c3]
  rw[q1,q2,c3];funext z;have hne:e'≠e:=by rintro rfl;exact hd _ c1 q0
  by_cases h1:z=e'
  ·subst h1;rw[aX,aN hne,aX]
  rw[aN h1];by_cases h2:z=e
  ·subst h2;rw[aX,aX]
  rw[aN h2,aN h2,aN h1]
 rw[this,JW s.tmps H1];rfl
end
end
section
section
variable {P:Program} {items:List (cQ P)} {ow:List Nat} {ops:Array Oper} {s s1 s':AS} {H H':OH}
theorem Cg {t:TV} (h:noRefTV t=true):fj H t:=by
 have av: ∀x,dZ x=true->eh H x:=fun x hx=>by cases x<;>first|trivial|cases hx
 cases t with
 |one x=>exact av x h
 |agg cs=>simp only[noRefTV,aj]at h;exact fun x hx=>av x (h x hx)
 |fn f cs=>simp only[noRefTV,aj]at h;exact fun x hx=>av x (h x hx)
 |tup ts=>simp only[noRefTV,aj]at h;exact fun t ht x hx=>av x (h t ht x hx)
theorem Am {t:TV} {d:Nat} (h:selfTV d t) (hd:H d≠[]):fj H t:=by
 have av: ∀x,bG d x->eh H x:=fun x hx=>by
  cases x with
  |sl a _ _ _=>have hx:a=d:=hx;subst hx;exact hd
  |ptr a _ _ _=>have hx:a=d:=hx;subst hx;exact hd
  |fn _ a _=>have hx1:a=d:=hx.1;subst hx1;exact⟨hd,hx.2⟩
  |p x=>trivial
  |junk=>trivial
 cases t with
 |one x=>exact av x h
 |agg cs=>exact fun x hx=>av x (h x hx)
 |fn f cs=>exact fun x hx=>av x (h x hx)
 |tup ts=>exact fun t ht x hx=>av x (h t ht x hx)
theorem tK (d:Nat) (t:TV):selfTV d (renTV d t):=by
 cases t with
 |one x=>exact de d x
 |agg cs=>intro x hx;simp only[am]at hx;obtain⟨y,_,rfl⟩:=hx;exact de d y
 |fn f cs=>intro x hx;simp only[am]at hx;obtain⟨y,_,rfl⟩:=hx;exact de d y
 |tup ts=>
  intro t ht x hx;simp only[am]at ht;obtain⟨t',_,rfl⟩:=ht;simp only[am]at hx;obtain⟨y,_,rfl⟩:=hx;exact de d y
theorem vR {d:Nat} {t:TV} (h:noRefTV t=true):noRefTV (renTV d t)=true:=by
 have av: ∀x,dZ x=true->dZ (cb d x)=true:=fun x hx=>by cases x<;>first|rfl|cases hx
 cases t with
 |one x=>exact av x h
 |agg cs=>simp only[noRefTV,aj]at h;simp only[renTV,noRefTV,aj,am];rintro _ ⟨x,hx,rfl⟩;exact av x (h x hx)
 |fn f cs=>simp only[noRefTV,aj]at h;simp only[renTV,noRefTV,aj,am];rintro _ ⟨x,hx,rfl⟩;exact av x (h x hx)
 |tup ts=>
  simp only[noRefTV,aj]at h;simp only[renTV,noRefTV,aj,am];rintro _ ⟨t,ht,rfl⟩ _ hx;simp only[am]at hx;obtain⟨x,hx,rfl⟩:=hx;exact av x (h t ht x hx)
theorem dj {a:Nat} {o:OObj} (h: ∀e∈o.elems,∀x∈e,isPure x=true):selfO a o:=fun e he x hx=>cd (h e he x hx)
theorem vP {t:TV} {news:List (List AV)} (h:fA H t=some news): ∀e∈news,∀x∈e,isPure x=true:=by
 unfold fA at h;split at h
 ·injection h with h
  subst h;intro e he x hx;simp only[am]at he;obtain⟨e',_,rfl⟩:=he;simp only[am]at hx;obtain⟨x',_,rfl⟩:=hx;rfl
 ·injection h with h;subst h;intro e he;simp at he
 ·split at h
  ·split at h
   ·rename_i hp;injection h with h
    subst h;simp only[aj]at hp;exact fun e he x hx=>hp e (List.mem_of_mem_take (List.mem_of_mem_drop he)) x hx
   cases h
  cases h
 cases h
theorem zA {ev:Operand->Option TV} {n:Nat}: ∀(parts:List (Nat×Operand)) (i:Nat) (l:List (List AV)),nn ev n i parts=some l-> ∀e∈l,∀x∈e,isPure x=true
 |[],i,l,h=>by simp only[nn]at h;injection h with h;subst h;intro e he;simp at he
 |(k,x)::rest,i,l,h=>by
  simp only[nn]at h;split at h
  ·rename_i cs l' hcs hl';split at h
   ·rename_i hc;injection h with h
    subst h;intro e he y hy;rcases List.mem_cons.1 he with rfl|he
    ·have:=hc.2.2;simp only[aj]at this;exact this y hy
    exact zA rest (i+1) l' hl' e he y hy
   cases h
  cases h
theorem BJ {i d:Nat} {ev:Operand->Option TV} {op:Op} {t:TV} {F:List OObj} (h:cf P items ow i d ev H op=some (t,F)):selfTV d t/\(F=[]->noRefTV t=true)/\ ∀o∈F,selfO d o:=by
 cases op<;>simp only[cf]at h<;>try cases h
 case box e x=>
  split at h
  ·split at h
   ·rename_i hc;injection h with h
    injection h with h1 h2
    subst h1 h2;refine⟨rfl,fun h=>by simp at h,fun o ho=>?_⟩;simp at ho;subst ho;have:=hc.1;simp only[aj]at this;exact dj (fun e he x hx=>by simp at he;subst he;exact this x hx)
   cases h
  cases h
 case alloc e=>
  split at h
  ·split at h
   ·injection h with h
    injection h with h1 h2
    subst h1 h2;refine⟨rfl,fun h=>by simp at h,fun o ho=>?_⟩;simp at ho;subst ho;exact dj (fun e he x hx=>by simp at he;subst he;simp at hx;obtain⟨y,_,rfl⟩:=hx;rfl)
   cases h
  cases h
 case makeSlice ty l c=>
  split at h
  ·split at h
   ·split at h
    ·injection h with h
     injection h with h1 h2
     subst h1 h2;refine⟨rfl,fun h=>by simp at h,fun o ho=>?_⟩;simp at ho;subst ho;exact dj (fun e he x hx=>by simp[List.mem_replicate]at he;rw[he.2]at hx;simp at hx;obtain⟨y,_,rfl⟩:=hx;rfl)
    cases h
   cases h
  cases h
 case buildSlice ty n parts=>
  split at h
  ·split at h
   ·split at h
    ·rename_i l hl;split at h
     ·split at h
      ·injection h with h
       injection h with h1 h2
       subst h1 h2;refine⟨rfl,fun h=>by simp at h,fun o ho=>?_⟩;simp at ho;subst ho;exact dj (zA _ _ _ hl)
      injection h with h
      injection h with h1 h2
      subst h1 h2;exact⟨trivial,fun _=>rfl,fun o ho=>by simp at ho⟩
     cases h
    cases h
   cases h
  cases h
 case call c=>
  split at h
  ·split at h
   ·rename_i it ts hit hts;split at h
    ·rename_i hc;injection h with h
     injection h with h1 h2
     subst h1 h2;refine⟨tK _ _,fun hF=>?_,fun o ho=>?_⟩
     ·have h4:=hc.2.2.2;simp only[List.map_eq_nil_iff]at hF;rw[hF]at h4;exact vR (by simpa using h4)
     simp only[am]at ho;obtain⟨o',_,rfl⟩:=ho;intro e he x hx;simp only[renO,am]at he;obtain⟨e',_,rfl⟩:=he;simp only[am]at hx;obtain⟨y,_,rfl⟩:=hx;exact de d y
    cases h
   cases h
  ·split at h
   ·rename_i f extra it ts hcl hit hts;split at h
    ·rename_i hc;injection h with h
     injection h with h1 h2
     subst h1 h2;refine⟨tK _ _,fun hF=>?_,fun o ho=>?_⟩
     ·have h4:=hc.2.2.2;simp only[List.map_eq_nil_iff]at hF;rw[hF]at h4;exact vR (by simpa using h4)
     simp only[am]at ho;obtain⟨o',_,rfl⟩:=ho;intro e he x hx;simp only[renO,am]at he;obtain⟨e',_,rfl⟩:=he;simp only[am]at hx;obtain⟨y,_,rfl⟩:=hx;exact de d y
    cases h
   cases h
  ·split at h
   ·split at h
    ·rename_i news e hs hx hsl;split at h
     ·split at h
      ·injection h with h
       injection h with h1 h2
       subst h1 h2;refine⟨rfl,fun h=>by simp at h,fun o ho=>?_⟩;simp at ho;subst ho;obtain⟨tx,_,hn⟩:=Option.bind_eq_some_iff.1 hx;exact dj (vP hn)
      cases h
     cases h
    cases h
   cases h
  cases h
theorem js {k:Nat->Nat->Bool} {x:AV} (h: ∀a r,H a≠[]->k a r=false->H' a≠[]) (hx:eh H x):eh H' (a6 k x):=by
 cases x with
 |sl a r off len=>
  simp only[a6];cases hk:k a r with
  |true=>trivial
  |false=>exact h a r hx hk
 |ptr a r i j=>
  simp only[a6];cases hk:k a r with
  |true=>trivial
  |false=>exact h a r hx hk
 |p x=>trivial
 |junk=>trivial
 |fn f a qs=>
  simp only[a6];split
  ·trivial
  rename_i hk;refine⟨?_,hx.2⟩;cases qs with
  |nil=>exact absurd rfl hx.2
  |cons q l=>exact h a q.1 hx.1 (by cases hq:k a q.1<;>simp_all)
theorem qI {k:Nat->Nat->Bool} {t:TV} (h: ∀a r,H a≠[]->k a r=false->H' a≠[]) (hx:fj H t):fj H' (a7 k t):=by
 cases t with
 |one x=>exact js h hx
 |agg cs=>intro y hy;simp only[am]at hy;obtain⟨z,hz,rfl⟩:=hy;exact js h (hx z hz)
 |fn f cs=>intro y hy;simp only[am]at hy;obtain⟨z,hz,rfl⟩:=hy;exact js h (hx z hz)
 |tup ts=>
  intro t ht y hy;simp only[am]at ht;obtain⟨t',ht',rfl⟩:=ht;simp only[am]at hy;obtain⟨z,hz,rfl⟩:=hy;exact js h (hx t' ht' z hz)
theorem pi {a r:Nat} {l:List OObj} {o o':OObj} (hl: ∀o∈l,selfO a o) (ho':selfO a o'): ∀o∈l.set r o',selfO a o:=fun x hx=>by
 rcases List.mem_or_eq_of_mem_set hx with hx|rfl
 ·exact hl x hx
 exact ho'
theorem oX {a i j:Nat} {o:OObj} {e cs:List AV} (ho:selfO a o) (he:o.elems[i]?=some e) (hc: ∀x∈cs,bG a x):selfO a {o with elems:=o.elems.set i (putCells e j cs)}:=fun y hy x hx=>by
 rcases List.mem_or_eq_of_mem_set hy with hy|rfl
 ·exact ho y hy x hx
 unfold putCells at hx;simp only[List.mem_append]at hx;rcases hx with(hx|hx)|hx
 ·exact ho e (ax he) x (List.mem_of_mem_take hx)
 ·exact hc x hx
 exact ho e (ax he) x (List.mem_of_mem_drop hx)
theorem Fi (hl:iw s) {op:Op} {q:A3} (h:eY P s.ev s.H op=some q):(∀a r,s.H a≠[]->q.k a r=false->q.H a≠[])/\(∀a,∀o∈q.H a,selfO a o)/\fj q.H q.t:=by
 have hundef: ∀H,fj H TV.undef:=fun H t ht=>by simp at ht
 have upd1: ∀{a r:Nat} {o:OObj} {F:List OObj},(s.H a)[r]?=some o->F.length>=(s.H a).length->(∀o∈F,selfO a o)->(∀(b r':Nat),s.H b≠[]->aJ s.H a F b≠[])/\ ∀b,∀o∈aJ s.H a F b,selfO b o:=fun{a r o F} ho hlen hF=>by
  have hpos:0<(s.H a).length:=by have:=(List.getElem?_eq_some_iff.1 ho).1;omega
  refine⟨fun b _ hb=>?_,fun b o' ho'=>?_⟩
  ·by_cases hba:b=a
   ·subst hba;rw[aX];intro h0;rw[h0]at hlen;simp at hlen;simp[hlen]at hpos
   rw[aN hba];exact hb
  by_cases hba:b=a
  ·subst hba;rw[aX]at ho';exact hF o' ho'
  rw[aN hba]at ho';exact hl.2 b o' ho'
 cases op<;>simp only[eY]at h<;>try cases h
 case store t ad x=>
  split at h
  ·rename_i a r i j n had hn;split at h
   ·rename_i o ho;have hso:=hl.2 a o (ax ho);split at h
    ·rename_i e he;split at h
     ·rename_i a' r' off len hx;split at h
      ·rename_i haa;subst haa;split at h
       ·injection h with h
        subst h;obtain⟨g1,g2⟩:=upd1 ho (F:=(s.H a').set r {o with elems:=o.elems.set i (putCells e j [.sl a' r' off len])}) (by simp) (pi (o:=o) (hl.2 a') (oX hso he (fun y hy=>by simp at hy;subst hy;rfl)));exact⟨fun b r hb _=>g1 b r hb,g2,hundef _⟩
       cases h
      rename_i haa;split at h
      ·rename_i ob hH;split at h
       ·rename_i hc;injection h with h
        subst h;have hp:=hc.2.2.2.2.2.2;simp only[aj]at hp;obtain⟨g1,g2⟩:=upd1 ho (F:=(s.H a).set r {o with elems:=o.elems.set i (putCells e j [.sl a (s.H a).length 0 len])}++[ob]) (by simp) (fun y hy=>by
         rcases List.mem_append.1 hy with hy|hy
         ·exact pi (o:=o) (hl.2 a) (oX hso he (fun y hy=>by simp at hy;subst hy;rfl)) y hy
         simp at hy;subst hy;exact dj hp)
        refine⟨fun b r hb hk=>?_,fun b o' ho'=>?_,hundef _⟩
        ·have hba:b≠a':=by simpa using hk
         show aJ _ a' [] b≠[];rw[aN hba];exact g1 b r hb
        by_cases hba:b=a'
        ·subst hba;simp only[aX]at ho';simp at ho'
        simp only[aN hba]at ho';exact g2 b o' ho'
       cases h
      cases h
     ·rename_i f cs hx;split at h
      ·rename_i qs hqs;split at h
       ·rename_i hc;injection h with h
        subst h;obtain⟨g1,g2⟩:=upd1 ho (F:=(s.H a).set r {o with elems:=o.elems.set i (putCells e j [.fn f a qs])}) (by simp) (pi (o:=o) (hl.2 a) (oX hso he (fun y hy=>by simp at hy;subst hy;exact⟨rfl,List.ne_nil_of_length_pos hc.2.2⟩)));exact⟨fun b r hb _=>g1 b r hb,g2,hundef _⟩
       cases h
      cases h
     ·rename_i v hv hv2 hx;split at h
      ·rename_i cs hcs;split at h
       ·rename_i hc;injection h with h
        subst h;have hp:=hc.2.2;simp only[aj]at hp;obtain⟨g1,g2⟩:=upd1 ho (F:=(s.H a).set r {o with elems:=o.elems.set i (putCells e j cs)}) (by simp) (pi (o:=o) (hl.2 a) (oX hso he (fun y hy=>vT (hp y hy))));exact⟨fun b r hb _=>g1 b r hb,g2,hundef _⟩
       cases h
      cases h
     cases h
    cases h
   cases h
  cases h
 case call c=>
  split at h
  ·split at h
   ·rename_i a r off len news e hs hx hsl;split at h
    ·rename_i o z sz by_ ho hz hszo hby;split at h
     ·injection h with h
      subst h;obtain⟨tx,_,hn⟩:=Option.bind_eq_some_iff.1 hx;have hso:=hl.2 a o (ax ho);obtain⟨g1,g2⟩:=upd1 ho (F:=((s.H a).map (i4 fun x y=>x==a&&y==r)).set r {o with elems:=o.elems++news}) (by simp) (fun y hy=>by
       rcases List.mem_or_eq_of_mem_set hy with hy|rfl
       ·simp only[am]at hy;obtain⟨o2,ho2,rfl⟩:=hy;intro e he x hx;simp only[i4,am]at he;obtain⟨e',he',rfl⟩:=he;simp only[am]at hx;obtain⟨x',hx',rfl⟩:=hx;have:=hl.2 a o2 ho2 e' he' x' hx';cases x' with
        |sl b _ _ _=>simp only[a6];split;trivial;exact this
        |ptr b _ _ _=>simp only[a6];split;trivial;exact this
        |fn _ b _=>simp only[a6];split;trivial;exact this
        |p x=>trivial
        |junk=>trivial
       intro e he x hx;rcases List.mem_append.1 he with he|he
       ·exact hso e he x hx
       exact cd (vP hn e he x hx))
      refine⟨fun b r hb _=>g1 b r hb,g2,?_⟩;exact g1 a r (by intro h0;rw[h0]at ho;simp at ho)
     cases h
    cases h
   cases h
  cases h
theorem wQ {i:Nat} {o:Oper} (hl:iw s) (h:bf P items ow ops i o s=some s1):iw s1:=by
 rw[bM]at h;obtain⟨out,hout,h⟩:=Option.bind_eq_some_iff.1 h;unfold cw at hout;have hundef:fj s.H TV.undef:=fun t ht=>by simp at ht
 split at hout
 ·unfold jv at hout;split at hout
  ·obtain⟨t,ht,rfl⟩:=Option.map_eq_some_iff.1 hout;simp only[b8]at h;injection h with h;subst h
   exact j6 hl (Fk hl ht)
  split at hout
  ·obtain⟨t,ht,rfl⟩:=Option.map_eq_some_iff.1 hout;simp only[b8]at h;injection h with h;subst h
   exact j6 hl (Fl hl ht)
  split at hout
  ·rename_i q hq;injection hout with hout
   subst hout;simp only[b8]at h;injection h with h;subst h
   obtain⟨g1,g2,g3⟩:=Fi hl hq;refine j6 ⟨fun t x hx=>?_,g2⟩ g3;simp only[az]at hx;obtain⟨y,hy,rfl⟩:=Option.map_eq_some_iff.1 hx;exact qI g1 (hl.1 t y hy)
  split at hout
  ·cases hout
  rename_i d hd;cases hA:cf P items ow i d s.ev s.H o.op with
  |none=>rw[hA]at hout;cases hout
  |some tF=>
   obtain⟨t,F⟩:=tF;rw[hA]at hout;obtain⟨f1,f2,f3⟩:=BJ hA;cases F with
   |nil=>
    simp only[Co]at hout;injection hout with hout
    subst hout;simp only[b8]at h;injection h with h;subst h
    exact j6 hl (Cg (f2 rfl))
   |cons o' l=>
    simp only[Co]at hout;injection hout with hout
    subst hout;simp only[b8,hd]at h;split at h
    ·rename_i hH;injection h with h
     subst h;refine j6 ⟨fun k x hx=>?_,fun b o2 ho2=>?_⟩ (Am f1 (by simp[aX]))
     ·have:=hl.1 k x hx;have hg: ∀a,s.H a≠[]->aJ s.H d (o'::l) a≠[]:=fun a ha=>by rw[aN (by rintro rfl;exact ha hH)];exact ha
      have:=qI (H':=aJ s.H d (o'::l)) (k:=fun _ _=>false) (fun a _ ha _=>hg a ha) this;rwa[kC]at this
     by_cases hb:b=d
     ·subst hb;simp only[aX]at ho2;exact f3 o2 ho2
     simp only[aN hb]at ho2;exact hl.2 b o2 ho2
    cases h
 ·injection hout with hout
  subst hout;simp only[b8]at h;injection h with h;subst h
  exact j6 hl hundef
 cases hout
end
end
end Go.Proofs.YtalmoejhjceflaaGreat
