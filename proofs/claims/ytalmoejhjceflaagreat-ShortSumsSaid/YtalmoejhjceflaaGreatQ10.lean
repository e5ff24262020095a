/-
  Part 11 of a proof (walks and plain facts).
-/
import Derived.Test.YtalmoejhjceflaaGreatQ09
import Derived.StillTailTactics
import Derived.Sort.Grow
import Derived.Deep.DeepFit
set_option linter.all false
set_option maxRecDepth 100000
set_option maxHeartbeats 64000000
namespace Go.Proofs.YtalmoejhjceflaaGreat
open Go.RowKit Go.Proofs.Tryz
variable {b c:List Nat} {e f:List Int} {x y:Int} {g:TV} {h:List AV} {n:Nat}
def natV:List Nat->Nat
 |[]=>0
 |a::l=>a+4294967296*natV l
def Lmb (l:List Nat):Prop:= ∀a∈l,a<4294967296
def xO (l:List Nat):Prop:=l.getLast?≠some 0
def co:List Nat->List Nat
 |[]=>[]
 |a::l=>match co l with
  |[]=>if a=0 then[]else[a]
  |b::m=>a::b::m
theorem kD (x y:List Nat):natV (x++y)=natV x+4294967296^x.length*natV y:=by
 induction x with
 |nil=>simp[natV]
 |cons a l b=>simp[natV,b,adk,ag7,ad1,aeU,adu]
theorem fF (h:Lmb b):natV b<4294967296^b.length:=by
 induction b with
 |nil=>simp[natV]
 |cons a b f=>
  have g:=h a adf;have:=f (fun c e=>h c (ac6 _ e));grind [natV]
theorem OF (l:List Nat):natV (co l)=natV l:=by
 induction l with
 |nil=>rfl
 |cons a l b=>
  grind [co,natV]
theorem TZ (l:List Nat):xO (co l):=by
 induction l with
 |nil=>simp[xO,co]
 |cons a l b=>
  grind [co,xO]
theorem T0 (l:List Nat):(co l).length<=l.length:=by
 induction l with
 |nil=>simp[co]
 |cons a l b=>
  grind [co]
theorem zj {a:Nat} (h:xO (a::b)):xO b:=by
 grind [xO]
theorem xw (h:xO b):co b=b:=by
 induction b with
 |nil=>rfl
 |cons a b c=>
  grind [co,xO]
theorem jG (l:List Nat):co (l++[0])=co l:=by
 induction l with
 |nil=>simp[co]
 |cons a l b=>grind [co]
theorem rp {a:Nat} (h:a≠0):co (b++[a])=b++[a]:=xw (by simp[xO,h])
theorem T4 (h:Lmb b):Lmb (co b):=by
 induction b with
 |nil=>exact h
 |cons a b g=>
  have g:=g (fun e f=>h e (ac6 _ f));unfold co;split
  ·split
   ·grind
   intro e f;simp at f;subst f;exact h _ adf
  rename_i e m n;rw[n]at g;intro c j;rcases acR.1 j with rfl|j
  ·exact h _ adf
  exact g c j
theorem DK (h:xO b) (e:b≠[]):4294967296^(b.length-1)<=natV b:=by
 induction b with
 |nil=>grind
 |cons a b f=>
  cases b with
  |nil=>grind [xO,natV]
  |cons c m=>
   grind [zj,natV]
theorem Jh {k:Nat} (h:xO b) (e:natV b<4294967296^k):b.length<=k:=by
 by_cases c:b=[]
 ·grind
 have:=DK h c;have f:4294967296^(b.length-1)<4294967296^k:=adn this e;grind [Nat.pow_lt_pow_iff_right]
theorem Vp (o:Lmb b) (p:Lmb c) (j:xO b) (n:xO c) (h:natV b=natV c):b=c:=by
 induction b generalizing c with
 |nil=>
  cases c with
  |nil=>rfl
  |cons e c=>
   have:=DK n (by simp);grind [natV]
 |cons a b s=>
  cases c with
  |nil=>
   have:=DK j (by simp);grind [natV]
  |cons e c=>
   have t:=o a adf;have u:=p e adf;simp only[natV]at h;have q:a=e:=by omega
   have r:natV b=natV c:=by omega
   rw[q,s (fun f g=>o f (ac6 _ g)) (fun f g=>p f (ac6 _ g)) (zj j) (zj n) r]
def iq (neg:Bool) (n:Nat):Int:=if neg then -(n:Int)else n
theorem Oh (a:Int) (w:World):
  Calls prog 224 #[.int .i64 a] w fun e w'=>e= .returned (.bool false)/\w=w':=by
 go_enter func224,ntmps224
 go_wp2
 go_ret
 simp
def si (a b:Int):Int:=if a<b then -1 else if b<a then 1 else 0
theorem pV (a b:Int) (w:World):
  Calls prog 192 #[.int .i64 a,.int .i64 b] w fun e w'=>e= .returned (.int .i64 (si a b))/\w=w':=by
 go_enter func192,ntmps192
 go_wp2_with (go_at_call 224;refine(Oh _ _).mono ?_;rintro e w' ⟨rfl,rfl⟩)
 all_goals
  go_ret
  exact⟨iM (by grind [si]),rfl⟩
def dn:List Int->List Int->Int
 |[],[]=>0
 |[],_::_=> -1
 |_::_,[]=>1
 |a::x,b::y=>if a<b then -1 else if b<a then 1 else dn x y
theorem Co {k:Nat} {a:Int} (h:e[k]?=some a) (j:f[k]?=some x):
  dn (e.drop k) (f.drop k)=if a<x then -1 else if x<a then 1 else dn (e.drop (k+1)) (f.drop (k+1)):=by
 obtain⟨c,rfl⟩:=aci.1 h;obtain⟨g,rfl⟩:=aci.1 j;rw[adF c,adF g];rfl
theorem Cp {k:Nat} (b:k>=e.length) (c:k<f.length):dn (e.drop k) (f.drop k)= -1:=by
 rw[aen b,adF c];rfl
theorem zq {k:Nat} (b:k<e.length) (c:k>=f.length):dn (e.drop k) (f.drop k)=1:=by
 rw[aen c,adF b];rfl
theorem Cn {k:Nat} (b:k>=e.length) (c:k>=f.length):dn (e.drop k) (f.drop k)=0:=by
 rw[aen b,aen c];rfl
theorem Vs {a:Int} (h:(si a x !=0)=true):si a x=if a<x then -1 else if x<a then 1 else y:=by
 grind [si]
theorem Vr {a:Int} (h:(si a x !=0)=false):(if a<x then -1 else if x<a then 1 else y)=y:=by
 grind [si]
theorem abz {a:Int} (h:(a !=x)=true) (c:a<x): -1=if a<x then -1 else if x<a then 1 else y:=by simp[c]
theorem aby {a:Int} (h:(a !=x)=true) (c: ¬a<x):1=if a<x then -1 else if x<a then 1 else y:=by
 grind
theorem uY (A B:Option Addr) (c d:Nat) (x y:List Int) (w:World) (hx:RdI .i64 w A x) (hy:RdI .i64 w B y) (lx:x.length<=9223372036854775807) (ly:y.length<=9223372036854775807):
  Calls prog 225 #[.slice A x.length c,.slice B y.length d] w fun e w'=>e= .returned (.int .i64 (dn x y))/\w=w':=by
 have HX:=acg hx;have HY:=acg hy;clear hx hy
 go_enter func225,ntmps225
 go_wp2_with fail
 go_loop [11,5,6,7,8] (fun i _ _ _ _=> ∃k:Nat,k<=x.length/\i= .int .i64 k/\Hid (dn (x.drop k) (y.drop k)=dn x y)) (fun i _ _ _ _=>x.length-(intOf i).toNat)
 case atStart=>grind [Lib.hid]
 case round=>
  obtain⟨k,hk,rfl,HR⟩:=hrel;by_cases hlt:k<x.length
  ·obtain⟨a,ha⟩:=getElem?_of_lt hlt;obtain⟨b,off,rfl,hc⟩:=HX.out.at_ ha;have HA:=acg ha;clear ha;by_cases hly:k<y.length
   ·obtain⟨a',ha'⟩:=getElem?_of_lt hly;obtain⟨b',off',rfl,hc'⟩:=HY.out.at_ ha';have HA':=acg ha';clear ha';have hD:=acg (Co HA.out HA'.out)
    go_wp2_with (go_at_call 192;refine(pV _ _ _).mono ?_;rintro e w' ⟨rfl,rfl⟩)
    ·go_ret
     have hne:(si a a' !=0)=true:=by assumption
     exact⟨iM (by rw[<- HR.out,hD.out];exact Vs hne),rfl⟩
    go_round
    case rel=>
     have he:(si a a' !=0)=false:=by assumption
     exact⟨k+1,by omega,by go_num,acg (by rw[<- HR.out,hD.out];simp_all[Vr])⟩
    grind [intOf]
   go_wp2_with fail
   go_ret
   exact⟨iM (by rw[<- HR.out,zq hlt (by omega)]),rfl⟩
  have hk':k=x.length:=by omega
  subst hk'
  go_wp2_with fail
  all_goals
   go_ret
   exact⟨iM (by rw[<- HR.out];grind [Cp,Cn]),rfl⟩
theorem qp (A B:Option Addr) (c d:Nat) (x y:List Int) (w:World) (hx:RdI .i64 w A x) (hy:RdI .i64 w B y) (lx:x.length<=9223372036854775807) (ly:y.length<=9223372036854775807):
  Calls prog 21 #[.slice A x.length c,.slice B y.length d] w fun e w'=>e= .returned (.int .i64 (dn x y))/\ ∃n,w'=w.drewN n:=by
 have HX:=acg hx;have HY:=acg hy;clear hx hy
 go_enter func21,ntmps21
 go_wp2_with fail
 go_loopw [5] (fun i wr=> ∃k n:Nat,k<=x.length/\k<=y.length/\i= .int .i64 k/\wr=w.drewN n/\Hid (dn (x.drop k) (y.drop k)=dn x y)) (fun i _=>x.length-(intOf i).toNat)
 case atStart=>exact⟨0,0,acL _,acL _,rfl,rfl,acg rfl⟩
 case round=>
  obtain⟨k,n,hk,hky,rfl,rfl,HR⟩:=hrel;by_cases hlt:k<x.length
  ·obtain⟨a,ha⟩:=getElem?_of_lt hlt;obtain⟨b,off,rfl,hc⟩:=HX.out.at_ ha;have HA:=acg ha;clear ha;by_cases hly:k<y.length
   ·obtain⟨a',ha'⟩:=getElem?_of_lt hly;obtain⟨b',off',rfl,hc'⟩:=HY.out.at_ ha';have HA':=acg ha';clear ha';have hD:=acg (Co HA.out HA'.out)
    go_wp2_with fail
    go_quiet (fail)
    go_wp2_with fail
    ·go_quiet (fail)
     have hne:(a !=a')=true:=by assumption
     go_wp2_with fail
     all_goals
      go_ret
      exact⟨iM (by rw[<- HR.out,hD.out];first|exact abz hne (by omega)|exact aby hne (by omega)),_,by rw[World.drewN_drewN,World.drewN_drewN]⟩
    have he:(a !=a')=false:=by assumption
    go_roundw
    case rel=>exact⟨k+1,_,by omega,by omega,by go_num,rfl,acg (by rw[<- HR.out,hD.out];grind)⟩
    grind [intOf]
   go_wp2_with fail
   all_goals
    go_ret
    exact⟨iM (by rw[<- HR.out,zq hlt (by omega)]),_,rfl⟩
  by_cases hly:k<y.length
  ·go_wp2_with fail
   all_goals
    go_ret
    exact⟨iM (by rw[<- HR.out,Cp (by omega) (by omega)]),_,rfl⟩
  go_wp2_with fail
  all_goals
   go_ret
   exact⟨iM (by rw[<- HR.out,Cn (by omega) (by omega)]),_,rfl⟩
theorem Bt (A B:Option Addr) (c d:Nat) (x y:List Int) (w:World) (hx:RdI .i64 w A x) (hy:RdI .i64 w B y) (lx:x.length<=9223372036854775807) (ly:y.length<=9223372036854775807):
  Calls prog 193 #[.slice A x.length c,.slice B y.length d] w fun e w'=>e= .returned (.int .i64 (dn x y))/\w=w':=by
 go_enter func193,ntmps193
 go_wp2_with (go_at_call 225;refine(uY A B c d x y _ hx hy lx ly).mono ?_;rintro e w' ⟨rfl,rfl⟩)
 go_ret
 simp
def YF:List Int->Int
 |[]=>0
 |a::l=>if a !=0 then a else YF l
theorem SU {k:Nat} {a:Int} (h:e[k]?=some a):YF (e.drop k)=if a !=0 then a else YF (e.drop (k+1)):=by
 obtain⟨b,rfl⟩:=aci.1 h;rw[adF b];rfl
theorem NS (A:Option Addr) (c:Nat) (x:List Int) (w:World) (hx:RdI .i64 w A x) (lx:x.length<=9223372036854775807):
  Calls prog 191 #[.slice A x.length c] w fun e w'=>e= .returned (.int .i64 (YF x))/\w=w':=by
 have HX:=acg hx;clear hx
 go_enter func191,ntmps191
 go_wp2_with fail
 go_loop [8,5] (fun i _=> ∃k:Nat,k<=x.length/\i= .int .i64 k/\Hid (YF (x.drop k)=YF x)) (fun i _=>x.length-(intOf i).toNat)
 case atStart=>grind [Lib.hid]
 case round=>
  obtain⟨k,hk,rfl,HR⟩:=hrel;by_cases hlt:k<x.length
  ·obtain⟨a,ha⟩:=getElem?_of_lt hlt;obtain⟨b,off,rfl,hc⟩:=HX.out.at_ ha;have HA:=acg (SU ha);clear ha;by_cases h0:(a !=0)=true
   ·go_wp2_with fail
    go_ret
    exact⟨iM (by rw[<- HR.out,HA.out,if_pos h0]),rfl⟩
   have h0':(a !=0)=false:=by grind
   have H0:=acg h0';clear h0
   go_wp2_with fail
   go_round
   case rel=>exact⟨k+1,by omega,by go_num,acg (by rw[<- HR.out,HA.out,if_neg (by grind)])⟩
   grind [intOf]
  go_wp2_with fail
  go_ret
  exact⟨iM (by rw[<- HR.out,aen (by omega)];rfl),rfl⟩
theorem xC (a b:Int) (w:World):
  Calls prog 192 #[.int .i64 a,.int .i64 b] w fun e g=>e= .returned (.int .i64 (si a b))/\g=w:=
 (pV a b w).mono fun _ _ ⟨c,f⟩=>⟨c,f.symm⟩
theorem xM (A B:Option Addr) (c d:Nat) (x y:List Int) (w:World) (g:RdI .i64 w A x) (h:RdI .i64 w B y) (j:x.length<=9223372036854775807) (l:y.length<=9223372036854775807):
  Calls prog 193 #[.slice A x.length c,.slice B y.length d] w fun e m=>e= .returned (.int .i64 (dn x y))/\m=w:=
 (Bt A B c d x y w g h j l).mono fun _ _ ⟨b,f⟩=>⟨b,f.symm⟩
def NQ (b:Int) (x:List Int) (c:Int) (y:List Int):Int:=YF [si b c,dn x y]
theorem du {P:Program} {id:Nat} {Q:Exit->Act->World->Prop} {a:Act} {w:World} {l:List Oper} (n:Nat) (e:P.follows .mixedOrders=true) (c:Region.lexTailB .any l.toArray n=true)
  (h:wpStill P l.toArray w.drew (fun b=>wpList P l.toArray Q (l.drop n) b w.drew) (l.take n) a):(Code.region id l.toArray true).wp P Q a w:=wp_region_still_tail n e c h
theorem JN (w:World) (b:Array Obj) (o:Obj):(Sort.grow w b).alloc o=Sort.grow w (b.push o):=by
 unfold Sort.grow World.alloc;simp
theorem RO (w:World) (a b:Obj):((w.alloc a).alloc b).drew=Sort.grow (w.drewN 1) #[a,b]:=by
 rfl
theorem Di (w:World) (a b c d:Value) (t:TypeId):
  ((w.alloc (.cells #[a,b] t)).alloc (.cells #[c,d] t)).drew.cell? ⟨w.heap.size,0,none⟩=some a/\((w.alloc (.cells #[a,b] t)).alloc (.cells #[c,d] t)).drew.cell? ⟨w.heap.size,1,none⟩=some b/\
  ((w.alloc (.cells #[a,b] t)).alloc (.cells #[c,d] t)).drew.cell? ⟨w.heap.size+1,0,none⟩=some c/\((w.alloc (.cells #[a,b] t)).alloc (.cells #[c,d] t)).drew.cell? ⟨w.heap.size+1,1,none⟩=some d/\
  Ext w ((w.alloc (.cells #[a,b] t)).alloc (.cells #[c,d] t)).drew/\ ∃os,((w.alloc (.cells #[a,b] t)).alloc (.cells #[c,d] t)).drew=Sort.grow (w.drewN 1) os:=
 ⟨by go_simp,by go_simp,by go_simp,by go_simp,(((Ext.refl _).alloc _).alloc _).drew,_,RO w _ _⟩
theorem mq (k1 k2:Int) (A B:Option Addr) (c d:Nat) (x y:List Int) (w:World) (hx:RdI .i64 w A x) (hy:RdI .i64 w B y) (lx:x.length<=9223372036854775807) (ly:y.length<=9223372036854775807):
  Calls prog 132 #[.agg #[.int .i64 k1,.slice A x.length c],.agg #[.int .i64 k2,.slice B y.length d]] w fun e w'=>
   e= .returned (.int .i64 (NQ k1 x k2 y))/\ ∃q os,w'=Sort.grow (w.drewN q) os:=by
 have HX:=acg hx;have HY:=acg hy;clear hx hy
 go_enter func132,ntmps132
 go_wp2_with fail
 obtain⟨c1,c2,c3,c4,he,hg⟩:=Di w (.int .i64 k1) (.slice A x.length c) (.int .i64 k2) (.slice B y.length d) 177;have HE:=acg he;have HG:=acg hg;clear he hg;generalize(w.alloc (.cells #[.int .i64 k1,.slice A x.length c] 177)).alloc (.cells #[.int .i64 k2,.slice B y.length d] 177)=w2 at*
 refine du 10 (by kernel_rfl) (by kernel_rfl) ?_;simp only[adS,aeM,adK,adC];generalize w2.drew=w3 at*
 iterate 4 still_step
 still_call (xC _ _ _)
 iterate 4 still_step
 still_call (xM A B c d x y _ (HX.out.ext HE.out) (HY.out.ext HE.out) lx ly)
 refine wpStill_nil ?_;have hor:=NS (some ⟨w3.heap.size,0,none⟩) 2 [si k1 k2,dn x y] (w3.alloc (.cells #[.int .i64 (si k1 k2),.int .i64 (dn x y)] 3)) (fun _=>⟨w3.heap.size,0,rfl,fun i v hv=>by
  simp_all⟩) (by simp)
 rw[show[si k1 k2,dn x y].length=2 from rfl]at hor;have HOR:=acg hor;clear hor
 go_wp2_with fail
 refine HOR.out.mono ?_;rintro e w' ⟨rfl,rfl⟩
 go_wp2_with fail
 go_ret
 obtain⟨os,rfl⟩:=HG.out;exact⟨rfl,1,_,JN _ _ _⟩
theorem Tryz.inU32:(prog.info? 165).map (fun i=>(i.zero,i.size,i.bytes))=some (some (.int .u32 0),1,4):=by kernel_rfl
def sg (z:Int):Int:=if z<0 then -1 else if z=0 then 0 else 1
theorem Dj (u:Nat):natV [u%4294967296,u/4294967296]=u:=by grind [natV]
def iP (a b:Nat):Int:=if a<b then -1 else if a=b then 0 else 1
theorem Ag {k a:Nat} (h:b[k]?=some a):natV b=natV (b.take k)+4294967296^k*(a+4294967296*natV (b.drop (k+1))):=by
 grind [List.take_append_drop,kD,List.drop_eq_getElem_cons,natV]
theorem Sh (h:Lmb b) (k:Nat):Lmb (b.take k):=fun a c=>h a (aef c)
theorem oV {k a:Nat} (o:Lmb b) (e:b[k]?=some a) (h:c[k]?=some n) (j:b.drop (k+1)=c.drop (k+1)) (g:a<n):natV b<natV c:=by
 have q:=(aci.1 e).1;rw[Ag e,Ag h,j];have f:=fF (Sh o k);rw[acY,afd (by omega)]at f;have p:4294967296^k*(a+1+4294967296*natV (c.drop (k+1)))<=4294967296^k*(n+4294967296*natV (c.drop (k+1))):=acq _ (by omega);grind
theorem kG (e:Lmb b) (f:xO c) (h:b.length<c.length):natV b<natV c:=by
 have g:=fF e;have j:=DK f (by grind);have n:4294967296^b.length<=4294967296^(c.length-1):=acF (by omega) (by omega);omega
theorem qJ {a:Nat} (h:a<n):iP a n= -1:=by simp[iP,h]
theorem xV {a:Nat} (h:n<a):iP a n=1:=by grind [iP]
theorem Cu {k a:Nat} (e:b[k]?=some a) (f:c[k]?=some a) (g:b.drop (k+1)=c.drop (k+1)):b.drop k=c.drop k:=by
 grind [List.drop_eq_getElem_cons]
section
def gN (H:OH):AV->Prop
 | .sl a _ _ _=>H a≠[]
 | .ptr a _ _ _=>H a≠[]
 | .fn _ a b=>H a≠[]/\b≠[]
 |_=>True
def iA (H:OH):TV->Prop
 | .one x=>gN H x
 | .agg b=> ∀x∈b,gN H x
 | .fn _ b=> ∀x∈b,gN H x
 | .tup c=> ∀t∈c,∀x∈t.2,gN H x
def mZ (s:AS):Prop:=(∀(t:Nat) x,s.tmps[t]?=some x->iA s.H x)/\ ∀a,∀o∈s.H a,selfO a o
section
variable {P:Program} {s s':AS} {H:OH}
theorem fd {J w:World} {O X:Nat->Prop} {a:Act} (h:dq J O X s a w):mZ s:=by
 obtain⟨_,_,q,g,y⟩:=h;have B: ∀x v,AV.rel q s.H (Xo X q s.H) w x v->gN s.H x:=fun x v b=>by
  cases x with
  |p x=>trivial
  |sl a r G len=>obtain⟨o,m,_⟩:=b;intro A;grind
  |ptr a r i j=>obtain⟨o,_,_,m,_⟩:=b;intro A;grind
  |fn f a I=>obtain⟨vs,_,_,z,e⟩:=b;obtain⟨u,_,o,_,_,m,_⟩:=e 0 I[0] (acy z);exact⟨fun A=>by grind,aez z⟩
  |junk=>trivial
 have agg: ∀c v,bM q s.H (Xo X q s.H) w c v-> ∀x∈c,gN s.H x:=fun c v D x b=>by
  obtain⟨vs,_,_,e⟩:=D;obtain⟨k,l,rfl⟩:=adA b;obtain⟨u,_,_,C⟩:=e k _ (acy l);grind
 refine⟨fun t x b=>?_,fun a o E=>?_⟩
 ·obtain⟨v,_,n⟩:=y t x b;cases x with
  |one x=>exact B x v n
  |agg c=>exact agg c v n
  |fn f c=>obtain⟨u,m,K⟩:=n;exact agg c u m
  |tup L=>
   obtain⟨vs,_,_,e⟩:=n;intro t F x b;obtain⟨k,l,rfl⟩:=adA F;obtain⟨u,_,C⟩:=e k _ _ (acy l);grind
 obtain⟨k,l,rfl⟩:=adA E;exact g.self a k _ (acy l)
theorem gf (h:mZ s) {x:Operand} (c:s.ev x=some g):iA s.H g:=by
 cases x with
 |tmp k=>exact h.1 k g c
 |const v=>
  simp only[AS.ev]at c;injection c with c
  subst c;unfold qT;split
  ·split
   ·intro y e;simp only[acn]at e;obtain⟨u,_,rfl⟩:=e;trivial
   trivial
  split<;>trivial
 |global b=>simp only[AS.ev]at c;injection c with c;subst c;trivial
 |func f=>simp only[AS.ev]at c;injection c with c;subst c;trivial
theorem nF (h:mZ s) {d:Option Tmp} (e:iA s.H g):mZ (s.put d g):=by
 refine⟨fun k x b=>?_,by rw[gP];exact h.2⟩;rw[gP];cases d with
 |none=>exact h.1 k x b
 |some d=>
  simp only[AS.put]at b;by_cases c:d=k
  ·grind
  rw[ac4 c]at b;exact h.1 k x b
theorem N2 (h:mZ s) {op:Op} (e:jV P s.ev op=some g):iA s.H g:=by
 cases op<;>simp only[jV]at e<;>try cases e
 case call c=>
  unfold mmC at e;split at e
  ·obtain⟨k,m,a,b,_,rfl⟩:=nA e;trivial
  ·obtain⟨k,m,a,b,_,rfl⟩:=nA e;trivial
  cases e
 case move x=>exact gf h e
 case assign x=>exact gf h e
 case pick c a b=>
  grind [gf]
 case binOp op ty x y yt=>
  split at e
  ·unfold CR at e;split at e
   ·injection e with e;subst e;trivial
   ·injection e with e;subst e;trivial
   cases e
  split at e
  ·obtain⟨v,_,rfl⟩:=acf.1 e;trivial
  ·unfold Gt at e;split at e
   ·split at e
    ·injection e with e;subst e;trivial
    cases e
   ·split at e
    ·injection e with e;subst e;trivial
    cases e
   cases e
  cases e
 case unOp op ty x=>
  split at e
  ·obtain⟨v,_,rfl⟩:=acf.1 e;trivial
  cases e
 case convert a b x=>
  split at e
  ·injection e with e;subst e;trivial
  cases e
 case extract x k=>
  split at e
  ·rename_i o l;have j:=gf h l;split at e
   ·rename_i n f;injection e with e
    subst e;exact j _ (acd f)
   ·rename_i y f;injection e with e
    subst e;exact j _ (acd f) y (by simp)
   cases e
  cases e
theorem qV {t:TypeId} (b:pw P t h=some g) (c: ∀x∈h,gN H x):iA H g:=by
 unfold pw at b;split at b
 ·split at b
  ·injection b with b;subst b;exact fun x e=>c x (aef e)
  cases b
 ·split at b
  ·injection b with b;subst b;exact c _ (by simp)
  cases b
 cases b
theorem DM (b:cellsOf g=some h) (e:iA H g): ∀x∈h,gN H x:=by
 unfold cellsOf at b;split at b
 ·injection b with b;subst b;intro x c;simp at c;subst c;trivial
 ·injection b with b;subst b;intro x c;simp at c;subst c;exact e
 ·injection b with b;subst b;exact e
 cases b
theorem Cy (h:mZ s) {p:List (Nat×Nat)}: ∀(parts:List (Nat×Operand)) (g b:List AV),l4 p s.ev g parts=some b->(∀x∈g,gN s.H x)-> ∀x∈b,gN s.H x
 |[],g,b,c,j=>by grind [l4]
 |(f,x)::e,g,b,c,j=>by
  simp only[l4]at c;split at c
  ·rename_i o n v q l;obtain⟨t,r,m⟩:=acG.1 l;split at c
   ·refine Cy h e _ b c fun y u=>?_
    grind [DM,gf]
   cases c
  cases c
theorem Pf (c:mZ s) {a i:Nat} {o:OObj} (m:(s.H a)[n]?=some o) (l:o.elems[i]?=some h): ∀x∈h,gN s.H x:=fun x q=>by
 have f:=c.2 a o (acd m) h (acd l) x q;have g:s.H a≠[]:=by grind
 cases x with
 |sl b _ _ _=>have f:b=a:=f;subst f;exact g
 |ptr b _ _ _=>have f:b=a:=f;subst f;exact g
 |fn _ b _=>have j:b=a:=f.1;subst j;exact⟨g,f.2⟩
 |p x=>trivial
 |junk=>trivial
theorem N3 (h:mZ s) {op:Op} (l:bY P s.ev s.H op=some g):iA s.H g:=by
 cases op
 case load ty x=>
  simp only[bY]at l;split at l
  ·exact qV l (fun y o=>by simp only[acn]at o;obtain⟨z,_,rfl⟩:=o;trivial)
  ·grind [qV,Pf]
  cases l
 case indexAddr ty x ix=>
  simp only[bY]at l;split at l
  ·split at l
   ·cases l
   split at l
   ·split at l
    ·split at l
     ·injection l with l;subst l;trivial
     cases l
    cases l
   ·rename_i e a r C len F n;split at l
    ·split at l
     ·injection l with l;subst l;have q:=gf h n;exact q
     cases l
    cases l
   ·split at l
    ·split at l
     ·split at l
      ·injection l with l;subst l;trivial
      cases l
     cases l
    cases l
   ·rename_i n;split at l
    ·split at l
     ·split at l
      ·injection l with l;subst l;have q:=gf h n;exact q
      cases l
     cases l
    cases l
   ·split at l
    ·split at l
     ·split at l
      ·injection l with l;subst l;trivial
      cases l
     cases l
    cases l
   cases l
  cases l
 case index ty x ix=>
  simp only[bY]at l;split at l
  ·split at l
   ·cases l
   split at l
   ·rename_i n;split at l
    ·split at l
     ·exact qV l (fun y o=>gf h n y (aeH o))
     cases l
    cases l
   cases l
  cases l
 case fieldAddr ty x f=>
  simp only[bY]at l;split at l
  ·split at l
   ·injection l with l;subst l;trivial
   cases l
  ·rename_i n;split at l
   ·injection l with l;subst l;have q:=gf h n;exact q
   cases l
  cases l
 case field ty x f=>
  simp only[bY]at l;split at l
  ·rename_i n;exact qV l (fun y o=>gf h n y (aeH o))
  cases l
 case slice ty x lo hi mx=>
  cases mx with
  |some mx=>
   cases lo with
   |none=>grind [bY]
   |some lo=>
   cases hi with
   |none=>grind [bY]
   |some hi=>
   simp only[bY]at l;split at l
   ·rename_i n;split at l
    ·split at l
     ·injection l with l;subst l;have q:=gf h n;exact q
     cases l
    cases l
   cases l
  |none=>
   simp only[bY]at l;split at l
   ·split at l
    ·split at l
     ·injection l with l;subst l;trivial
     cases l
    cases l
   ·rename_i n;split at l
    ·split at l
     ·injection l with l;subst l;have q:=gf h n;exact q
     split at l
     ·injection l with l;subst l;trivial
     cases l
    cases l
   cases l
 case build ty parts=>
  simp only[bY]at l;split at l
  ·split at l
   ·obtain⟨v,p,rfl⟩:=acf.1 l;exact Cy h _ _ _ p (fun y o=>by simp only[acn]at o;obtain⟨z,_,rfl⟩:=o;trivial)
   cases l
  cases l
 case nilCheck x=>
  grind [bY,gf]
 case makeFunc fn first captured=>
  cases fn with
  |func f=>
   simp only[bY]at l;split at l
   ·obtain⟨v,p,rfl⟩:=acf.1 l;obtain⟨G,u,A⟩:=acG.1 p;intro x n;obtain⟨j,B,rfl⟩:=adA n;obtain⟨w,E⟩:=(r8 A).2 j _ (acy B);obtain⟨y,I,D⟩:=(bP u).2 j _ w;have q:=gf h D;exact q
   cases l
  |_=>grind [bY]
 case call c=>
  obtain⟨callee,args,argTypes⟩:=c;cases callee with
  |builtin b=>
   cases b
   case len=>
    simp only[bY]at l;split at l
    ·split at l
     ·injection l with l;subst l;trivial
     ·injection l with l;subst l;trivial
     ·injection l with l;subst l;trivial
     cases l
    cases l
   all_goals (simp only[bY]at l;cases l)
  |value f=>grind [bY]
  |invoke r m=>grind [bY]
 all_goals (simp only[bY]at l;cases l)
end
end
end Go.Proofs.YtalmoejhjceflaaGreat
