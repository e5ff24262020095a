/-
  Part 11 of a proof (walks and plain facts).
-/
import Derived.Test.YtalmoejhjceflaaGreatR09
import Derived.StillTailTactics
import Derived.Sort.Grow
import Derived.Deep.DeepFit
set_option linter.all false
set_option maxRecDepth 100000
set_option maxHeartbeats 64000000
namespace Go.Proofs.YtalmoejhjceflaaGreat
open Go.RowKit Go.Proofs.Tryz
variable {b c:List Nat} {e f:List Int} {x y:Int} {g:TV} {h:List AV} {n:Nat}
def natV:List Nat->Nat
 |[]=>0
 |a::l=>a+4294967296*natV l
def Lmb (l:List Nat):Prop:= ∀a∈l,a<4294967296
def uw (l:List Nat):Prop:=l.getLast?≠some 0
def dD:List Nat->List Nat
 |[]=>[]
 |a::l=>match dD l with
  |[]=>if a=0 then[]else[a]
  |b::m=>a::b::m
theorem i7 (x y:List Nat):natV (x++y)=natV x+4294967296^x.length*natV y:=by
 induction x with
 |nil=>simp[natV]
 |cons a l b=>simp[natV,b,abl,aez,ab8,adE,abB]
theorem gy (h:Lmb b):natV b<4294967296^b.length:=by
 induction b with
 |nil=>simp[natV]
 |cons a b f=>
  have g:=h a aa4;have:=f (fun c e=>h c (aa0 _ e));grind [natV]
theorem Lo (l:List Nat):natV (dD l)=natV l:=by
 induction l with
 |nil=>rfl
 |cons a l b=>
  grind [dD,natV]
theorem QC (l:List Nat):uw (dD l):=by
 induction l with
 |nil=>simp[uw,dD]
 |cons a l b=>
  grind [dD,uw]
theorem QD (l:List Nat):(dD l).length<=l.length:=by
 induction l with
 |nil=>simp[dD]
 |cons a l b=>
  grind [dD]
theorem vU {a:Nat} (h:uw (a::b)):uw b:=by
 grind [uw]
theorem uc (h:uw b):dD b=b:=by
 induction b with
 |nil=>rfl
 |cons a b c=>
  grind [dD,uw]
theorem n5 (l:List Nat):dD (l++[0])=dD l:=by
 induction l with
 |nil=>simp[dD]
 |cons a l b=>grind [dD]
theorem Ao {a:Nat} (h:a≠0):dD (b++[a])=b++[a]:=uc (by simp[uw,h])
theorem QE (h:Lmb b):Lmb (dD b):=by
 induction b with
 |nil=>exact h
 |cons a b g=>
  have g:=g (fun e f=>h e (aa0 _ f));unfold dD;split
  ·split
   ·grind
   intro e f;simp at f;subst f;exact h _ aa4
  rename_i e m n;rw[n]at g;intro c j;rcases aaR.1 j with rfl|j
  ·exact h _ aa4
  exact g c j
theorem AP (h:uw b) (e:b≠[]):4294967296^(b.length-1)<=natV b:=by
 induction b with
 |nil=>grind
 |cons a b f=>
  cases b with
  |nil=>grind [uw,natV]
  |cons c m=>
   grind [vU,natV]
theorem FX {k:Nat} (h:uw b) (e:natV b<4294967296^k):b.length<=k:=by
 by_cases c:b=[]
 ·grind
 have:=AP h c;have f:4294967296^(b.length-1)<4294967296^k:=abS this e;grind [Nat.pow_lt_pow_iff_right]
theorem Sg (o:Lmb b) (p:Lmb c) (j:uw b) (n:uw c) (h:natV b=natV c):b=c:=by
 induction b generalizing c with
 |nil=>
  cases c with
  |nil=>rfl
  |cons e c=>
   have:=AP n (by simp);grind [natV]
 |cons a b s=>
  cases c with
  |nil=>
   have:=AP j (by simp);grind [natV]
  |cons e c=>
   have t:=o a aa4;have u:=p e aa4;simp only[natV]at h;have q:a=e:=by omega
   have r:natV b=natV c:=by omega
   rw[q,s (fun f g=>o f (aa0 _ g)) (fun f g=>p f (aa0 _ g)) (vU j) (vU n) r]
def f4 (neg:Bool) (n:Nat):Int:=if neg then -(n:Int)else n
theorem K5 (a:Int) (w:World):
  Calls prog 224 #[.int .i64 a] w fun e w'=>e= .returned (.bool false)/\w=w':=by
 go_enter func224,ntmps224
 go_wp2
 go_ret
 simp
def px (a b:Int):Int:=if a<b then -1 else if b<a then 1 else 0
theorem nw (a b:Int) (w:World):
  Calls prog 192 #[.int .i64 a,.int .i64 b] w fun e w'=>e= .returned (.int .i64 (px a b))/\w=w':=by
 go_enter func192,ntmps192
 go_wp2_with (go_at_call 224;refine(K5 _ _).mono ?_;rintro e w' ⟨rfl,rfl⟩)
 all_goals
  go_ret
  exact⟨gB (by grind [px]),rfl⟩
def dj:List Int->List Int->Int
 |[],[]=>0
 |[],_::_=> -1
 |_::_,[]=>1
 |a::x,b::y=>if a<b then -1 else if b<a then 1 else dj x y
theorem y7 {k:Nat} {a:Int} (h:e[k]?=some a) (j:f[k]?=some x):
  dj (e.drop k) (f.drop k)=if a<x then -1 else if x<a then 1 else dj (e.drop (k+1)) (f.drop (k+1)):=by
 obtain⟨c,rfl⟩:=aao.1 h;obtain⟨g,rfl⟩:=aao.1 j;rw[abs c,abs g];rfl
theorem y8 {k:Nat} (b:k>=e.length) (c:k<f.length):dj (e.drop k) (f.drop k)= -1:=by
 rw[ab4 b,abs c];rfl
theorem vZ {k:Nat} (b:k<e.length) (c:k>=f.length):dj (e.drop k) (f.drop k)=1:=by
 rw[ab4 c,abs b];rfl
theorem y6 {k:Nat} (b:k>=e.length) (c:k>=f.length):dj (e.drop k) (f.drop k)=0:=by
 rw[ab4 b,ab4 c];rfl
theorem Sl {a:Int} (h:(px a x !=0)=true):px a x=if a<x then -1 else if x<a then 1 else y:=by
 grind [px]
theorem Sk {a:Int} (h:(px a x !=0)=false):(if a<x then -1 else if x<a then 1 else y)=y:=by
 grind [px]
theorem YX {a:Int} (h:(a !=x)=true) (c:a<x): -1=if a<x then -1 else if x<a then 1 else y:=by simp[c]
theorem YW {a:Int} (h:(a !=x)=true) (c: ¬a<x):1=if a<x then -1 else if x<a then 1 else y:=by
 grind
theorem rC (A B:Option Addr) (c d:Nat) (x y:List Int) (w:World) (hx:RdI .i64 w A x) (hy:RdI .i64 w B y) (lx:x.length<=9223372036854775807) (ly:y.length<=9223372036854775807):
  Calls prog 225 #[.slice A x.length c,.slice B y.length d] w fun e w'=>e= .returned (.int .i64 (dj x y))/\w=w':=by
 have HX:=aal hx;have HY:=aal hy;clear hx hy
 go_enter func225,ntmps225
 go_wp2_with fail
 go_loop [11,5,6,7,8] (fun i _ _ _ _=> ∃k:Nat,k<=x.length/\i= .int .i64 k/\Hid (dj (x.drop k) (y.drop k)=dj x y)) (fun i _ _ _ _=>x.length-(intOf i).toNat)
 case atStart=>grind [Lib.hid]
 case round=>
  obtain⟨k,hk,rfl,HR⟩:=hrel;by_cases hlt:k<x.length
  ·obtain⟨a,ha⟩:=getElem?_of_lt hlt;obtain⟨b,off,rfl,hc⟩:=HX.out.at_ ha;have HA:=aal ha;clear ha;by_cases hly:k<y.length
   ·obtain⟨a',ha'⟩:=getElem?_of_lt hly;obtain⟨b',off',rfl,hc'⟩:=HY.out.at_ ha';have HA':=aal ha';clear ha';have hD:=aal (y7 HA.out HA'.out)
    go_wp2_with (go_at_call 192;refine(nw _ _ _).mono ?_;rintro e w' ⟨rfl,rfl⟩)
    ·go_ret
     have hne:(px a a' !=0)=true:=by assumption
     exact⟨gB (by rw[<- HR.out,hD.out];exact Sl hne),rfl⟩
    go_round
    case rel=>
     have he:(px a a' !=0)=false:=by assumption
     exact⟨k+1,by omega,by go_num,aal (by rw[<- HR.out,hD.out];simp_all[Sk])⟩
    grind [intOf]
   go_wp2_with fail
   go_ret
   exact⟨gB (by rw[<- HR.out,vZ hlt (by omega)]),rfl⟩
  have hk':k=x.length:=by omega
  subst hk'
  go_wp2_with fail
  all_goals
   go_ret
   exact⟨gB (by rw[<- HR.out];grind [y8,y6]),rfl⟩
theorem nQ (A B:Option Addr) (c d:Nat) (x y:List Int) (w:World) (hx:RdI .i64 w A x) (hy:RdI .i64 w B y) (lx:x.length<=9223372036854775807) (ly:y.length<=9223372036854775807):
  Calls prog 21 #[.slice A x.length c,.slice B y.length d] w fun e w'=>e= .returned (.int .i64 (dj x y))/\ ∃n,w'=w.drewN n:=by
 have HX:=aal hx;have HY:=aal hy;clear hx hy
 go_enter func21,ntmps21
 go_wp2_with fail
 go_loopw [5] (fun i wr=> ∃k n:Nat,k<=x.length/\k<=y.length/\i= .int .i64 k/\wr=w.drewN n/\Hid (dj (x.drop k) (y.drop k)=dj x y)) (fun i _=>x.length-(intOf i).toNat)
 case atStart=>exact⟨0,0,aaW _,aaW _,rfl,rfl,aal rfl⟩
 case round=>
  obtain⟨k,n,hk,hky,rfl,rfl,HR⟩:=hrel;by_cases hlt:k<x.length
  ·obtain⟨a,ha⟩:=getElem?_of_lt hlt;obtain⟨b,off,rfl,hc⟩:=HX.out.at_ ha;have HA:=aal ha;clear ha;by_cases hly:k<y.length
   ·obtain⟨a',ha'⟩:=getElem?_of_lt hly;obtain⟨b',off',rfl,hc'⟩:=HY.out.at_ ha';have HA':=aal ha';clear ha';have hD:=aal (y7 HA.out HA'.out)
    go_wp2_with fail
    go_quiet (fail)
    go_wp2_with fail
    ·go_quiet (fail)
     have hne:(a !=a')=true:=by assumption
     go_wp2_with fail
     all_goals
      go_ret
      exact⟨gB (by rw[<- HR.out,hD.out];first|exact YX hne (by omega)|exact YW hne (by omega)),_,by rw[World.drewN_drewN,World.drewN_drewN]⟩
    have he:(a !=a')=false:=by assumption
    go_roundw
    case rel=>exact⟨k+1,_,by omega,by omega,by go_num,rfl,aal (by rw[<- HR.out,hD.out];grind)⟩
    grind [intOf]
   go_wp2_with fail
   all_goals
    go_ret
    exact⟨gB (by rw[<- HR.out,vZ hlt (by omega)]),_,rfl⟩
  by_cases hly:k<y.length
  ·go_wp2_with fail
   all_goals
    go_ret
    exact⟨gB (by rw[<- HR.out,y8 (by omega) (by omega)]),_,rfl⟩
  go_wp2_with fail
  all_goals
   go_ret
   exact⟨gB (by rw[<- HR.out,y6 (by omega) (by omega)]),_,rfl⟩
theorem ye (A B:Option Addr) (c d:Nat) (x y:List Int) (w:World) (hx:RdI .i64 w A x) (hy:RdI .i64 w B y) (lx:x.length<=9223372036854775807) (ly:y.length<=9223372036854775807):
  Calls prog 193 #[.slice A x.length c,.slice B y.length d] w fun e w'=>e= .returned (.int .i64 (dj x y))/\w=w':=by
 go_enter func193,ntmps193
 go_wp2_with (go_at_call 225;refine(rC A B c d x y _ hx hy lx ly).mono ?_;rintro e w' ⟨rfl,rfl⟩)
 go_ret
 simp
def Ve:List Int->Int
 |[]=>0
 |a::l=>if a !=0 then a else Ve l
theorem Pp {k:Nat} {a:Int} (h:e[k]?=some a):Ve (e.drop k)=if a !=0 then a else Ve (e.drop (k+1)):=by
 obtain⟨b,rfl⟩:=aao.1 h;rw[abs b];rfl
theorem KG (A:Option Addr) (c:Nat) (x:List Int) (w:World) (hx:RdI .i64 w A x) (lx:x.length<=9223372036854775807):
  Calls prog 191 #[.slice A x.length c] w fun e w'=>e= .returned (.int .i64 (Ve x))/\w=w':=by
 have HX:=aal hx;clear hx
 go_enter func191,ntmps191
 go_wp2_with fail
 go_loop [8,5] (fun i _=> ∃k:Nat,k<=x.length/\i= .int .i64 k/\Hid (Ve (x.drop k)=Ve x)) (fun i _=>x.length-(intOf i).toNat)
 case atStart=>grind [Lib.hid]
 case round=>
  obtain⟨k,hk,rfl,HR⟩:=hrel;by_cases hlt:k<x.length
  ·obtain⟨a,ha⟩:=getElem?_of_lt hlt;obtain⟨b,off,rfl,hc⟩:=HX.out.at_ ha;have HA:=aal (Pp ha);clear ha;by_cases h0:(a !=0)=true
   ·go_wp2_with fail
    go_ret
    exact⟨gB (by rw[<- HR.out,HA.out,if_pos h0]),rfl⟩
   have h0':(a !=0)=false:=by grind
   have H0:=aal h0';clear h0
   go_wp2_with fail
   go_round
   case rel=>exact⟨k+1,by omega,by go_num,aal (by rw[<- HR.out,HA.out,if_neg (by grind)])⟩
   grind [intOf]
  go_wp2_with fail
  go_ret
  exact⟨gB (by rw[<- HR.out,ab4 (by omega)];rfl),rfl⟩
theorem uh (a b:Int) (w:World):
  Calls prog 192 #[.int .i64 a,.int .i64 b] w fun e g=>e= .returned (.int .i64 (px a b))/\g=w:=
 (nw a b w).mono fun _ _ ⟨c,f⟩=>⟨c,f.symm⟩
theorem ur (A B:Option Addr) (c d:Nat) (x y:List Int) (w:World) (g:RdI .i64 w A x) (h:RdI .i64 w B y) (j:x.length<=9223372036854775807) (l:y.length<=9223372036854775807):
  Calls prog 193 #[.slice A x.length c,.slice B y.length d] w fun e m=>e= .returned (.int .i64 (dj x y))/\m=w:=
 (ye A B c d x y w g h j l).mono fun _ _ ⟨b,f⟩=>⟨b,f.symm⟩
def KE (b:Int) (x:List Int) (c:Int) (y:List Int):Int:=Ve [px b c,dj x y]
theorem cX {P:Program} {id:Nat} {Q:Exit->Act->World->Prop} {a:Act} {w:World} {l:List Oper} (n:Nat) (e:P.follows .mixedOrders=true) (c:Region.lexTailB .any l.toArray n=true)
  (h:wpStill P l.toArray w.drew (fun b=>wpList P l.toArray Q (l.drop n) b w.drew) (l.take n) a):(Code.region id l.toArray true).wp P Q a w:=wp_region_still_tail n e c h
theorem Gr (w:World) (b:Array Obj) (o:Obj):(Sort.grow w b).alloc o=Sort.grow w (b.push o):=by
 unfold Sort.grow World.alloc;simp
theorem Oi (w:World) (a b:Obj):((w.alloc a).alloc b).drew=Sort.grow (w.drewN 1) #[a,b]:=by
 rfl
theorem Ap (w:World) (a b c d:Value) (t:TypeId):
  ((w.alloc (.cells #[a,b] t)).alloc (.cells #[c,d] t)).drew.cell? ⟨w.heap.size,0,none⟩=some a/\((w.alloc (.cells #[a,b] t)).alloc (.cells #[c,d] t)).drew.cell? ⟨w.heap.size,1,none⟩=some b/\
  ((w.alloc (.cells #[a,b] t)).alloc (.cells #[c,d] t)).drew.cell? ⟨w.heap.size+1,0,none⟩=some c/\((w.alloc (.cells #[a,b] t)).alloc (.cells #[c,d] t)).drew.cell? ⟨w.heap.size+1,1,none⟩=some d/\
  Ext w ((w.alloc (.cells #[a,b] t)).alloc (.cells #[c,d] t)).drew/\ ∃os,((w.alloc (.cells #[a,b] t)).alloc (.cells #[c,d] t)).drew=Sort.grow (w.drewN 1) os:=
 ⟨by go_simp,by go_simp,by go_simp,by go_simp,(((Ext.refl _).alloc _).alloc _).drew,_,Oi w _ _⟩
theorem kD (k1 k2:Int) (A B:Option Addr) (c d:Nat) (x y:List Int) (w:World) (hx:RdI .i64 w A x) (hy:RdI .i64 w B y) (lx:x.length<=9223372036854775807) (ly:y.length<=9223372036854775807):
  Calls prog 132 #[.agg #[.int .i64 k1,.slice A x.length c],.agg #[.int .i64 k2,.slice B y.length d]] w fun e w'=>
   e= .returned (.int .i64 (KE k1 x k2 y))/\ ∃q os,w'=Sort.grow (w.drewN q) os:=by
 have HX:=aal hx;have HY:=aal hy;clear hx hy
 go_enter func132,ntmps132
 go_wp2_with fail
 obtain⟨c1,c2,c3,c4,he,hg⟩:=Ap w (.int .i64 k1) (.slice A x.length c) (.int .i64 k2) (.slice B y.length d) 177;have HE:=aal he;have HG:=aal hg;clear he hg;generalize(w.alloc (.cells #[.int .i64 k1,.slice A x.length c] 177)).alloc (.cells #[.int .i64 k2,.slice B y.length d] 177)=w2 at*
 refine cX 10 (by kernel_rfl) (by kernel_rfl) ?_;simp only[abF,acy,abM,abL];generalize w2.drew=w3 at*
 iterate 4 still_step
 still_call (uh _ _ _)
 iterate 4 still_step
 still_call (ur A B c d x y _ (HX.out.ext HE.out) (HY.out.ext HE.out) lx ly)
 refine wpStill_nil ?_;have hor:=KG (some ⟨w3.heap.size,0,none⟩) 2 [px k1 k2,dj x y] (w3.alloc (.cells #[.int .i64 (px k1 k2),.int .i64 (dj x y)] 3)) (fun _=>⟨w3.heap.size,0,rfl,fun i v hv=>by
  simp_all⟩) (by simp)
 rw[show[px k1 k2,dj x y].length=2 from rfl]at hor;have HOR:=aal hor;clear hor
 go_wp2_with fail
 refine HOR.out.mono ?_;rintro e w' ⟨rfl,rfl⟩
 go_wp2_with fail
 go_ret
 obtain⟨os,rfl⟩:=HG.out;exact⟨rfl,1,_,Gr _ _ _⟩
theorem Tryz.inU32:(prog.info? 165).map (fun i=>(i.zero,i.size,i.bytes))=some (some (.int .u32 0),1,4):=by kernel_rfl
def sg (z:Int):Int:=if z<0 then -1 else if z=0 then 0 else 1
theorem Aq (u:Nat):natV [u%4294967296,u/4294967296]=u:=by grind [natV]
def gD (a b:Nat):Int:=if a<b then -1 else if a=b then 0 else 1
theorem wQ {k a:Nat} (h:b[k]?=some a):natV b=natV (b.take k)+4294967296^k*(a+4294967296*natV (b.drop (k+1))):=by
 grind [List.take_append_drop,i7,List.drop_eq_getElem_cons,natV]
theorem OL (h:Lmb b) (k:Nat):Lmb (b.take k):=fun a c=>h a (abJ c)
theorem mD {k a:Nat} (o:Lmb b) (e:b[k]?=some a) (h:c[k]?=some n) (j:b.drop (k+1)=c.drop (k+1)) (g:a<n):natV b<natV c:=by
 have q:=(aao.1 e).1;rw[wQ e,wQ h,j];have f:=gy (OL o k);rw[acN,acW (by omega)]at f;have p:4294967296^k*(a+1+4294967296*natV (c.drop (k+1)))<=4294967296^k*(n+4294967296*natV (c.drop (k+1))):=aas _ (by omega);grind
theorem ja (e:Lmb b) (f:uw c) (h:b.length<c.length):natV b<natV c:=by
 have g:=gy e;have j:=AP f (by grind);have n:4294967296^b.length<=4294967296^(c.length-1):=aaJ (by omega) (by omega);omega
theorem ot {a:Nat} (h:a<n):gD a n= -1:=by simp[gD,h]
theorem uA {a:Nat} (h:n<a):gD a n=1:=by grind [gD]
theorem zh {k a:Nat} (e:b[k]?=some a) (f:c[k]?=some a) (g:b.drop (k+1)=c.drop (k+1)):b.drop k=c.drop k:=by
 grind [List.drop_eq_getElem_cons]
section
def fj (H:OH):AV->Prop
 | .sl a _ _ _=>H a≠[]
 | .ptr a _ _ _=>H a≠[]
 | .fn _ a b=>H a≠[]/\b≠[]
 |_=>True
def fX (H:OH):TV->Prop
 | .one x=>fj H x
 | .agg b=> ∀x∈b,fj H x
 | .fn _ b=> ∀x∈b,fj H x
 | .tup c=> ∀t∈c,∀x∈t.2,fj H x
def kV (s:AS):Prop:=(∀(t:Nat) x,s.tmps[t]?=some x->fX s.H x)/\ ∀a,∀o∈s.H a,selfO a o
section
variable {P:Program} {s s':AS} {H:OH}
theorem eP {J w:World} {O X:Nat->Prop} {a:Act} (h:dx J O X s a w):kV s:=by
 obtain⟨_,_,q,g,y⟩:=h;have B: ∀x v,AV.rel q s.H (Xo X q s.H) w x v->fj s.H x:=fun x v b=>by
  cases x with
  |p x=>trivial
  |sl a r G len=>obtain⟨o,m,_⟩:=b;intro A;grind
  |ptr a r i j=>obtain⟨o,_,_,m,_⟩:=b;intro A;grind
  |fn f a I=>obtain⟨vs,_,_,z,e⟩:=b;obtain⟨u,_,o,_,_,m,_⟩:=e 0 I[0] (aay z);exact⟨fun A=>by grind,acl z⟩
  |junk=>trivial
 have agg: ∀c v,bH q s.H (Xo X q s.H) w c v-> ∀x∈c,fj s.H x:=fun c v D x b=>by
  obtain⟨vs,_,_,e⟩:=D;obtain⟨k,l,rfl⟩:=abo b;obtain⟨u,_,_,C⟩:=e k _ (aay l);grind
 refine⟨fun t x b=>?_,fun a o E=>?_⟩
 ·obtain⟨v,_,n⟩:=y t x b;cases x with
  |one x=>exact B x v n
  |agg c=>exact agg c v n
  |fn f c=>obtain⟨u,m,K⟩:=n;exact agg c u m
  |tup L=>
   obtain⟨vs,_,_,e⟩:=n;intro t F x b;obtain⟨k,l,rfl⟩:=abo F;obtain⟨u,_,C⟩:=e k _ _ (aay l);grind
 obtain⟨k,l,rfl⟩:=abo E;exact g.self a k _ (aay l)
theorem eR (h:kV s) {x:Operand} (c:s.ev x=some g):fX s.H g:=by
 cases x with
 |tmp k=>exact h.1 k g c
 |const v=>
  simp only[AS.ev]at c;injection c with c
  subst c;unfold kM;split
  ·split
   ·intro y e;simp only[aau]at e;obtain⟨u,_,rfl⟩:=e;trivial
   trivial
  split<;>trivial
 |global b=>simp only[AS.ev]at c;injection c with c;subst c;trivial
 |func f=>simp only[AS.ev]at c;injection c with c;subst c;trivial
theorem lT (h:kV s) {d:Option Tmp} (e:fX s.H g):kV (s.put d g):=by
 refine⟨fun k x b=>?_,by rw[fE];exact h.2⟩;rw[fE];cases d with
 |none=>exact h.1 k x b
 |some d=>
  simp only[AS.put]at b;by_cases c:d=k
  ·grind
  rw[abq c]at b;exact h.1 k x b
theorem KS (h:kV s) {op:Op} (e:jE P s.ev op=some g):fX s.H g:=by
 cases op<;>simp only[jE]at e<;>try cases e
 case call c=>
  unfold YV at e;split at e
  ·obtain⟨k,m,a,b,_,rfl⟩:=lQ e;trivial
  ·obtain⟨k,m,a,b,_,rfl⟩:=lQ e;trivial
  cases e
 case move x=>exact eR h e
 case assign x=>exact eR h e
 case pick c a b=>
  grind [eR]
 case binOp op ty x y yt=>
  split at e
  ·unfold zI at e;split at e
   ·injection e with e;subst e;trivial
   ·injection e with e;subst e;trivial
   cases e
  split at e
  ·obtain⟨v,_,rfl⟩:=aak.1 e;trivial
  ·unfold Ds at e;split at e
   ·split at e
    ·injection e with e;subst e;trivial
    cases e
   ·split at e
    ·injection e with e;subst e;trivial
    cases e
   cases e
  cases e
 case unOp op ty x=>
  split at e
  ·obtain⟨v,_,rfl⟩:=aak.1 e;trivial
  cases e
 case convert a b x=>
  split at e
  ·injection e with e;subst e;trivial
  cases e
 case extract x k=>
  split at e
  ·rename_i o l;have j:=eR h l;split at e
   ·rename_i n f;injection e with e
    subst e;exact j _ (aai f)
   ·rename_i y f;injection e with e
    subst e;exact j _ (aai f) y (by simp)
   cases e
  cases e
theorem oG {t:TypeId} (b:kO P t h=some g) (c: ∀x∈h,fj H x):fX H g:=by
 unfold kO at b;split at b
 ·split at b
  ·injection b with b;subst b;exact fun x e=>c x (abJ e)
  cases b
 ·split at b
  ·injection b with b;subst b;exact c _ (by simp)
  cases b
 cases b
theorem AR (b:cellsOf g=some h) (e:fX H g): ∀x∈h,fj H x:=by
 unfold cellsOf at b;split at b
 ·injection b with b;subst b;intro x c;simp at c;subst c;trivial
 ·injection b with b;subst b;intro x c;simp at c;subst c;exact e
 ·injection b with b;subst b;exact e
 cases b
theorem zl (h:kV s) {p:List (Nat×Nat)}: ∀(parts:List (Nat×Operand)) (g b:List AV),j6 p s.ev g parts=some b->(∀x∈g,fj s.H x)-> ∀x∈b,fj s.H x
 |[],g,b,c,j=>by grind [j6]
 |(f,x)::e,g,b,c,j=>by
  simp only[j6]at c;split at c
  ·rename_i o n v q l;obtain⟨t,r,m⟩:=aaG.1 l;split at c
   ·refine zl h e _ b c fun y u=>?_
    grind [AR,eR]
   cases c
  cases c
theorem LW (c:kV s) {a i:Nat} {o:OObj} (m:(s.H a)[n]?=some o) (l:o.elems[i]?=some h): ∀x∈h,fj s.H x:=fun x q=>by
 have f:=c.2 a o (aai m) h (aai l) x q;have g:s.H a≠[]:=by grind
 cases x with
 |sl b _ _ _=>have f:b=a:=f;subst f;exact g
 |ptr b _ _ _=>have f:b=a:=f;subst f;exact g
 |fn _ b _=>have j:b=a:=f.1;subst j;exact⟨g,f.2⟩
 |p x=>trivial
 |junk=>trivial
theorem KT (h:kV s) {op:Op} (l:bT P s.ev s.H op=some g):fX s.H g:=by
 cases op
 case load ty x=>
  simp only[bT]at l;split at l
  ·exact oG l (fun y o=>by simp only[aau]at o;obtain⟨z,_,rfl⟩:=o;trivial)
  ·grind [oG,LW]
  cases l
 case indexAddr ty x ix=>
  simp only[bT]at l;split at l
  ·split at l
   ·cases l
   split at l
   ·split at l
    ·split at l
     ·injection l with l;subst l;trivial
     cases l
    cases l
   ·rename_i e a r C len F n;split at l
    ·split at l
     ·injection l with l;subst l;have q:=eR h n;exact q
     cases l
    cases l
   ·split at l
    ·split at l
     ·split at l
      ·injection l with l;subst l;trivial
      cases l
     cases l
    cases l
   ·rename_i n;split at l
    ·split at l
     ·split at l
      ·injection l with l;subst l;have q:=eR h n;exact q
      cases l
     cases l
    cases l
   ·split at l
    ·split at l
     ·split at l
      ·injection l with l;subst l;trivial
      cases l
     cases l
    cases l
   cases l
  cases l
 case index ty x ix=>
  simp only[bT]at l;split at l
  ·split at l
   ·cases l
   split at l
   ·rename_i n;split at l
    ·split at l
     ·exact oG l (fun y o=>eR h n y (abX o))
     cases l
    cases l
   cases l
  cases l
 case fieldAddr ty x f=>
  simp only[bT]at l;split at l
  ·split at l
   ·injection l with l;subst l;trivial
   cases l
  ·rename_i n;split at l
   ·injection l with l;subst l;have q:=eR h n;exact q
   cases l
  cases l
 case field ty x f=>
  simp only[bT]at l;split at l
  ·rename_i n;exact oG l (fun y o=>eR h n y (abX o))
  cases l
 case slice ty x lo hi mx=>
  cases mx with
  |some mx=>
   cases lo with
   |none=>grind [bT]
   |some lo=>
   cases hi with
   |none=>grind [bT]
   |some hi=>
   simp only[bT]at l;split at l
   ·rename_i n;split at l
    ·split at l
     ·injection l with l;subst l;have q:=eR h n;exact q
     cases l
    cases l
   cases l
  |none=>
   simp only[bT]at l;split at l
   ·split at l
    ·split at l
     ·injection l with l;subst l;trivial
     cases l
    cases l
   ·rename_i n;split at l
    ·split at l
     ·injection l with l;subst l;have q:=eR h n;exact q
     split at l
     ·injection l with l;subst l;trivial
     cases l
    cases l
   cases l
 case build ty parts=>
  simp only[bT]at l;split at l
  ·split at l
   ·obtain⟨v,p,rfl⟩:=aak.1 l;exact zl h _ _ _ p (fun y o=>by simp only[aau]at o;obtain⟨z,_,rfl⟩:=o;trivial)
   cases l
  cases l
 case nilCheck x=>
  grind [bT,eR]
 case makeFunc fn first captured=>
  cases fn with
  |func f=>
   simp only[bT]at l;split at l
   ·obtain⟨v,p,rfl⟩:=aak.1 l;obtain⟨G,u,A⟩:=aaG.1 p;intro x n;obtain⟨j,B,rfl⟩:=abo n;obtain⟨w,E⟩:=(pq A).2 j _ (aay B);obtain⟨y,I,D⟩:=(bV u).2 j _ w;have q:=eR h D;exact q
   cases l
  |_=>grind [bT]
 case call c=>
  obtain⟨callee,args,argTypes⟩:=c;cases callee with
  |builtin b=>
   cases b
   case len=>
    simp only[bT]at l;split at l
    ·split at l
     ·injection l with l;subst l;trivial
     ·injection l with l;subst l;trivial
     ·injection l with l;subst l;trivial
     cases l
    cases l
   all_goals (simp only[bT]at l;cases l)
  |value f=>grind [bT]
  |invoke r m=>grind [bT]
 all_goals (simp only[bT]at l;cases l)
end
end
end Go.Proofs.YtalmoejhjceflaaGreat
