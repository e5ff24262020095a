/-
  Part 7 of a proof (walks and plain facts).
-/
import Derived.Test.YtalmoejhjceflaaGreatV05
import Derived.StillTailTactics
import Derived.Sort.Grow
import Derived.Deep.DeepFit
set_option linter.all false
set_option maxRecDepth 100000
set_option maxHeartbeats 64000000
namespace Go.Proofs.YtalmoejhjceflaaGreat
open Go.RowKit Go.Proofs.Tryz
variable {b:Operand->Option TV} {c:List Nat} {e:Oper} {f:TV} {n:Nat} {g:List AV}
def orL:List Int->Int
 |[]=>0
 |a::l=>if a !=0 then a else orL l
theorem VU {x:List Int} {k:Nat} {a:Int} (h:x[k]?=some a):orL (x.drop k)=if a !=0 then a else orL (x.drop (k+1)):=by
 obtain⟨b,rfl⟩:=aeI.1 h;rw[agq b];rfl
theorem QF (A:Option Addr) (c:Nat) (x:List Int) (w:World) (hx:RdI .i64 w A x) (lx:x.length<=9223372036854775807):
  Calls prog 191 #[.slice A x.length c] w fun e w'=>e= .returned (.int .i64 (orL x))/\w=w':=by
 have HX:=aeV hx;clear hx
 go_enter func191,ntmps191
 go_wp2_with fail
 go_loop [8,5] (fun i _=> ∃k:Nat,k<=x.length/\i= .int .i64 k/\Hid (orL (x.drop k)=orL x)) (fun i _=>x.length-(intOf i).toNat)
 case atStart=>grind [Lib.hid]
 case round=>
  obtain⟨k,hk,rfl,HR⟩:=hrel;by_cases hlt:k<x.length
  ·obtain⟨a,ha⟩:=getElem?_of_lt hlt;obtain⟨b,off,rfl,hc⟩:=HX.out.at_ ha;have HA:=aeV (VU ha);clear ha;by_cases h0:(a !=0)=true
   ·go_wp2_with fail
    go_ret
    exact⟨lh (by rw[<- HR.out,HA.out,if_pos h0]),rfl⟩
   have h0':(a !=0)=false:=by grind
   have H0:=aeV h0';clear h0
   go_wp2_with fail
   go_round
   case rel=>exact⟨k+1,by omega,by go_num,aeV (by rw[<- HR.out,HA.out,if_neg (by grind)])⟩
   grind [intOf]
  go_wp2_with fail
  go_ret
  exact⟨lh (by rw[<- HR.out,agI (by omega)];rfl),rfl⟩
theorem yP (a b:Int) (w:World):
  Calls prog 192 #[.int .i64 a,.int .i64 b] w fun e g=>e= .returned (.int .i64 (tN a b))/\g=w:=
 (qR a b w).mono fun _ _ ⟨c,f⟩=>⟨c,f.symm⟩
theorem yX (A B:Option Addr) (c d:Nat) (x y:List Int) (w:World) (g:RdI .i64 w A x) (h:RdI .i64 w B y) (j:x.length<=9223372036854775807) (l:y.length<=9223372036854775807):
  Calls prog 193 #[.slice A x.length c,.slice B y.length d] w fun e m=>e= .returned (.int .i64 (dZ x y))/\m=w:=
 (CL A B c d x y w g h j l).mono fun _ _ ⟨b,f⟩=>⟨b,f.symm⟩
def QD (b:Int) (x:List Int) (c:Int) (y:List Int):Int:=orL [tN b c,dZ x y]
theorem ee {P:Program} {id:Nat} {Q:Exit->Act->World->Prop} {a:Act} {w:World} {l:List Oper} (n:Nat) (e:P.follows .mixedOrders=true) (c:Region.lexTailB .any l.toArray n=true)
  (h:wpStill P l.toArray w.drew (fun b=>wpList P l.toArray Q (l.drop n) b w.drew) (l.take n) a):(Code.region id l.toArray true).wp P Q a w:=wp_region_still_tail n e c h
theorem Lt (w:World) (b:Array Obj) (o:Obj):(Sort.grow w b).alloc o=Sort.grow w (b.push o):=by
 unfold Sort.grow World.alloc;simp
theorem US (w:World) (a b:Obj):((w.alloc a).alloc b).drew=Sort.grow (w.drewN 1) #[a,b]:=by
 rfl
theorem En (w:World) (a b c d:Value) (t:TypeId):
  ((w.alloc (.cells #[a,b] t)).alloc (.cells #[c,d] t)).drew.cell? ⟨w.heap.size,0,none⟩=some a/\((w.alloc (.cells #[a,b] t)).alloc (.cells #[c,d] t)).drew.cell? ⟨w.heap.size,1,none⟩=some b/\
  ((w.alloc (.cells #[a,b] t)).alloc (.cells #[c,d] t)).drew.cell? ⟨w.heap.size+1,0,none⟩=some c/\((w.alloc (.cells #[a,b] t)).alloc (.cells #[c,d] t)).drew.cell? ⟨w.heap.size+1,1,none⟩=some d/\
  fm w ((w.alloc (.cells #[a,b] t)).alloc (.cells #[c,d] t)).drew/\ ∃os,((w.alloc (.cells #[a,b] t)).alloc (.cells #[c,d] t)).drew=Sort.grow (w.drewN 1) os:=
 ⟨by go_simp,by go_simp,by go_simp,by go_simp,(((fm.refl _).alloc _).alloc _).drew,_,US w _ _⟩
theorem nA (k1 k2:Int) (A B:Option Addr) (c d:Nat) (x y:List Int) (w:World) (hx:RdI .i64 w A x) (hy:RdI .i64 w B y) (lx:x.length<=9223372036854775807) (ly:y.length<=9223372036854775807):
  Calls prog 132 #[.agg #[.int .i64 k1,.slice A x.length c],.agg #[.int .i64 k2,.slice B y.length d]] w fun e w'=>
   e= .returned (.int .i64 (QD k1 x k2 y))/\ ∃q os,w'=Sort.grow (w.drewN q) os:=by
 have HX:=aeV hx;have HY:=aeV hy;clear hx hy
 go_enter func132,ntmps132
 go_wp2_with fail
 obtain⟨c1,c2,c3,c4,he,hg⟩:=En w (.int .i64 k1) (.slice A x.length c) (.int .i64 k2) (.slice B y.length d) 177;have HE:=aeV he;have HG:=aeV hg;clear he hg;generalize(w.alloc (.cells #[.int .i64 k1,.slice A x.length c] 177)).alloc (.cells #[.int .i64 k2,.slice B y.length d] 177)=w2 at*
 refine ee 10 (by kernel_rfl) (by kernel_rfl) ?_;simp only[af6,agX,agp,agx];generalize w2.drew=w3 at*
 iterate 4 still_step
 still_call (yP _ _ _)
 iterate 4 still_step
 still_call (yX A B c d x y _ (HX.out.ext HE.out) (HY.out.ext HE.out) lx ly)
 refine wpStill_nil ?_;have hor:=QF (some ⟨w3.heap.size,0,none⟩) 2 [tN k1 k2,dZ x y] (w3.alloc (.cells #[.int .i64 (tN k1 k2),.int .i64 (dZ x y)] 3)) (fun _=>⟨w3.heap.size,0,rfl,fun i v hv=>by
  simp_all⟩) (by simp)
 rw[show[tN k1 k2,dZ x y].length=2 from rfl]at hor;have HOR:=aeV hor;clear hor
 go_wp2_with fail
 refine HOR.out.mono ?_;rintro e w' ⟨rfl,rfl⟩
 go_wp2_with fail
 go_ret
 obtain⟨os,rfl⟩:=HG.out;exact⟨rfl,1,_,Lt _ _ _⟩
theorem Tryz.inU32:(prog.info? 165).map (fun i=>(i.zero,i.size,i.bytes))=some (some (.int .u32 0),1,4):=by kernel_rfl
def sg (z:Int):Int:=if z<0 then -1 else if z=0 then 0 else 1
theorem Eo (u:Nat):natV [u%4294967296,u/4294967296]=u:=by grind [natV]
def jB (a b:Nat):Int:=if a<b then -1 else if a=b then 0 else 1
theorem Bo {k a:Nat} (h:c[k]?=some a):natV c=natV (c.take k)+4294967296^k*(a+4294967296*natV (c.drop (k+1))):=by
 grind [List.take_append_drop,yx,List.drop_eq_getElem_cons,natV]
theorem Vf (h:Lmb c) (k:Nat):Lmb (c.take k):=fun a b=>h a (agf b)
theorem pX {m:List Nat} {k a:Nat} (o:Lmb c) (e:c[k]?=some a) (h:m[k]?=some n) (j:c.drop (k+1)=m.drop (k+1)) (g:a<n):natV c<natV m:=by
 have q:=(aeI.1 e).1;rw[Bo e,Bo h,j];have f:=j9 (Vf o k);rw[age,ahI (by omega)]at f;have p:4294967296^k*(a+1+4294967296*natV (m.drop (k+1)))<=4294967296^k*(n+4294967296*natV (m.drop (k+1))):=ae7 _ (by omega);grind
theorem lL {m:List Nat} (b:Lmb c) (e:zJ m) (h:c.length<m.length):natV c<natV m:=by
 have f:=j9 b;have g:=ER e (by grind);have j:4294967296^c.length<=4294967296^(m.length-1):=ae5 (by omega) (by omega);omega
theorem rX {a:Nat} (h:a<n):jB a n= -1:=by simp[jB,h]
theorem zh {a:Nat} (h:n<a):jB a n=1:=by grind [jB]
theorem Dv {m:List Nat} {k a:Nat} (b:c[k]?=some a) (e:m[k]?=some a) (f:c.drop (k+1)=m.drop (k+1)):c.drop k=m.drop k:=by
 grind [List.drop_eq_getElem_cons]
section
def il (H:OH):AV->Prop
 | .sl a _ _ _=>H a≠[]
 | .ptr a _ _ _=>H a≠[]
 | .fn _ a b=>H a≠[]/\b≠[]
 |_=>True
def ji (H:OH):TV->Prop
 | .one x=>il H x
 | .agg b=> ∀x∈b,il H x
 | .fn _ b=> ∀x∈b,il H x
 | .tup c=> ∀t∈c,∀x∈t.2,il H x
def nl (s:AS):Prop:=(∀(t:Nat) x,s.tmps[t]?=some x->ji s.H x)/\ ∀a,∀o∈s.H a,selfO a o
section
variable {P:Program} {s s':AS} {H:OH}
theorem gL {J w:World} {O X:Nat->Prop} {a:Act} (h:dP J O X s a w):nl s:=by
 obtain⟨_,_,q,g,y⟩:=h;have B: ∀x v,AV.rel q s.H (Xo X q s.H) w x v->il s.H x:=fun x v b=>by
  cases x with
  |p x=>trivial
  |sl a r G len=>obtain⟨o,m,_⟩:=b;intro A;grind
  |ptr a r i j=>obtain⟨o,_,_,m,_⟩:=b;intro A;grind
  |fn f a I=>obtain⟨vs,_,_,z,e⟩:=b;obtain⟨u,_,o,_,_,m,_⟩:=e 0 I[0] (aeR z);exact⟨fun A=>by grind,agO z⟩
  |junk=>trivial
 have agg: ∀c v,dK q s.H (Xo X q s.H) w c v-> ∀x∈c,il s.H x:=fun c v D x b=>by
  obtain⟨vs,_,_,e⟩:=D;obtain⟨k,l,rfl⟩:=afW b;obtain⟨u,_,_,C⟩:=e k _ (aeR l);grind
 refine⟨fun t x b=>?_,fun a o E=>?_⟩
 ·obtain⟨v,_,n⟩:=y t x b;cases x with
  |one x=>exact B x v n
  |agg c=>exact agg c v n
  |fn f c=>obtain⟨u,m,K⟩:=n;exact agg c u m
  |tup L=>
   obtain⟨vs,_,_,e⟩:=n;intro t F x b;obtain⟨k,l,rfl⟩:=afW F;obtain⟨u,_,C⟩:=e k _ _ (aeR l);grind
 obtain⟨k,l,rfl⟩:=afW E;exact g.self a k _ (aeR l)
theorem gQ (h:nl s) {x:Operand} (c:s.ev x=some f):ji s.H f:=by
 cases x with
 |tmp k=>exact h.1 k f c
 |const v=>
  simp only[AS.ev]at c;injection c with c
  subst c;unfold nI;split
  ·split
   ·intro y e;simp only[aeL]at e;obtain⟨u,_,rfl⟩:=e;trivial
   trivial
  split<;>trivial
 |global g=>simp only[AS.ev]at c;injection c with c;subst c;trivial
 |func b=>simp only[AS.ev]at c;injection c with c;subst c;trivial
theorem oT (h:nl s) {d:Option Tmp} (e:ji s.H f):nl (s.put d f):=by
 refine⟨fun k x b=>?_,by rw[js];exact h.2⟩;rw[js];cases d with
 |none=>exact h.1 k x b
 |some d=>
  simp only[AS.put]at b;by_cases c:d=k
  ·grind
  rw[afB c]at b;exact h.1 k x b
theorem QN (h:nl s) {op:Op} (e:kH P s.ev op=some f):ji s.H f:=by
 cases op<;>simp only[kH]at e<;>try cases e
 case call c=>
  unfold mmC at e;split at e
  ·obtain⟨k,m,a,b,_,rfl⟩:=oP e;trivial
  ·obtain⟨k,m,a,b,_,rfl⟩:=oP e;trivial
  cases e
 case move x=>exact gQ h e
 case assign x=>exact gQ h e
 case pick c a b=>
  grind [gQ]
 case binOp op ty x y yt=>
  split at e
  ·unfold DS at e;split at e
   ·injection e with e;subst e;trivial
   ·injection e with e;subst e;trivial
   cases e
  split at e
  ·obtain⟨v,_,rfl⟩:=adT.1 e;trivial
  ·unfold Iv at e;split at e
   ·split at e
    ·injection e with e;subst e;trivial
    cases e
   ·split at e
    ·injection e with e;subst e;trivial
    cases e
   cases e
  cases e
 case unOp op ty x=>
  split at e
  ·obtain⟨v,_,rfl⟩:=adT.1 e;trivial
  cases e
 case convert a b x=>
  split at e
  ·injection e with e;subst e;trivial
  cases e
 case extract x k=>
  split at e
  ·rename_i o l;have j:=gQ h l;split at e
   ·rename_i n g;injection e with e
    subst e;exact j _ (adQ g)
   ·rename_i y g;injection e with e
    subst e;exact j _ (adQ g) y (by simp)
   cases e
  cases e
theorem sH {t:TypeId} (h:nJ P t g=some f) (b: ∀x∈g,il H x):ji H f:=by
 unfold nJ at h;split at h
 ·split at h
  ·injection h with h;subst h;exact fun x c=>b x (agf c)
  cases h
 ·split at h
  ·injection h with h;subst h;exact b _ (by simp)
  cases h
 cases h
theorem ET (h:cellsOf f=some g) (c:ji H f): ∀x∈g,il H x:=by
 unfold cellsOf at h;split at h
 ·injection h with h;subst h;intro x b;simp at b;subst b;trivial
 ·injection h with h;subst h;intro x b;simp at b;subst b;exact c
 ·injection h with h;subst h;exact c
 cases h
theorem Dz (h:nl s) {p:List (Nat×Nat)}: ∀(parts:List (Nat×Operand)) (g b:List AV),mR p s.ev g parts=some b->(∀x∈g,il s.H x)-> ∀x∈b,il s.H x
 |[],g,b,c,j=>by grind [mR]
 |(f,x)::e,g,b,c,j=>by
  simp only[mR]at c;split at c
  ·rename_i o n v q l;obtain⟨t,r,m⟩:=aeZ.1 l;split at c
   ·refine Dz h e _ b c fun y u=>?_
    grind [ET,gQ]
   cases c
  cases c
theorem RW (h:nl s) {a i:Nat} {o:OObj} (m:(s.H a)[n]?=some o) (l:o.elems[i]?=some g): ∀x∈g,il s.H x:=fun x q=>by
 have c:=h.2 a o (adQ m) g (adQ l) x q;have f:s.H a≠[]:=by grind
 cases x with
 |sl b _ _ _=>have c:b=a:=c;subst c;exact f
 |ptr b _ _ _=>have c:b=a:=c;subst c;exact f
 |fn _ b _=>have j:b=a:=c.1;subst j;exact⟨f,c.2⟩
 |p x=>trivial
 |junk=>trivial
theorem QO (h:nl s) {op:Op} {t:TV} (g:b9 P s.ev s.H op=some t):ji s.H t:=by
 cases op
 case load ty x=>
  simp only[b9]at g;split at g
  ·exact sH g (fun y n=>by simp only[aeL]at n;obtain⟨z,_,rfl⟩:=n;trivial)
  ·grind [sH,RW]
  cases g
 case indexAddr ty x ix=>
  simp only[b9]at g;split at g
  ·split at g
   ·cases g
   split at g
   ·split at g
    ·split at g
     ·injection g with g;subst g;trivial
     cases g
    cases g
   ·rename_i e a r B len E l;split at g
    ·split at g
     ·injection g with g;subst g;have q:=gQ h l;exact q
     cases g
    cases g
   ·split at g
    ·split at g
     ·split at g
      ·injection g with g;subst g;trivial
      cases g
     cases g
    cases g
   ·rename_i l;split at g
    ·split at g
     ·split at g
      ·injection g with g;subst g;have q:=gQ h l;exact q
      cases g
     cases g
    cases g
   ·split at g
    ·split at g
     ·split at g
      ·injection g with g;subst g;trivial
      cases g
     cases g
    cases g
   cases g
  cases g
 case index ty x ix=>
  simp only[b9]at g;split at g
  ·split at g
   ·cases g
   split at g
   ·rename_i l;split at g
    ·split at g
     ·exact sH g (fun y n=>gQ h l y (agA n))
     cases g
    cases g
   cases g
  cases g
 case fieldAddr ty x f=>
  simp only[b9]at g;split at g
  ·split at g
   ·injection g with g;subst g;trivial
   cases g
  ·rename_i l;split at g
   ·injection g with g;subst g;have q:=gQ h l;exact q
   cases g
  cases g
 case field ty x f=>
  simp only[b9]at g;split at g
  ·rename_i l;exact sH g (fun y n=>gQ h l y (agA n))
  cases g
 case slice ty x lo hi mx=>
  cases mx with
  |some mx=>
   cases lo with
   |none=>grind [b9]
   |some lo=>
   cases hi with
   |none=>grind [b9]
   |some hi=>
   simp only[b9]at g;split at g
   ·rename_i l;split at g
    ·split at g
     ·injection g with g;subst g;have q:=gQ h l;exact q
     cases g
    cases g
   cases g
  |none=>
   simp only[b9]at g;split at g
   ·split at g
    ·split at g
     ·injection g with g;subst g;trivial
     cases g
    cases g
   ·rename_i l;split at g
    ·split at g
     ·injection g with g;subst g;have q:=gQ h l;exact q
     split at g
     ·injection g with g;subst g;trivial
     cases g
    cases g
   cases g
 case build ty parts=>
  simp only[b9]at g;split at g
  ·split at g
   ·obtain⟨u,o,rfl⟩:=adT.1 g;exact Dz h _ _ _ o (fun y n=>by simp only[aeL]at n;obtain⟨z,_,rfl⟩:=n;trivial)
   cases g
  cases g
 case nilCheck x=>
  grind [b9,gQ]
 case makeFunc fn first captured=>
  cases fn with
  |func f=>
   simp only[b9]at g;split at g
   ·obtain⟨u,o,rfl⟩:=adT.1 g;obtain⟨F,p,w⟩:=aeZ.1 o;intro x l;obtain⟨j,A,rfl⟩:=afW l;obtain⟨v,D⟩:=(tK w).2 j _ (aeR A);obtain⟨y,G,C⟩:=(co p).2 j _ v;have q:=gQ h C;exact q
   cases g
  |_=>grind [b9]
 case call c=>
  obtain⟨callee,args,argTypes⟩:=c;cases callee with
  |builtin b=>
   cases b
   case len=>
    simp only[b9]at g;split at g
    ·split at g
     ·injection g with g;subst g;trivial
     ·injection g with g;subst g;trivial
     ·injection g with g;subst g;trivial
     cases g
    cases g
   all_goals (simp only[b9]at g;cases g)
  |value f=>grind [b9]
  |invoke r m=>grind [b9]
 all_goals (simp only[b9]at g;cases g)
end
end
section
section
variable {P:Program} {s s':AS} {H H':OH}
def GZ (H H':OH):Prop:= ∀a,H a≠[]->H' a=H a
def ul (H H':OH):AV->Prop
 | .sl a _ _ _=>H' a=H a
 | .ptr a _ _ _=>H' a=H a
 | .fn _ a _=>H' a=H a
 |_=>True
def nf (H H':OH):TV->Prop
 | .one x=>ul H H' x
 | .agg b=> ∀x∈b,ul H H' x
 | .fn _ b=> ∀x∈b,ul H H' x
 | .tup c=> ∀t∈c,∀x∈t.2,ul H H' x
theorem nM {x:AV} (h:il H x) (g:GZ H H'):ul H H' x:=by
 cases x with
 |sl a _ _ _=>exact g a h
 |ptr a _ _ _=>exact g a h
 |fn _ a _=>exact g a h.1
 |p x=>trivial
 |junk=>trivial
theorem Jy (h:ji H f) (g:GZ H H'):nf H H' f:=by
 cases f with
 |one x=>exact nM h g
 |agg e=>exact fun x c=>nM (h x c) g
 |fn b e=>exact fun x c=>nM (h x c) g
 |tup l=>exact fun f j x c=>nM (h f j x c) g
theorem nO (x:AV):ul H H x:=by cases x<;>first|rfl|trivial
theorem Jz (t:TV):nf H H t:=by
 cases t with
 |one x=>exact nO x
 |agg b=>exact fun x _=>nO x
 |fn f b=>exact fun x _=>nO x
 |tup c=>exact fun t _ x _=>nO x
theorem AM {ev e:Operand->Option TV} {op:Op} (h: ∀x∈op.operands,ev x=e x):kH P ev op=kH P e op:=by
 cases op<;>simp only[Op.operands]at h<;>simp only[kH]
 case call c=>
  grind [List.map_congr_left,Call.operands,mmC]
 case move x=>grind
 case assign x=>grind
 case pick c a b=>grind
 case binOp op t x y t'=>grind
 case unOp op t x=>grind
 case convert a b x=>grind
 grind
theorem Iu (k:Nat->Nat->Bool): ∀(c e:List AV),UB (c.map (aY k)) (e.map (aY k))=UB c e
 |[],[]=>rfl
 |[],_::_=>rfl
 |x::c,[]=>by
  simp only[aeX,afh];cases x with
  |p x=>cases x with
   |raw v=>cases v<;>rfl
   |sl _=>rfl
   |ptr _=>rfl
  |sl a r b len=>simp only[aY];split<;>rfl
  |ptr a r i j=>simp only[aY];split<;>rfl
  |fn f a g=>simp only[aY];split<;>rfl
  |junk=>rfl
 |x::c,y::e=>by
  have h:=Iu k c e;simp only[aeX];cases x with
  |p x=>cases x with
   |raw v=>
    cases v
    case int k1 a=>
     cases y with
     |p y=>cases y with
      |raw u=>cases u<;>first|rfl|grind [aY,UB]
      |sl _=>rfl
      |ptr _=>rfl
     |sl a r b len=>simp only[aY];split<;>rfl
     |ptr a r i j=>simp only[aY];split<;>rfl
     |fn f a g=>simp only[aY];split<;>rfl
     |junk=>rfl
    all_goals rfl
   |sl _=>rfl
   |ptr _=>rfl
  |sl a r b len=>simp only[aY];split<;>rfl
  |ptr a r i j=>simp only[aY];split<;>rfl
  |fn f a g=>simp only[aY];split<;>rfl
  |junk=>rfl
theorem Rt (k:Nat->Nat->Bool) (t:TV):Bq (bi k t)=Bq t:=by
 cases t with
 |one x=>
  cases x with
  |p x=>rfl
  |sl a r c len=>simp only[bi,aY];split<;>rfl
  |ptr a r i j=>simp only[bi,aY];split<;>rfl
  |fn f a e=>simp only[bi,aY];split<;>rfl
  |junk=>rfl
 |agg b=>rfl
 |fn f b=>rfl
 |tup g=>rfl
theorem LP (k:Nat->Nat->Bool) (t:Option TV):(t.map (bi k)).bind Bq=t.bind Bq:=by
 cases t with
 |none=>rfl
 |some t=>exact Rt k t
theorem Vy (k:Nat->Nat->Bool) (f:Int->Int->Int) (l:List (Option TV)):Vx f (l.map (Option.map (bi k)))=(Vx f l).map (bi k):=by
 have key: ∀(t:TV) v,bi k t= .one (.p (.raw v))↔t= .one (.p (.raw v)):=fun t v=>by
  cases t with
  |one x=>
   cases x with
   |p x=>rfl
   |sl a r n len=>grind [bi,aY]
   |ptr a r i j=>grind [bi,aY]
   |fn f a z=>grind [bi,aY]
   |junk=>rfl
  |agg g=>simp[bi]
  |fn f g=>simp[bi]
  |tup A=>simp[bi]
 have inv: ∀(o:Option TV) v,o.map (bi k)=some (.one (.p (.raw v)))->o=some (.one (.p (.raw v))):=fun o v h=>by
  simp_all
 cases h:Vx f l with
 |some t=>
  grind [oP]
 |none=>
  cases m:Vx f (l.map (Option.map (bi k)))with
  |none=>rfl
  |some t=>
   obtain⟨c,q,a,b,e,_⟩:=oP m;obtain⟨x,y,rfl,u,w⟩:=FB e;grind
theorem QM (k:Nat->Nat->Bool) {ev:Operand->Option TV} {op:Op}:kH P (fun x=>(ev x).map (bi k)) op=(kH P ev op).map (bi k):=by
 have key: ∀(t:TV) v,bi k t= .one (.p (.raw v))↔t= .one (.p (.raw v)):=fun t v=>by
  cases t with
  |one x=>
   cases x with
   |p x=>rfl
   |sl a r E len=>grind [bi,aY]
   |ptr a r i j=>grind [bi,aY]
   |fn f a J=>grind [bi,aY]
   |junk=>rfl
  |agg h=>simp[bi]
  |fn f h=>simp[bi]
  |tup w=>simp[bi]
 cases op<;>simp only[kH]<;>try rfl
 case call c=>
  unfold mmC;have e:c.args.toList.map (fun x=>(ev x).map (bi k))=(c.args.toList.map ev).map (Option.map (bi k)):=by simp
  grind [Vy]
 case pick c a b=>
  cases F:ev c with
  |none=>rfl
  |some t=>
   grind
 case binOp op t x y t'=>
  by_cases g:Lu y=true
  ·rw[if_pos g,if_pos g];unfold DS;grind [LP]
  rw[if_neg g,if_neg g];cases q:ev x with
  |none=>rfl
  |some m=>
   cases I:ev y with
   |none=>
    simp
   |some z=>
    simp only[afV];by_cases o: ∃a b,m= .one (.p (.raw a))/\z= .one (.p (.raw b))
    ·obtain⟨a,b,rfl,rfl⟩:=o;simp only[bi,aY];cases Dx (As P t) op a b<;>rfl
    by_cases C: ∃A B,m= .agg A/\z= .agg B
    ·obtain⟨A,B,rfl,rfl⟩:=C;simp only[bi,Iv,ae3,Iu];grind
    have u: ∀(t:TV) h,bi k t= .agg h-> ∃n,t= .agg n:=fun t h D=>by
     cases t<;>simp[bi]at D
     simp
    grind
 case unOp op t x=>
  cases q:ev x with
  |none=>rfl
  |some m=>
   simp only[afV];by_cases o: ∃a,m= .one (.p (.raw a))
   ·obtain⟨a,rfl⟩:=o;simp only[bi,aY];cases QR op a<;>rfl
   grind
 case convert a b x=>
  cases q:ev x with
  |none=>rfl
  |some m=>
   grind
 case extract x i=>
  cases q:ev x with
  |none=>rfl
  |some m=>
   cases m with
   |one y=>rfl
   |agg h=>rfl
   |fn f h=>rfl
   |tup w=>
    simp only[afV,bi,aeG];cases G:w[i]? with
    |none=>rfl
    |some t=>
     obtain⟨b,h⟩:=t;cases b with
     |true=>rfl
     |false=>
      cases h with
      |nil=>rfl
      |cons y l=>cases l<;>rfl
theorem lA {ev:Operand->Option TV} {x:Option Operand} {d:Nat} (h: ∀y,x=some y->ev y=b y):fQ ev x d=fQ b x d:=by
 cases x with
 |none=>rfl
 |some y=>grind [fQ]
theorem AW {g:List (Nat×Nat)} {ev b:Operand->Option TV}: ∀(parts:List (Nat×Operand)) (e:List AV),(∀p∈parts,ev p.2=b p.2)->mR g ev e parts=mR g b e parts
 |[],e,_=>rfl
 |(f,x)::c,e,h=>by
  simp only[mR,h (f,x) (by simp)];split
  ·split
   ·exact AW c _ (fun p j=>h p (by simp[j]))
   rfl
  rfl
theorem DG {n:Nat} {ev b:Operand->Option TV}: ∀(parts:List (Nat×Operand)) (i:Nat),(∀p∈parts,ev p.2=b p.2)->tX ev n i parts=tX b n i parts
 |[],i,_=>rfl
 |(f,x)::c,i,h=>by
  simp only[tX,h (f,x) (by simp),DG c (i+1) (fun p e=>h p (by simp[e]))]
theorem lE {ev b:Operand->Option TV}: ∀(l:List Operand),(∀x∈l,ev x=b x)->gy ev l=gy b l
 |[],_=>rfl
 |x::l,h=>by simp only[gy,h x (by simp),lE l (fun y c=>h y (by simp[c]))]
theorem AO {ev:Operand->Option TV} {op:Op} (h: ∀x∈op.operands,ev x=b x) (z: ∀x∈op.operands,∀t,ev x=some t->nf H H' t):b9 P ev H op=b9 P b H' op:=by
 cases op<;>simp only[Op.operands]at h z<;>try (simp only[b9];done)
 case load t x=>
  simp only[b9,<- h x (by simp)];cases q:ev x with
  |none=>rfl
  |some l=>
   have:=z x (by simp) l q;cases l with
   |one y=>
    cases y with
    |ptr a r i j=>simp only[show H' a=H a from this]
    |p y=>grind
    |sl a r n len=>rfl
    |junk=>rfl
    |fn=>rfl
   |agg o=>rfl
   |fn f o=>rfl
   |tup B=>rfl
 case indexAddr t x ix=>
  simp only[b9,<- h x (by simp),<- h ix (by simp)];cases sliceO P t with
  |none=>
   cases q:ev x with
   |none=>rfl
   |some l=>
    cases l with
    |one y=>
     cases y with
     |p y=>
      cases y with
      |raw v=>
       cases v with
       |pointer a=>
        cases a with
        |none=>rfl
        |some a=>
         obtain⟨g,n,D⟩:=a;cases D<;>rfl
       |_=>rfl
      |sl E=>rfl
      |ptr o=>rfl
     |sl a r n len=>rfl
     |ptr a r i j=>rfl
     |junk=>rfl
     |fn=>rfl
    |agg o=>rfl
    |fn f o=>rfl
    |tup B=>rfl
  |some e=>
   cases q:ev x with
   |none=>rfl
   |some l=>
    have:=z x (by simp) l q;cases l with
    |one y=>
     cases y with
     |sl a r n len=>simp only[show H' a=H a from this]
     |p y=>cases y<;>rfl
     |ptr a r i j=>rfl
     |junk=>rfl
     |fn=>rfl
    |agg o=>rfl
    |fn f o=>rfl
    |tup B=>rfl
 case index t x ix=>grind [b9]
 case fieldAddr t x f=>grind [b9]
 case field t x f=>grind [b9]
 case slice t x lo hi mx=>
  cases mx with
  |some m=>
   cases lo with
   |none=>rfl
   |some lo=>
   cases hi with
   |none=>rfl
   |some hi=>
   simp only[b9,<- h x (by simp)];have w:fQ ev (some lo) 0=fQ b (some lo) 0:=lA fun y A=>h y (by grind)
   have u:fQ ev (some hi) 0=fQ b (some hi) 0:=lA fun y A=>h y (by grind)
   have C:fQ ev (some m) 0=fQ b (some m) 0:=lA fun y A=>h y (by grind)
   simp only[w,u,C];cases sliceO P t with
   |none=>rfl
   |some e=>
    cases q:ev x with
    |none=>rfl
    |some l=>
     have:=z x (by simp) l q;cases l with
     |one y=>
      cases y with
      |sl a r n len=>simp only[show H' a=H a from this]
      |p y=>rfl
      |ptr a r i j=>rfl
      |junk=>rfl
      |fn=>rfl
     |agg o=>rfl
     |fn f o=>rfl
     |tup B=>rfl
  |none=>
   simp only[b9,<- h x (by simp)];have w: ∀d,fQ ev lo d=fQ b lo d:=fun d=>lA fun y A=>h y (by grind)
   have u: ∀d,fQ ev hi d=fQ b hi d:=fun d=>lA fun y A=>h y (by grind)
   simp only[w,u];cases sliceO P t with
   |none=>rfl
   |some e=>
    cases q:ev x with
    |none=>rfl
    |some l=>
     have:=z x (by simp) l q;cases l with
     |one y=>
      cases y with
      |sl a r n len=>simp only[show H' a=H a from this]
      |p y=>grind
      |ptr a r i j=>rfl
      |junk=>rfl
      |fn=>rfl
     |agg o=>rfl
     |fn f o=>rfl
     |tup B=>rfl
 case build t parts=>
  grind [b9,AW]
 case nilCheck x=>grind [b9]
 case makeFunc fn first captured=>
  cases fn with
  |func f=>
   grind [b9,lE]
  |_=>rfl
 case call c=>
  obtain⟨callee,⟨args⟩,⟨argTypes⟩⟩:=c;cases callee with
  |builtin g=>
   cases g<;>try (simp only[b9];done)
   grind [b9,Call.operands]
  |value f=>rfl
  |invoke r m=>rfl
 all_goals rfl
theorem acC (x:PV):ms H' (.one (.p x))=ms H (.one (.p x)):=by
 have key: ∀G:OH,ms G (.one (.p x))= .one (.p x)\/(x= .raw (.slice none 0 0)/\ms G (.one (.p x))= .one (.p (.sl []))):=fun G=>by
  unfold ms;grind
 by_cases b:x= .raw (.slice none 0 0)
 ·subst b;rfl
 grind
theorem acB (x:PV):newsOf H' (.one (.p x))=newsOf H (.one (.p x)):=by
 unfold newsOf;grind
theorem mG (e:nf H H' f):ms H' f=ms H f/\ ∀b,jj b H' f=jj b H f:=by
 cases f with
 |one x=>
  cases x with
  |sl a r h len=>exact⟨by simp only[ms,show H' a=H a from e],fun b=>by simp only[jj,show H' a=H a from e]⟩
  |p x=>exact⟨acC x,fun b=>rfl⟩
  |ptr a r i j=>exact⟨rfl,fun b=>rfl⟩
  |junk=>exact⟨rfl,fun b=>rfl⟩
  |fn=>exact⟨rfl,fun b=>rfl⟩
 |agg g=>exact⟨rfl,fun b=>rfl⟩
 |fn c g=>exact⟨rfl,fun b=>rfl⟩
 |tup l=>exact⟨rfl,fun b=>rfl⟩
theorem Rq (e:nf H H' f):newsOf H' f=newsOf H f:=by
 cases f with
 |one x=>
  cases x with
  |sl a r g len=>simp only[newsOf,show H' a=H a from e]
  |p x=>exact acB x
  |ptr a r i j=>rfl
  |junk=>rfl
  |fn=>rfl
 |agg c=>rfl
 |fn b c=>rfl
 |tup h=>rfl
theorem Ld {z:List (dD P)} {N:List Nat} {i d:Nat} {ev:Operand->Option TV} {op:Op} (h: ∀x∈op.operands,ev x=b x) (E: ∀x∈op.operands,∀t,ev x=some t->nf H H' t):dM P z N i d ev H op=dM P z N i d b H' op:=by
 cases op<;>simp only[Op.operands]at h E<;>try (simp only[dM];done)
 case box e x=>grind [dM]
 case makeSlice t l c=>grind [dM]
 case buildSlice t n parts=>
  simp only[dM];have: ∀n i,tX ev n i parts.toList=tX b n i parts.toList:=fun n i=>DG _ _ (fun p V=>h p.2 (by grind))
  grind
 case call c=>
  obtain⟨callee,⟨args⟩,⟨argTypes⟩⟩:=c;simp only[Call.operands]at h E;cases callee with
  |value f=>
   have M:gy ev args=gy b args:=lE args (fun x J=>h x (by simp[J]));cases f<;>try (simp only[dM];done)
   ·rename_i k;simp only[dM];rw[<- M,<- h (.tmp k) (by simp)];cases q:KS (ev (.tmp k))with
    |none=>rfl
    |some R=>
     obtain⟨f,o⟩:=R;cases B:gy ev args with
     |none=>simp
     |some A=>
      have S: ∀t∈o,nf H H' t:=fun t u=>by
       unfold KS at q;split at q
       ·rename_i Q U C;injection q with q
        injection q with q w
        subst q w;have I:=E (.tmp k) (by simp) _ C;simp only[aeL]at u;obtain⟨y,L,rfl⟩:=u;exact I y L
       ·rename_i Q a W C;injection q with q
        injection q with q w
        subst q w;have I:=E (.tmp k) (by simp) _ C;simp only[aeL]at u;obtain⟨y,L,rfl⟩:=u;exact I
       ·grind
       cases q
      have v: ∀t∈A++o,nf H H' t:=fun t u=>by
       rcases afD.1 u with u|u
       ·obtain⟨j,T,rfl⟩:=afW u;obtain⟨x,J,K⟩:=(co B).2 j _ (aeR T);grind
       grind
      have F:(A++o).map (ms H')=(A++o).map (ms H):=ae1 fun t u=>(mG (v t u)).1
      have O: ∀g,(A++o).all (jj g H')=(A++o).all (jj g H):=fun g=>by
       rw[Bool.eq_iff_iff];simp only[aeP];exact⟨fun G t u=>by rw[<- (mG (v t u)).2 g];grind,fun G t u=>by rw[(mG (v t u)).2 g];grind⟩
      grind
   rename_i f;simp only[dM];rw[<- M];cases B:gy ev args with
   |none=>simp
   |some D=>
    have v: ∀t∈D,nf H H' t:=fun t u=>by
     obtain⟨k,C,rfl⟩:=afW u;obtain⟨x,J,K⟩:=(co B).2 k _ (aeR C);grind
    have F:D.map (ms H')=D.map (ms H):=ae1 fun t u=>(mG (v t u)).1
    have O: ∀g,D.all (jj g H')=D.all (jj g H):=fun g=>by
     rw[Bool.eq_iff_iff];simp only[aeP];exact⟨fun G t u=>by rw[<- (mG (v t u)).2 g];grind,fun G t u=>by rw[(mG (v t u)).2 g];grind⟩
    grind
  |builtin g=>
   cases g<;>try (simp only[dM];done)
   simp only[dM];split
   ·rename_i x y t X;rw[<- h x (by simp),<- h y (by simp)];have F:(ev y).bind (newsOf H')=(ev y).bind (newsOf H):=by
     cases L:ev y with
     |none=>rfl
     |some Y=>grind [Rq]
    rw[F]
   rfl
  |invoke r m=>rfl
end
end
section
inductive Yl where
 |val (t:TV)
 |new (t:TV) (o:OObj) (l:List OObj)
 |wr (q:Kr)
section
variable (P:Program) (items:List (dD P)) (ow:List Nat)
noncomputable def RD (r:Option (TV×List OObj)):Option Yl:=match r with
 |some (t,[])=>some (.val t)
 |some (t,o::l)=>some (.new t o l)
 |none=>none
noncomputable def lO (i:Nat) (d:Option Tmp) (op:Op) (ev:Operand->Option TV) (H:OH):Option Yl:=
 if qp op then(kH P ev op).map .val
 else if A7 op then(b9 P ev H op).map .val
 else match iY P ev H op with
  |some q=>some (.wr q)
  |none=>match d with
   |none=>none
   |some d=>RD (dM P items ow i d ev H op)
def cW (d:Option Tmp) (s:AS):Yl->Option AS
 | .val t=>some (s.put d t)
 | .new t o l=>match d with
  |some d=>(match s.H d with|[]=>some (AS.put ⟨s.tmps,aK s.H d (o::l)⟩ (some d) t)|_=>none)
  |none=>none
 | .wr q=>some (AS.put ⟨s.tmps.map (bi q.k),q.H⟩ d q.t)
theorem Dk (i:Nat) (o:Oper) (s:AS):fo P items ow i o s=(lO P items ow i o.dst o.op s.ev s.H).bind (cW o.dst s):=by
 unfold fo lO;split
 ·cases kH P s.ev o.op<;>rfl
 split
 ·cases b9 P s.ev s.H o.op<;>rfl
 cases iY P s.ev s.H o.op with
 |some q=>rfl
 |none=>
  cases e:o.dst with
  |none=>rfl
  |some d=>
   simp only;cases c:dM P items ow i d s.ev s.H o.op with
   |none=>rfl
   |some b=>
    obtain⟨t,F⟩:=b;cases F with
    |nil=>rfl
    |cons f l=>rfl
def gate (e:Array Oper) (o:Oper) (s:AS):Option Bool:=match o.guard with
 |none=>some true
 |some (g,c)=>match(e[g]?).bind (·.dst)with
  |none=>none
  |some d=>match s.tmps[d]? with
   |some (.one (.p (.raw (.bool b))))=>some (b==c)
   |some (.tup [])=>some false
   |_=>none
noncomputable def dY (b:Array Oper) (i:Nat) (o:Oper) (s:AS):Option Yl:=match gate b o s with
 |some true=>lO P items ow i o.dst o.op s.ev s.H
 |some false=>some (.val .undef)
 |none=>none
theorem bW (e:Array Oper) (i:Nat) (o:Oper) (s:AS):bs P items ow e i o s=(dY P items ow e i o s).bind (cW o.dst s):=by
 unfold bs dY gate;cases u:o.guard with
 |none=>grind [Dk]
 |some m=>
  obtain⟨g,c⟩:=m;simp only;cases(e[g]?).bind (·.dst)with
  |none=>rfl
  |some d=>
   simp only;cases w:s.tmps[d]? with
   |none=>rfl
   |some t=>
    cases t with
    |agg l=>rfl
    |fn f l=>rfl
    |tup q=>cases q<;>rfl
    |one x=>
     cases x with
     |sl a r n len=>rfl
     |ptr a r i j=>rfl
     |fn=>rfl
     |junk=>rfl
     |p x=>
      cases x with
      |sl y=>rfl
      |ptr l=>rfl
      |raw v=>
       cases v<;>try rfl
       rename_i b;simp only;by_cases h:b=c
       ·grind [Dk]
       rw[if_neg h];have:(b==c)=false:=by grind
       rw[this];rfl
variable {P} {items} {ow}
variable {ops:Array Oper} {s s1 s2 s':AS} {H H':OH}
theorem mZ (s:AS) (d:Option Tmp) (t:TV) (k:Nat) (h: ∀e,d=some e->e≠k):(s.put d t).tmps[k]?=s.tmps[k]?:=by
 cases d with
 |none=>rfl
 |some e=>grind [AS.put]
theorem acF (s:AS) (d:Option Tmp) (t:TV) {x:Operand} (h: ∀e,d=some e->x≠ .tmp e):(s.put d t).ev x=s.ev x:=by
 cases x with
 |tmp k=>exact mZ s d t k (fun e b c=>h e b (by rw[c]))
 |const v=>rfl
 |global g=>rfl
 |func f=>rfl
theorem i9 (s:AS) {d e:Option Tmp} (t u:TV) (h: ∀k,d=some k->e≠some k):(s.put d t).put e u=(s.put e u).put d t:=by
 cases d with
 |none=>rfl
 |some d=>
  cases e with
  |none=>rfl
  |some e=>
   grind [AS.put,List.set_comm]
def nS (ops:Array Oper) (o:Oper) (d:Option Tmp):Prop:= ∀e,d=some e->e∉o.looksAt ops
theorem nS.op {d:Option Tmp} (h:nS ops e d): ∀x∈e.op.operands,∀b,d=some b->x≠ .tmp b:=fun x g b f c=>by
 subst c;exact h b f (ahD _ (ahS.2 ⟨.tmp b,by grind,rfl⟩))
theorem nS.gate {d:Option Tmp} (h:nS ops e d) {w:Bool} (j:e.guard=some (n,w)) {k:Tmp} (l:(ops[n]?).bind (·.dst)=some k): ∀b,d=some b->b≠k:=fun b f c=>by
 subst c;refine h b f (List.mem_append_right _ ?_);grind
theorem UN {d:Option Tmp} (h:nS ops e d) (t:TV):gate ops e (s.put d t)=gate ops e s:=by
 unfold gate;cases f:e.guard with
 |none=>rfl
 |some c=>
  obtain⟨g,b⟩:=c;simp only;cases j:(ops[g]?).bind (·.dst)with
  |none=>rfl
  |some k=>simp only;rw[mZ s d t k (h.gate f j)]
theorem Zc (k:Nat->Nat->Bool) (H':OH) (x:Operand):AS.ev ⟨s.tmps.map (bi k),H'⟩ x=(s.ev x).map (bi k):=by
 cases x with
 |tmp t=>simp_all[AS.ev]
 |const v=>
  simp only[AS.ev,afV]
  congr 1
  unfold nI;split
  ·split
   ·simp only[bi];congr 1;rw[aga];rfl
   rfl
  split<;>rfl
 |global g=>rfl
 |func f=>rfl
theorem QW (k:Nat->Nat->Bool) (H':OH):gate ops e ⟨s.tmps.map (bi k),H'⟩=gate ops e s:=by
 unfold gate;cases q:e.guard with
 |none=>rfl
 |some l=>
  obtain⟨g,c⟩:=l;simp only;cases u:(ops[g]?).bind (·.dst)with
  |none=>rfl
  |some b=>
   simp only[aeG];cases s.tmps[b]? with
   |none=>rfl
   |some t=>
    cases t with
    |one x=>
     cases x with
     |p x=>rfl
     |sl a r m len=>grind [bi,aY]
     |ptr a r i j=>grind [bi,aY]
     |fn f a v=>grind [bi,aY]
     |junk=>rfl
    |agg h=>rfl
    |fn f h=>rfl
    |tup n=>cases n<;>rfl
theorem Lf {ev:Operand->Option TV} {op:Op} (h: ∀x∈op.operands,ev x=b x):iY P ev H op=iY P b H op:=by
 cases op<;>simp only[Op.operands]at h<;>try (simp only[iY];done)
 case store t x y=>simp only[iY,<- h x (by simp),<- h y (by simp)]
 case call c=>
  obtain⟨callee,⟨args⟩,⟨argTypes⟩⟩:=c;grind [Call.operands,iY]
theorem yy {i:Nat} {d:Option Tmp} {ev:Operand->Option TV} {op:Op} (h: ∀x∈op.operands,ev x=b x) (c: ∀x∈op.operands,∀t,ev x=some t->nf H H' t) (g:H'=H\/ ∀e G,iY P e G op=none):
  lO P items ow i d op ev H=lO P items ow i d op b H':=by
 unfold lO;rw[AM h,AO h c];have f:iY P ev H op=iY P b H' op:=by
  grind [Lf]
 rw[f];have j: ∀d,dM P items ow i d ev H op=dM P items ow i d b H' op:=fun d=>Ld h c
 grind
theorem dW {i:Nat} {d:Option Tmp} (h:nS ops e d) (t:TV):dY P items ow ops i e (s.put d t)=dY P items ow ops i e s:=by
 unfold dY;rw[UN h,js];split
 ·exact(yy (fun x b=>(acF s d t (h.op x b)).symm) (fun x _ t _=>Jz t) (.inl rfl)).symm
 ·rfl
 rfl
theorem wv {i:Nat} (g:nl s) (f:GZ s.H H') (c: ∀b G,iY P b G e.op=none):dY P items ow ops i e ⟨s.tmps,H'⟩=dY P items ow ops i e s:=by
 unfold dY;rw[show gate ops e ⟨s.tmps,H'⟩=gate ops e s from rfl];split
 ·refine(yy (fun x _=>?_) (fun x _ t h=>Jy (gQ g h) f) (.inr c)).symm;rfl
 ·rfl
 rfl
theorem Ee {i:Nat} (b:qp e.op=true) {out:Yl} (h:dY P items ow ops i e s=some out): ∃t,out= .val t:=by
 unfold dY lO at h;grind [Option.map_eq_some_iff]
theorem Cz {i:Nat} (c:qp e.op=true) (b:List TV) (H H':OH):dY P items ow ops i e ⟨b,H⟩=dY P items ow ops i e ⟨b,H'⟩:=by
 unfold dY lO;rw[show gate ops e ⟨b,H⟩=gate ops e ⟨b,H'⟩from rfl];simp only[c,if_true];rfl
theorem ww {i:Nat} (g:qp e.op=true) (k:Nat->Nat->Bool) (H':OH):dY P items ow ops i e ⟨s.tmps.map (bi k),H'⟩=some (.val f)↔ ∃t,dY P items ow ops i e s=some (.val t)/\f=bi k t:=by
 unfold dY lO;rw[QW];cases gate ops e s with
 |none=>simp
 |some b=>
  cases b with
  |false=>
   simp only[Option.some.injEq,Yl.val.injEq];constructor
   ·rintro rfl;exact⟨_,rfl,rfl⟩
   rintro⟨t,rfl,rfl⟩;rfl
  |true=>
   simp only[g,if_true];have c:kH P (AS.ev ⟨s.tmps.map (bi k),H'⟩) e.op=(kH P s.ev e.op).map (bi k):=by
    grind [QM,AM,Zc]
   rw[c];cases kH P s.ev e.op with
   |none=>simp
   |some t=>
    grind
theorem V5 (b:List TV) (H:OH) (d:Option Tmp) (t:TV):AS.put ⟨b,H⟩ d t=⟨(AS.put ⟨b,H⟩ d t).tmps,H⟩:=by cases d<;>rfl
theorem OO (s:AS) (k:Nat->Nat->Bool) (H':OH) (d:Option Tmp) (t:TV):(⟨(s.put d t).tmps.map (bi k),H'⟩:AS)=AS.put ⟨s.tmps.map (bi k),H'⟩ d (bi k t):=by
 cases d with
 |none=>rfl
 |some d=>simp_all[AS.put]
def adz (P:Program) (b c:Oper):Prop:=qp b.op=true\/qp c.op=true\/((∀e G,iY P e G b.op=none)/\ ∀e G,iY P e G c.op=none)
theorem uP {d:Option Tmp} {out:Yl} (g: ∀q,out≠ .wr q) (h:cW d s out=some s1): ∃t b,s1=AS.put ⟨s.tmps,b⟩ d t/\GZ s.H b/\((b=s.H/\out= .val t)\/ ∃e o l,d=some e/\s.H e=[]/\b=aK s.H e (o::l)/\out= .new t o l):=by
 cases out with
 |val t=>simp only[cW]at h;injection h with h;exact⟨t,s.H,h.symm,fun _ _=>rfl,.inl ⟨rfl,rfl⟩⟩
 |new t o l=>
  simp only[cW]at h;cases d with
  |none=>cases h
  |some e=>
   simp only at h;split at h
   ·rename_i c;injection h with h
    refine⟨t,aK s.H e (o::l),h.symm,fun a f=>?_,.inr ⟨e,o,l,rfl,c,rfl,rfl⟩⟩;grind [aU]
   cases h
 |wr q=>grind
theorem Sa {i:Nat} {m:Oper} (hl:nl s) (w:nS ops m e.dst) (x:nS ops e m.dst) (V: ∀k,e.dst=some k->m.dst≠some k) (ae:adz P e m) (f:bs P items ow ops i e s=some s1) (g:bs P items ow ops n m s1=some s'): ∃s2,bs P items ow ops n m s=some s2/\bs P items ow ops i e s2=some s':=by
 rw[bW]at f g;obtain⟨ui,p,f⟩:=aeZ.1 f;obtain⟨uj,c,g⟩:=aeZ.1 g;by_cases A:qp e.op=true
 ·obtain⟨t,rfl⟩:=Ee A p;simp only[cW]at f;injection f with f
  subst f;rw[dW w]at c;cases uj with
  |val u=>
   grind [cW,bW,dW,i9]
  |new u o l=>
   simp only[cW,js]at g;cases N:m.dst with
   |none=>grind
   |some b=>
    rw[N]at g;simp only at g;split at g
    ·rename_i hH;injection g with g
     subst g;refine⟨AS.put ⟨s.tmps,aK s.H b (o::l)⟩ (some b) u,by grind [bW,cW],?_⟩;rw[bW,<- N,dW x,Cz A s.tmps _ s.H];rw[show(⟨s.tmps,s.H⟩:AS)=s from rfl,p];simp only[agZ,cW];rw[i9 _ u t (fun k D y=>V k y (by rw[D]))]
     congr 2
     cases e.dst<;>rfl
    cases g
  |wr q=>
   simp only[cW]at g;injection g with g
   subst g;refine⟨AS.put ⟨s.tmps.map (bi q.k),q.H⟩ m.dst q.t,by rw[bW,c];rfl,?_⟩;rw[bW,dW x,(ww A q.k q.H).2 ⟨t,p,rfl⟩];grind [cW,OO,i9]
 by_cases B:qp m.op=true
 ·obtain⟨u,rfl⟩:=Ee B c;simp only[cW]at g;injection g with g
  subst g;cases ui with
  |val t=>
   grind [cW,dW,bW,i9]
  |new t o l=>
   simp only[cW]at f;cases C:e.dst with
   |none=>grind
   |some b=>
    rw[C]at f;simp only at f;split at f
    ·rename_i hH;injection f with f
     subst f;rw[<- C,dW w,Cz B s.tmps _ s.H,show(⟨s.tmps,s.H⟩:AS)=s from rfl]at c;refine⟨s.put m.dst u,by rw[bW,c];rfl,?_⟩;rw[bW,dW x,p];simp only[agZ,cW,js,C,hH];rw[i9 _ t u (fun k D=>V k (by grind))]
     congr 2
     cases m.dst<;>rfl
    cases f
  |wr q=>
   simp only[cW]at f;injection f with f
   subst f;rw[dW w]at c;obtain⟨u0,af,rfl⟩:=(ww B q.k q.H).1 c;refine⟨s.put m.dst u0,by rw[bW,af];rfl,?_⟩;grind [bW,dW,cW,OO,i9]
 obtain⟨J,K⟩:(∀b G,iY P b G e.op=none)/\ ∀b G,iY P b G m.op=none:=by
  rcases ae with h|h|h
  ·grind
  ·grind
  exact h
 have z: ∀{i:Nat} {o:Oper} {s:AS} {u:Yl},(∀b G,iY P b G o.op=none)->dY P items ow ops i o s=some u-> ∀q,u≠ .wr q:=fun{i o s u} hD v q hq=>by
  subst hq;unfold dY lO at v;split at v
  ·split at v
   ·simp_all
   split at v
   ·simp_all
   rw[hD]at v;simp only at v;split at v
   ·cases v
   unfold RD at v;grind
  ·cases v
  cases v
 obtain⟨t,R,rfl,aa,L⟩:=uP (z J p) f;rw[dW w,wv hl aa K]at c;obtain⟨u,S,rfl,ab,M⟩:=uP (z K c) g;simp only[js]at M ab
 -- what n does to s alone
 have hj: ∃r,bs P items ow ops n m s=some (AS.put ⟨s.tmps,r⟩ m.dst u)/\GZ s.H r/\((r=s.H/\S=R)\/ ∃b o l,m.dst=some b/\r=aK s.H b (o::l)/\S=aK R b (o::l)):=by
  rcases M with⟨I,U⟩|⟨b,o,l,I,U,e3,e4⟩
  ·exact⟨s.H,by rw[bW,c,U];rfl,fun _ _=>rfl,.inl ⟨rfl,I⟩⟩
  have ag:s.H b=[]:=by
   rcases L with⟨E,_⟩|⟨F,X,W,E,T,Y,_⟩
   ·grind
   rw[Y,aU (by grind)]at U;exact U
  refine⟨aK s.H b (o::l),by grind [bW,cW],fun a ha=>aU (by grind),.inr ⟨b,o,l,I,rfl,e3⟩⟩
 obtain⟨r,ad,ac,O⟩:=hj;refine⟨_,ad,?_⟩;rw[bW,dW x,wv hl ac J,p];simp only[agZ];rcases L with⟨E,T⟩|⟨F,X,W,E,T,Y,c4⟩
 ·subst T;simp only[cW];rw[i9 _ u t (fun k D y=>V k y (by rw[D]))]
  congr 1
  have:r=S:=by
   grind
  rw[this,V5 s.tmps R,E];cases e.dst<;>rfl
 subst c4;have Z:r F=[]:=by
  rcases O with⟨Q,_⟩|⟨b,o,l,q0,Q,_⟩
  ·grind
  rw[Q,aU (by grind)];exact T
 simp only[cW,E,js,Z];have I:(⟨(AS.put ⟨s.tmps,r⟩ m.dst u).tmps,aK r F (X::W)⟩:AS)=AS.put ⟨s.tmps,aK r F (X::W)⟩ m.dst u:=by cases m.dst<;>rfl
 rw[I,i9 _ u t (fun k D y=>V k (by grind) (by rw[D]))]
 congr 1
 have:aK r F (X::W)=S:=by
  rcases O with⟨Q,q2⟩|⟨b,o,l,q0,Q,q2⟩
  ·grind
  rw[Q,q2,Y];grind [be,aU]
 rw[this,V5 s.tmps R];rfl
end
end
end Go.Proofs.YtalmoejhjceflaaGreat
