/-
  Part 20 of a proof (walks and plain facts).
-/
import Derived.Test.YtalmoejhjceflaaGreatR18
import Derived.RangeFuncLeaves
set_option linter.all false
set_option maxRecDepth 100000
set_option maxHeartbeats 64000000
namespace Go.Proofs.YtalmoejhjceflaaGreat
open Go.RowKit
variable {n m:Nat} {b:Array Oper} {c:Nat->Prop} {e:List Deferred} {f:Code} {g:Value} {h:OH} {j:Bool}
section
section
variable {P:Program} {γ:Type} {L:f5 γ} {g g':γ} {w0 w w':World} {O X Y:Nat->Prop} {s s':AS} {a:Act}
theorem dx.turn {B:Nat->Prop} (h:dx w0 O X s a w) (q: ∀j,B j->O j/\X j) (k:Keep B w w'):dx w0 O X s a w':=by
 obtain⟨D,y,f,e,I⟩:=h;have C: ∀(x r:Nat) (o:OObj) (b c:Nat),(s.H x)[r]?=some o->f x r=some (b,c)->w'.heap[b]?=w.heap[b]?:=fun x r o b c z A=>
  k.block b (bJ (e.objs x r o z) A) fun l=>(e.old x r o b c z A).2 (q b l).2
 have mono: ∀x v,AV.rel f s.H (Xo X f s.H) w x v->AV.rel f s.H (Xo X f s.H) w' x v:=qr fun x v n h=>by
  cases x with
  |fn=>cases n
  |p x=>exact bM.later (fun _ _ h=>h) k.size (fun p v G u E=>by rw[<- E];exact iz (k.block p.block G fun l=>u (.inl (q _ l).2))) h
  |sl x r J len=>exact h
  |ptr x r i j=>exact h
  |junk=>trivial
 refine⟨D,y,f,⟨⟨k.os.trans e.keep.os,k.tape.trans e.keep.tape,k.output.trans e.keep.output,aap e.keep.size k.size,fun j m n=>?_⟩,fun x r o F=>?_,e.inj,e.old,fun j m=>aaA (e.bar j m) k.size,e.self⟩,fun t x R=>?_⟩
 ·rw[k.block j (aaA m e.keep.size) fun l=>n (q j l).1];exact e.keep.block j m n
 ·obtain⟨K,M,S⟩:=e.objs x r o F;refine⟨K,M,?_⟩;cases Q:f x r with
  |none=>grind
  |some N=>
   grind
 grind [TV.rel_map]
def sj (P:Program) (L:f5 γ) (l:Nat) (args:List Value) (g g':γ) (b:Bool):Prop:=
 ∀(Y:Nat->Prop) (w:World),L.G g Y w-> ∃c tmps assign body,(Instr.yield l args.toArray).run P w= .ok (.round l c tmps assign body) w/\
  RoundIn (FW none) 0 P l c tmps assign body w fun e w'=>e= .returned (.bool b)/\Keep L.B w w'/\L.G g' Y w'
def xr:List TV->Option (List Value)
 |[]=>some []
 | .one (.p (.raw v))::l=>(xr l).map (v:: ·)
 |_=>none
theorem tU: ∀{b:List TV} {vs:List Value},xr b=some vs->b=vs.map TV.raw
 |[],vs,h=>by grind [xr]
 |t::b,vs,h=>by
  unfold xr at h;split at h
  ·grind
  ·rename_i v l e;injection e with c f
   subst c f;obtain⟨m,j,rfl⟩:=aak.1 h;rw[tU j];rfl
  cases h
def Yd (e:Array Oper) (m:Nat) (s:AS):Option (Nat×List Value):=match e[m]? with
 |some o=>match o.guard,o.op with
  |none,.call c=>match c.callee with
   | .value (.tmp k)=>match s.ev (.tmp k),(fA s.ev c.args.toList).bind xr with
    |some (.one (.p (.raw (.func (.yield l) first b)))),some vs=>if first.isEmpty&&b.isEmpty then some (l,vs)else none
    |_,_=>none
   |_=>none
  |_,_=>none
 |none=>none
def yS (c:Array Oper) (m:Nat) (b:Bool) (s:AS):AS:=s.put (cwD c m) (.raw (.bool b))
theorem xX {args:List Value} (hy:sj P L n args g g' j) {x:AS} (h:Yd b m x=some (n,args)):
  vp P b m (fi L Y w0 O X g x) (fi L Y w0 O X g' (yS b m j x)):=by
 unfold Yd at h;split at h
 case h_2=>cases h
 rename_i o ho;split at h
 case h_2=>cases h
 rename_i c hg ab;split at h
 case h_2=>cases h
 rename_i k N;split at h
 case h_2=>cases h
 rename_i l' first I vs hk D
 split at h
 case isFalse=>cases h
 rename_i M;injection h with h
 injection h with U V
 subst U V;simp only[aaO,Array.isEmpty_iff]at M;obtain⟨rfl,rfl⟩:=M;obtain⟨ts,C,p⟩:=aaG.1 D;have p:=tU p;subst p;refine⟨o,ho,hg,fun a w K Q ⟨S,J,hY,Z⟩ hK=>?_⟩;obtain⟨h1,ac,ρ,R,r⟩:=id S;have r:aV X ρ x a w:=r;have aa:=(aX (bz r (.tmp k) _ hk)).1;obtain⟨q1,q2⟩:=bV C;have A:c.args.map a.eval=vs.toArray:=by
  apply Array.ext';apply aaC;intro f;simp only[Array.toList_map,aam];cases hj:vs[f]? with
  |none=>
   grind
  |some v=>
   obtain⟨y,E,F⟩:=q2 f (.raw v) (by grind);rw[E];exact congrArg some (aX (bz r y _ F)).1
 obtain⟨W,tmps,assign,body,T,q⟩:=hy Y w Z;have t:(execOp a.eval o).run P w= .ok (.round l' W tmps assign body) w:=by
  grind [execOp,resolve,Deferred.ofValue,invoke]
 refine⟨fun _ _=>trivial,?_⟩;show o.uponIn (FW none) 0 P a K Q ((execOp a.eval o).run P w);rw[t,Oper.uponIn_round];refine⟨fun h=>by simp[Fence.wide]at h,q.mono ?_⟩;rintro e w1 ⟨rfl,B,z⟩;refine hK _ w1 ⟨?_,J,hY,z⟩;obtain⟨n1,G,ad,u,H⟩:=S.turn J B;have:cwD b m=o.dst:=by grind [cwD]
 unfold yS;rw[this];exact eD n1 G u H (b7 rfl)
variable {Q:Exit->AS->γ->Prop}
theorem FA (e:P.follows .mixedOrders=true) {args:List Value} (t:sj P L n args g g' j) (c:List (ao P)) (f:List Nat) {id:Nat} (r:Gk b=true) (h:aS P (c.map ao.a) f (aJ b (b.toList.take (b.size-1)) 0) (some s) (fun m=>Yd b (b.size-1) m=some (n,args)/\Q .normal (yS b (b.size-1) j m) g')):r9 P L (.region id b true) Q s g:=fun Y w0 O X a w v=>by
 obtain⟨m,o,q,p⟩:=aR P (c.map ao.a) f b _ 0 s _ h;exact v8 (ks:=[]) (R1:=fi L Y w0 O X g) (R2:=fi L Y w0 O X g') sQ.k e c f rfl r o (xX t q) v fun x w' u=>⟨_,g',p,u⟩
end
end
section
section
variable {P:Program} {w0 w w':World} {O X:Nat->Prop} {s s':AS} {a:Act} {ρ:Rho}
def RelR (ρ:Rho) (b:List Deferred) (w0:World) (O X:Nat->Prop) (s:AS) (a:Act) (w:World):Prop:=a.defers=b/\a.tmps.size=s.tmps.length/\Inv w0 O X s.H ρ w/\aV X ρ s a w
theorem RelR.put (h:RelR ρ e w0 O X s a w) {d:Option Tmp} {t:TV} {v:Value} (b:t.rel ρ s.H (Xo X ρ s.H) w v):RelR ρ e w0 O X (s.put d t) (a.put d v) w:=
 ⟨by rw[gJ];exact h.1,by rw[kh,jH];exact h.2.1,by rw[fE];exact h.2.2.1,pP h.2.1 h.2.2.2 b⟩
noncomputable def qk (P:Program) (o:Oper) (s:AS):Option AS:=
 if oQ o.op then(jE P s.ev o.op).map (s.put o.dst)
 else if yf o.op then(bT P s.ev s.H o.op).map (s.put o.dst)
 else match o.op with
  | .store t h x=>match s.ev h,gL P t with
   |some (.one (.ptr a r i j)),some n=>match(s.H a)[r]? with
    |some b=>match b.elems[i]? with
     |some e=>match s.ev x with
      |some (.one (.sl g l f len))=>if g=a/\n=1/\j<e.length then some (AS.put ⟨s.tmps,ax s.H a ((s.H a).set r {b with elems:=b.elems.set i (putCells e j [.sl g l f len])})⟩ o.dst .undef)else none
      |some v=>match cellsOf v with
       |some c=>if c.length=n/\j+n<=e.length/\c.all isPure then some (AS.put ⟨s.tmps,ax s.H a ((s.H a).set r {b with elems:=b.elems.set i (putCells e j c)})⟩ o.dst .undef)else none
       |none=>none
      |none=>none
     |none=>none
    |none=>none
   |_,_=>none
  |_=>none
theorem Aj (h:RelR ρ e w0 O X s a w) {o:Oper} {t:TypeId} {G x:Operand} (ho:o.op= .store t G x) {i j g:Nat} {z:OObj} {f cs:List AV} (I:s.ev G=some (.one (.ptr n m i j))) (hn:gL P t=some g) (B:(s.H n)[m]?=some z) (U:z.elems[i]?=some f) (T:cs.length=g) (hj:j+g<=f.length) (W:me ρ s.H (Xo X ρ s.H) w cs (a.eval x).cells) (q: ∀y∈cs,bs n y): ∃w',(execOp a.eval o).run P w= .ok .skip w'/\RelR ρ e w0 O X (AS.put ⟨s.tmps,ax s.H n ((s.H n).set m {z with elems:=z.elems.set i (putCells f j cs)})⟩ o.dst .undef) (a.put o.dst undef) w':=by
 obtain⟨S,E,A,p⟩:=h;have p:aV X ρ s a w:=p;obtain⟨Z,b,c,F,R,g3,g4⟩:=bz p G _ I;rw[B]at F;injection F with F
 subst F;obtain⟨x1,x2⟩:=W;have K:(a.eval x).cells.toList.length=cs.length:=by omega
 obtain⟨cells,N,Q,c3,M⟩:=Ai (act:={a with defers:=[]}) rfl E A p (vs:=(a.eval x).cells.toList) (j:=j) B R U (by omega) K (fun k y Y=>by
  grind) q
 have C: ∀u∈(a.eval x).cells,u.oneCell'=true:=fun u V=>by
  obtain⟨k,hk,rfl⟩:=adY V;obtain⟨y,Y⟩:=getElem?_of_lt (l:=cs) (k:=k) (by omega);grind
 have D:=tV (P:=P) (t:=t) (v:=a.eval x) (by grind) N (by simpa using Q) C;have M:aV X ρ _ a _:=M;have J: ∀L,(Instr.storeAt t (.pointer (some ⟨b,i*z.es+j,none⟩)) (a.eval x)).run P w= .ok () L->(execOp a.eval o).run P w= .ok .skip L:=fun L hr=>by
  grind [execOp,Vh]
 exact⟨_,J _ D,RelR.put (s:=⟨s.tmps,ax s.H n ((s.H n).set m {z with elems:=z.elems.set i (putCells f j cs)})⟩) ⟨S,E,by omega,by omega⟩ eJ⟩
theorem R7 {o:Oper} {S:AS} (f:qk P o s=some S) (h:RelR ρ e w0 O X s a w):(∀c,o.op≠ .defer c)/\ ∃x v w',(execOp a.eval o).run P w= .ok x w'/\(x= .value v\/(x= .skip/\v=undef))/\RelR ρ e w0 O X S (a.put o.dst v) w':=by
 obtain⟨h1,Z,p,g⟩:=id h;have g:aV X ρ s a w:=g;unfold qk at f;split at f
 ·rename_i L;obtain⟨t,G,rfl⟩:=aak.1 f;obtain⟨v,C,D⟩:=wh (bz g) G;exact⟨fun c b=>(by rw[b]at L;cases L),_,v,w,C,.inl rfl,h.put D⟩
 split at f
 ·rename_i M;obtain⟨t,G,rfl⟩:=aak.1 f;obtain⟨v,C,D⟩:=wn (bz g) p.objs G;exact⟨fun c b=>(by rw[b]at M;cases M),_,v,w,C,.inl rfl,h.put D⟩
 split at f
 case h_2=>cases f
 rename_i t ad x z;refine⟨fun c b=>(by grind),?_⟩;split at f
 case h_2=>cases f
 rename_i fa r i j n m Q;split at f
 case h_2=>cases f
 rename_i ob q;split at f
 case h_2=>cases f
 rename_i b N;split at f
 ·rename_i J R B len I;split at f
  case isFalse=>cases f
  rename_i E;obtain⟨rfl,W,Y⟩:=E;injection f with f
  subst f;have A:=bz g x _ I;have u:(a.eval x).oneCell'=true:=FQ (ρ:=ρ) (H:=s.H) (X:=Xo X ρ s.H) (w:=w) (x:= .sl J R B len) (by simp) A;obtain⟨w1,k1,k2⟩:=Aj (P:=P) h z m Q q N (cs:=[.sl J R B len]) (by simp;omega) (by omega) ⟨by grind [fg],fun k y l=>by
   cases k with
   |succ k=>simp at l
   |zero=>simp at l;subst l;exact⟨a.eval x,by grind [fg],u,A⟩⟩ (fun y l=>by simp at l;subst l;rfl)
  grind
 ·rename_i v hv I;split at f
  case h_2=>cases f
  rename_i V F;split at f
  case isFalse=>cases f
  rename_i E;obtain⟨T,U,K⟩:=E;injection f with f
  subst f;simp only[aat]at K;obtain⟨w1,k1,k2⟩:=Aj (P:=P) h z m Q q N T U (iU F (bz g x _ I)) (fun y l=>cf (K y l));grind
 cases f
noncomputable def mG (P:Program):List Oper->Option AS->(AS->Prop)->Prop
 |_,none,_=>False
 |[],some s,K=>K s
 |o::l,some s,K=>mG P l (if o.guard.isNone then qk P o s else none) K
theorem Aa (l:List Oper) (K:AS->Prop):mG P l none K=False:=by cases l<;>rfl
theorem JA {ro:Option Nat} {n:Nat} {e:List Deferred} {ops:Array Oper} {Q:Exit->Act->World->Prop} {Ka:AS->Prop} (f: ∀s a w,Ka s->RelR ρ e w0 O X s a w->Q .normal a w): ∀(l:List Oper) (k:Nat) (s:AS) (a:Act) (w:World),(∀(j:Nat) o,l[j]?=some o->ops[k+j]?=some o)->
  mG P l (some s) Ka->RelR ρ e w0 O X s a w->wpOpsIn (FW ro) n P ops Q (List.range' k l.length) a w
 |[],k,s,a,w,_,h,r=>f s a w h r
 |o::l,k,s,a,w,g,h,r=>by
  simp only[aaP,abb];rw[wpOpsIn_cons];have q:ops[k]?=some o:=by have:=g 0 o rfl;omega
  unfold wpOpIn;rw[q];simp only[mG]at h;split at h
  case isFalse=>grind [Aa]
  rename_i A;cases m:qk P o s with
  |none=>grind [Aa]
  |some y=>
   rw[m]at h;obtain⟨c,x,v,z,b,u,t⟩:=R7 m r;simp only;rw[if_pos (by simp_all[Region.wanted])];refine⟨fun _ _=>trivial,?_⟩;rw[Oper.semAt_eq _ _ _ c,b];have p:=JA (ro:=ro) (n:=n) f l (k+1) y _ z (fun j o B=>by have:=g (j+1) o (by grind);rwa[show k+(j+1)=k+1+j by omega]at this) h t;rcases u with rfl|⟨rfl,rfl⟩
   ·exact p
   exact p
def vE (P:Program) (g:Option Nat) (ρ:Rho) (b:List Deferred) (c:Code) (Q:Exit->AS->Prop) (s:AS):Prop:=
 ∀(w0:World) (O X:Nat->Prop) (a:Act) (w:World),RelR ρ b w0 O X s a w->c.wpIn (FW g) 0 P (fun e f w'=> ∃s',Q e s'/\RelR ρ b w0 O X s' f w') a w
variable {ro:Option Nat} {ds:List Deferred} {Q:Exit->AS->Prop}
theorem Iv {id:Nat} (h:mG P b.toList (some s) (Q .normal)):vE P ro ρ ds (.region id b false) Q s:=fun w0 O X a w r=>by
 refine wpIn_region ?_;have:=JA (ro:=ro) (n:=0) (ops:=b) (Q:=fun e c w'=> ∃s',Q e s'/\RelR ρ ds w0 O X s' c w') (fun s a w k r=>⟨s,k,r⟩) b.toList 0 s a w (fun j o f=>by grind) h r;grind [List.range_eq_range']
theorem AG {y:Code} (h:vE P ro ρ ds f (jh (vE P ro ρ ds y Q) Q) s):vE P ro ρ ds (.seq f y) Q s:=fun _ _ _ _ _ r=>
 wpIn_seq (wpIn_mono (h _ _ _ _ _ r) fun e a w ⟨s',b,c⟩=>by
  cases e with
  |normal=>exact b _ _ _ _ _ c
  |_=>exact⟨s',b,c⟩)
theorem Nf {id:Nat} (h: ∀K:AS->Prop,(∀s',vE P ro ρ ds f Q s'->K s')->mG P b.toList (some s) K):vE P ro ρ ds (.seq (.region id b false) f) Q s:=
 AG (Iv (h _ fun _ h=>h))
theorem Nc {id:Nat} (h: ∀K:AS->Prop,(∀s',Q .normal s'->K s')->mG P b.toList (some s) K):vE P ro ρ ds (.region id b false) Q s:=Iv (h _ fun _ h=>h)
theorem Nd (h:Q .normal s):vE P ro ρ ds .skip Q s:=fun _ _ _ _ _ r=>wpIn_skip ⟨s,h,r⟩
theorem Iw (h:Q .ret s):vE P ro ρ ds .ret Q s:=fun _ _ _ _ _ r=>wpIn_ret ⟨s,h,r⟩
theorem yP {id:Nat} (h:vE P ro ρ ds f (mi id Q) s):vE P ro ρ ds (.block id f) Q s:=fun _ _ _ _ _ r=>
 wpIn_block (wpIn_mono (h _ _ _ _ _ r) fun e a w ⟨s',b,c⟩=>by
  cases e with
  |exit g=>
   grind [mi,Exit.inBlock]
  |_=>exact⟨s',b,c⟩)
theorem CU {c:Operand} {y:Code} (l:s.ev c=some (.raw (.bool j))) (o:j=true->vE P ro ρ ds f Q s) (m:j=false->vE P ro ρ ds y Q s):vE P ro ρ ds (.cond c f y) Q s:=fun _ _ _ _ _ r=>by
 obtain⟨p,n,e,b⟩:=id r;have g:=(aX (bz b c _ l)).1;exact wpIn_cond_split g (fun h=>o h _ _ _ _ _ r) (fun h=>m h _ _ _ _ _ r)
end
end
section
def ownB (b:Rho):Nat->Prop:=fun j=> ∃(x r c:Nat),b x r=some (j,c)
structure Az where
 l:Nat
 D:Nat
 fn:FuncId
 tm:Array Value
 ps:Array Tmp
 asg:Code
 bd:Code
def Az.loop (R:Az) (c:LoopState) (b:Option Code):Loop:={state:=c,pending:=b,fn:=R.fn,tmps:=R.tm,params:=R.ps,assign:=R.asg,body:=R.bd,defers:=R.D}
def Az.obj (R:Az) (b:Option Code):Obj:= .loop (R.loop (if b.isNone then .ready else .done) b)
def qW:TV->Bool
 | .one x=>gK x
 |_=>false
def xF (H:OH):Prop:= ∀a,∀o∈H a,∀e∈o.elems,∀x∈e,gK x=true
section
variable {P:Program} {w0 w w':World} {O X:Nat->Prop} {s s':AS} {a:Act} {ρ:Rho} {ds:List Deferred} {γ:Type}
theorem xH {A:OH} {Y:Nat->Prop} {x:AV} {v:Value} (z:gK x=true) (E: ∀(x r:Nat) (o:OObj),(h x)[r]?=some o-> ∃n:OObj,(A x)[r]?=some n/\n.es=o.es/\n.elems.length=o.elems.length) (m:AV.rel ρ h Y w x v):AV.rel ρ A c w' x v:=by
 have key: ∀x v,DY x=true->gK x=true->AV.rel ρ h Y w x v->AV.rel ρ A c w' x v:=fun x v Q z m=>by
  cases x with
  |fn=>cases Q
  |p x=>
   cases x with
   |raw u=>
    obtain⟨rfl,q⟩:=aX (ρ:=ρ) (H:=h) m;exact bM.raw _ q
   |sl C=>
    cases C with
    |nil=>
     have m:bM Y w (.sl []) v:=m;generalize t:PV.sl []=x at m;cases m with
     |raw v m=>cases t
     |ptr b y I f K L M R=>cases t
     |nil a l=>exact bM.nil _ _
     |sl b y U cap C f K L N F W M R=>
      injection t with t
      subst t;exact bM.nil _ _
    |cons e C=>cases z
   |ptr I=>cases z
  |sl b r y len=>
   obtain⟨o,q,D,J⟩:=m;obtain⟨n,B,S,T⟩:=E b r o q;exact⟨n,B,by omega,by grind⟩
  |ptr b r i j=>
   obtain⟨o,G,l,q,D,J,V⟩:=m;obtain⟨n,B,S,T⟩:=E b r o q;exact⟨n,G,l,B,D,by omega,by grind⟩
  |junk=>trivial
 exact j3 (c:=fun x=>gK x=true) (g:=id) (fun _ _ _ _ _ _ _=>rfl) qK key x v z m
theorem BQ {f:OH} {l:Nat->Prop} {t:TV} (j:qW t=true) (m: ∀(x r:Nat) (o:OObj),(h x)[r]?=some o-> ∃e:OObj,(f x)[r]?=some e/\e.es=o.es/\e.elems.length=o.elems.length) (b:t.rel ρ h c w g):t.rel ρ f l w' g:=by
 cases t with
 |one x=>exact xH j m b
 |_=>cases j
theorem pW (H:OH): ∀(x r:Nat) (o:OObj),(H x)[r]?=some o-> ∃b:OObj,(H x)[r]?=some b/\b.es=o.es/\b.elems.length=o.elems.length:=fun _ _ o h=>⟨o,h,rfl,rfl⟩
theorem DF (y:xF h) (f:Inv w0 O X h ρ w) (k: ∀j,ownB ρ j->w'.heap[j]?=w.heap[j]?) (g:Nat->Prop) (A: ∀j,g j->j<w'.heap.size) (m: ∀j,ownB ρ j-> ¬g j):Inv w' (ownB ρ) g h ρ w':=by
 refine⟨Keep.refl _,fun x r o n=>?_,f.inj,fun x r o b c n l=>⟨.inr ⟨x,r,c,l⟩,m b ⟨x,r,c,l⟩⟩,A,f.self⟩;obtain⟨G,I,t⟩:=f.objs x r o n;refine⟨G,I,?_⟩;cases l:ρ x r with
 |none=>grind
 |some v=>
  obtain⟨b,c⟩:=v;rw[l]at t;obtain⟨cells,B,C,D,E,F⟩:=t;refine⟨cells,by rw[k b ⟨x,r,c,l⟩];exact B,C,D,E,fun i e j z p q=>?_⟩;obtain⟨u,J,K,L⟩:=F i e j z p q;exact⟨u,J,K,xH (y x o (aai n) e (aai p) z (aai q)) (pW h) L⟩
theorem RelR.turn (h:RelR ρ ds w0 O X s a w) (k: ∀j,¬X j->w'.heap[j]?=w.heap[j]?) (l:w.heap.size<=w'.heap.size):RelR ρ ds w' (ownB ρ) X s a w':=by
 obtain⟨A,B,f,q⟩:=h;have mono: ∀x v,AV.rel ρ s.H (Xo X ρ s.H) w x v->AV.rel ρ s.H (Xo X ρ s.H) w' x v:=qr fun x v F h=>by
  cases x with
  |fn=>cases F
  |p x=>exact bM.later (fun _ _ h=>h) l (fun p v S n D=>by rw[<- D];exact iz (k p.block fun C=>n (.inl C))) h
  |sl x r I len=>exact h
  |ptr x r i j=>exact h
  |junk=>trivial
 refine⟨A,B,⟨Keep.refl _,fun x r o m=>?_,f.inj,fun x r o b c m g=>⟨.inr ⟨x,r,c,g⟩,(f.old x r o b c m g).2⟩,fun j E=>aaA (f.bar j E) l,f.self⟩,fun t x G=>?_⟩
 ·obtain⟨N,Q,u⟩:=f.objs x r o m;refine⟨N,Q,?_⟩;cases g:ρ x r with
  |none=>grind
  |some y=>
   obtain⟨b,c⟩:=y;rw[g]at u;obtain⟨cells,J,K,L,M,U⟩:=u;refine⟨cells,by rw[k b (f.old x r o b c m g).2];exact J,K,L,M,fun i e j z R T=>?_⟩;grind
 obtain⟨v,V,W⟩:=q t x G;grind [TV.rel_map]
def Fo (R:Az) (ρ:Rho) (e:List TV) (H:γ->OH) (b:γ->Option Code) (z: ∀x r c,ρ x r≠some (R.l,c)) (p: ∀g,xF (H g)) (C:e.all qW=true):f5 γ where
 B:=fun j=>j=R.l\/ownB ρ j
 G:=fun g _ w=>w.heap[R.l]?=some (R.obj (b g))/\RelR ρ [] w (ownB ρ) (fun j=>j=R.l) ⟨e,H g⟩ ⟨R.tm,[]⟩ w
 sp:=fun g _ w w' k _ ⟨y,h,m,n,o⟩=>by
  have q:w'.heap[R.l]?=some (R.obj (b g)):=by grind
  refine⟨q,h,m,DF (p g) n (fun j f=>k j (.inr f)) _ (fun j f=>by grind) (fun j ⟨x,r,c,A⟩ f=>by grind),fun t x u=>?_⟩;obtain⟨v,D,E⟩:=o t x u;grind [BQ]
variable {R:Az} {tml:List TV} {H:γ->OH} {jump:γ->Option Code} {hl: ∀x r c,ρ x r≠some (R.l,c)} {hH: ∀g,xF (H g)} {ht:tml.all qW=true}
theorem Ij {f z:γ} {u:Value} (ab:R.ps= #[n,m]) (hv1:g.oneCell'=true) (hv2:u.oneCell'=true) (C:jump f=none) (ad: ∀(x r:Nat) (o:OObj),(H f x)[r]?=some o-> ∃Z:OObj,(H z x)[r]?=some Z/\Z.es=o.es/\Z.elems.length=o.elems.length) (hw:vE P (some R.l) ρ [] R.asg (fun e s1=>e= .normal/\vE P (some R.l) ρ [] R.bd (fun e s2=>s2.H=H z/\((e= .normal/\j=true/\jump z=none)\/(e= .ret/\j=false/\jump z=some .ret))) s1) ((AS.put ⟨tml,H f⟩ (some n) (.raw g)).put (some m) (.raw u))):
  sj P (Fo R ρ tml H jump hl hH ht) R.l [g,u] f z j:=fun Y w ⟨N,S⟩=>by
 have V:R.l<w.heap.size:=(aaD.1 N).1;have K: ¬ownB ρ R.l:=fun⟨x,r,c,hr⟩=>hl x r c hr
 rw[C]at N;refine⟨R.fn,(R.tm.setIfInBounds n g).setIfInBounds m u,R.asg,R.bd,?_,?_⟩
 ·have:=run_yield (P:=P) (args:= #[g,u]) N (by show(#[g,u]:Array Value).size=R.ps.size;grind);rw[show([g,u]:List Value).toArray= #[g,u]from rfl,this];show Result.ok (Next.round R.l R.fn ((R.ps.zip #[g,u]).foldl _ R.tm) R.asg R.bd) w=_;simp_all
 refine roundIn_of_wpIn (F:=FW none) trivial ?_;have r0:RelR ρ [] w (ownB ρ) (fun p=>p=R.l) ((AS.put ⟨tml,H f⟩ (some n) (.raw g)).put (some m) (.raw u)) {tmps:=(R.tm.setIfInBounds n g).setIfInBounds m u,defers:=[]} w:=
  (S.put (d:=some n) (v:=g) (b7 hv1)).put (d:=some m) (v:=u) (b7 hv2)
 refine wpIn_mono (hw _ _ _ _ _ r0) fun e a1 w1 ⟨s1,⟨T,hb⟩,r1⟩=>?_
 subst T;have k1:w1.heap[R.l]?=some (R.obj none):=by rw[r1.2.2.1.keep.block _ V K];exact N
 refine⟨_,run_beginRound k1 rfl,?_⟩;generalize E:w1.putObj R.l _=w2;have U:R.l<w1.heap.size:=(aaD.1 k1).1;have r2:RelR ρ [] w2 (ownB ρ) (fun p=>p=R.l) s1 a1 w2:=by
  subst E;exact r1.turn (fun p C=>World.putObj_heap_other C) (by simp)
 have k2:w2.heap[R.l]?=some (.loop (R.loop .busy none)):=by subst E;exact World.putObj_heap_same U
 refine wpIn_mono (hb _ _ _ _ _ r2) fun e a3 M ⟨s3,⟨ac,T⟩,r3⟩=>?_
 have W:M.heap[R.l]?=some (.loop (R.loop .busy none)):=by
  rw[r3.2.2.1.keep.block _ (by grind) K];exact k2
 have aa:R.l<M.heap.size:=(aaD.1 W).1;have Q: ∀B,B=M.putObj R.l (R.obj (jump z))->Keep (fun p=>p=R.l\/ownB ρ p) w B/\B.heap[R.l]?=some (R.obj (jump z))/\RelR ρ [] B (ownB ρ) (fun p=>p=R.l) ⟨tml,H z⟩ ⟨R.tm,[]⟩ B:=fun B L=>by
  have r4:RelR ρ [] B (ownB ρ) (fun p=>p=R.l) s3 a3 B:=by
   subst L;exact r3.turn (fun p C=>World.putObj_heap_other C) (by simp)
  have q:=r1.2.2.1.keep;have y:=r3.2.2.1.keep;refine⟨?_,by grind [World.putObj_heap_same],rfl,S.2.1,by have:=r4.2.2.1;grind,fun t x hx=>?_⟩
  ·subst L E;refine⟨y.os.trans q.os,y.tape.trans q.tape,y.output.trans q.output,?_,fun p C hn=>?_⟩
   ·have:=q.size;have:=y.size;simp at this⊢;omega
   have I:p≠R.l:=fun h=>hn (.inl h)
   have J: ¬ownB ρ p:=fun h=>hn (.inr h)
   rw[World.putObj_heap_other I,y.block p (by have:=q.size;simp;omega) J,World.putObj_heap_other I,q.block p C J]
  obtain⟨v,u1,u2⟩:=S.2.2.2 t x hx;grind [BQ]
 have A: ∀o,o=R.obj (jump z)->Keep (fun p=>p=R.l\/ownB ρ p) w (M.putObj R.l o)/\(Fo R ρ tml H jump hl hH ht).G z Y (M.putObj R.l o):=fun o ho=>by subst ho;exact Q _ rfl
 rcases T with⟨rfl,rfl,D⟩|⟨rfl,rfl,D⟩
 ·refine⟨_,_,run_endRound none W,rfl,?_⟩;exact A _ (by rw[D];rfl)
 refine⟨_,_,run_endRound (some .ret) W,rfl,?_⟩;exact A _ (by rw[D];rfl)
end
end
section
theorem BN {P:Program} {f:FuncId} (g:callable P f=true) (args:Array Value) (w:World):(callFunc f args).run P w= .ok (.enter f args) w:=by
 obtain⟨h,b,c,e⟩:=kY g;unfold callFunc;simp only[aax];show Result.andThen (.ok P w) _=_;rw[aan,b];simp only[e,c,aaZ,if_false]
 simp
def vO (b:Nat):AV->Bool
 | .sl x _ _ _=>x !=b
 | .ptr x _ _ _=>x !=b
 | .fn _ x _=>x !=b
 |_=>true
def Nu (b:Nat):TV->Bool
 | .one x=>vO b x
 |_=>false
section
variable {P:Program} {w0 w w':World} {O X:Nat->Prop} {s s':AS} {a:Act} {ρ:Rho} {γ:Type}
open Classical in
noncomputable def mE (ρ:Rho) (H:OH) (b:Nat):Rho:=fun x r=>if x=b\/(H x)[r]?=none then none else ρ x r
theorem zW {r:Nat} {c:Nat×Nat} (b:mE ρ h n m r=some c):m≠n/\ ∃o,(h m)[r]?=some o/\ρ m r=some c:=by
 unfold mE at b;split at b
 ·cases b
 rename_i f;have g:(h m)[r]?≠none:=fun e=>f (.inr e)
 obtain⟨o,j⟩:=Option.ne_none_iff_exists'.1 g;exact⟨fun e=>f (.inl e),o,j,b⟩
theorem oK {r:Nat} {o:OObj} (e:m≠n) (c:(h m)[r]?=some o):mE ρ h n m r=ρ m r:=by
 unfold mE;rw[if_neg];rintro(b|b)
 ·exact e b
 rw[c]at b;cases b
structure RP (w0:World) (ρ:Rho) (D:Nat) (s:AS) (a:Act) (w:World):Prop where
 rel:RelR ρ [{target:= .collected D,args:= #[]}] w (ownB ρ) (fun j=>j<w0.heap.size\/j=D) s a w
 keep:Keep (fun _=>False) w0 w
 own: ∀j,ownB ρ j->w0.heap.size<=j
 mark:w.heap[D]?=some (.deferred (some []))
 no: ¬ownB ρ D/\w0.heap.size<=D
theorem Rk {gs:Tmp} {ps:Array Tmp} {asg bd:Code} {f:FuncId} {fs:Array Value} {targs:List TV} {fa:Nat} {F F':List OObj} {tml:List TV} {H:γ->OH} {jump:γ->Option Code} {hH: ∀g,xF (H g)} {ht:tml.all qW=true} {g0 g1:γ} {r:TV} {Q:Exit->Act->World->Prop}
  (hr:dx w0 (fun _=>False) X s a w) (hX: ∀j,X j->j<w0.heap.size) (hg:a.tmps[gs]?=some (.func (.func f) fs #[])) (hfs:fs.size=targs.length) (hts: ∀(j:Nat) t,targs[j]?=some t-> ∃v:Value,fs[j]?=some v/\ ∃y,s.ev y=some (renTV fa t)/\a.eval y=v)
  (hfa:fa<=4999) (hF:s.H fa=F.map (renO fa)) (hH0:H g0=ax s.H fa []) (hj0:jump g0=none) (htl:tml.length=s.tmps.length/\ ∀(t:Nat) x,tml[t]?=some x->x= .one .junk\/s.tmps[t]?=some x) (haw:tml.all (Nu fa)=true)
  (hcon: ∀(R:Az) (ρ:Rho) (hl: ∀x r c,ρ x r≠some (R.l,c)),R.ps=ps->R.asg=asg->R.bd=bd->qa P (Fo R ρ tml H jump hl hH ht) f (targs++[.raw (.func (.yield R.l) #[] #[])]) F F' g0 g1 r)
  (hQ: ∀(ρ:Rho) (D:Nat) (w3:World),RP w0 ρ D ⟨tml,H g1⟩ {a with defers:=[{target:= .collected D,args:= #[]}]} w3->match jump g1 with
   |none=>Q .normal {a with defers:=[{target:= .collected D,args:= #[]}]} w3
   |some c=>c.wp P Q {a with defers:=[{target:= .collected D,args:= #[]}]} w3):(Code.rangeFunc (.tmp gs) ps asg bd).wp P Q a w:=by
 obtain⟨h1,hsz,ρ,hinv,htm⟩:=hr;have htm:aV X ρ s a w:=htm;refine(wpIn_wide (n:=0)).1 (wpIn_rangeFunc (F:=FW none) fun fn _=>?_)
 let R:Az:=⟨w.heap.size+1,w.heap.size,fn,a.tmps,ps,asg,bd⟩
 obtain⟨W1,hW1⟩: ∃W1,(w.alloc (.deferred (some []))).alloc (R.obj none)=W1:=⟨_,rfl⟩;have hsz1:W1.heap.size=w.heap.size+2:=by rw[<- hW1];simp
 have hL1:W1.heap[w.heap.size+1]?=some (R.obj none):=by
  rw[<- hW1];have:=World.alloc_heap_new (w.alloc (.deferred (some []))) (R.obj none);rwa[World.size_alloc]at this
 have hK1:W1.heap[w.heap.size]?=some (.deferred (some [])):=by
  rw[<- hW1];exact(acJ _ _ _ (by simp)).trans (World.alloc_heap_new w _)
 have hold: ∀j,j<w.heap.size->W1.heap[j]?=w.heap[j]?:=fun j hj=>by
  rw[<- hW1];exact(acJ _ _ _ (by simp;omega)).trans (acJ _ _ _ hj)
 have hge:a.eval (.tmp gs)= .func (.func f) fs #[]:=by
  show a.tmps.getD gs undef=_;rw[acG,hg];rfl
 have hls: ∀(x r:Nat) (o:OObj) (b c:Nat),(s.H x)[r]?=some o->ρ x r=some (b,c)->b<w.heap.size:=fun x r o b c g1 g2=>bJ (hinv.objs x r o g1) g2
 have hnl: ∀x r c,mE ρ s.H fa x r≠some (R.l,c):=fun x r c h=>by
  obtain⟨_,o,h2,h3⟩:=zW h;have:=hls x r o _ c h2 h3;have:R.l=w.heap.size+1:=rfl;omega
 have hown: ∀j,ownB (mE ρ s.H fa) j->(∃(x r:Nat) (o:OObj) (c:Nat),x≠fa/\(s.H x)[r]?=some o/\ρ x r=some (j,c)):=fun j ⟨x,r,c,h⟩=>by
  obtain⟨h1,o,h2,h3⟩:=zW h;exact⟨x,r,o,c,h1,h2,h3⟩
 have hownlt: ∀j,ownB (mE ρ s.H fa) j->j<w.heap.size/\w0.heap.size<=j:=fun j h=>by
  obtain⟨x,r,o,c,_,h2,h3⟩:=hown j h;exact⟨hls x r o j c h2 h3,(hinv.old x r o j c h2 h3).1.resolve_right id⟩
 have hcon':=hcon R (mE ρ s.H fa) hnl rfl rfl rfl;have hab:=hcon'.able
 -- the state that the function is handed
 let X2:Nat->Prop:=fun j=>j<W1.heap.size/\(X j\/ownB (mE ρ s.H fa) j\/j=w.heap.size\/j=w.heap.size+1)
 have hXo: ∀j,j<w.heap.size->Xo X2 ρ (famH fa (s.H fa)) j->Xo X ρ s.H j:=fun j hj h=>by
  rcases h with⟨_,h|h|h|h⟩|⟨x,r,o,c,g1,g2⟩
  ·exact .inl h
  ·obtain⟨x,r,o,c,_,h2,h3⟩:=hown j h;exact .inr ⟨x,r,o,c,h2,h3⟩
  ·omega
  ·omega
  unfold famH at g1;split at g1
  ·rename_i hx;subst hx;exact .inr ⟨x,r,o,c,g1,g2⟩
  simp at g1
 have mono: ∀x v,bs fa x->AV.rel ρ s.H (Xo X ρ s.H) w x v->AV.rel ρ (famH fa (s.H fa)) (Xo X2 ρ (famH fa (s.H fa))) W1 x v:=j3 (c:=bs fa) (g:=id) (fun _ _ _ _ _ _ h=>h.1) qK fun x v hn hs h=>by
  cases x with
  |fn=>cases hn
  |p x=>exact bM.later hXo (by omega) (fun p v hp hno hc=>by rw[<- hc];exact iz (hold p.block hp)) h
  |junk=>trivial
  |sl x r off len=>
   have hs:x=fa:=hs;subst hs;obtain⟨o,k1,k2,k3⟩:=h;exact⟨o,by simpa[famH] using k1,k2,k3⟩
  |ptr x r i j=>
   have hs:x=fa:=hs;subst hs;obtain⟨o,b,c,k1,k2⟩:=h;exact⟨o,b,c,by simpa[famH] using k1,k2⟩
 have hfam: ∀(x r:Nat) (o:OObj),(famH fa (s.H fa) x)[r]?=some o->x=fa/\(s.H fa)[r]?=some o:=fun x r o h=>by
  unfold famH at h;split at h
  ·rename_i hx;exact⟨hx,h⟩
  simp at h
 have hinv2:Inv W1 (fun _=>True) X2 (famH fa (s.H fa)) ρ W1:=by
  refine⟨Keep.refl _,fun x r o ho=>?_,fun x r x' r' o o' b c c' ho ho' e1 e2=>?_,fun x r o b c ho hr=>⟨.inr trivial,?_⟩,fun j hj=>hj.1,fun x r o ho=>?_⟩
  ·obtain⟨rfl,ho⟩:=hfam x r o ho;obtain⟨q1,q2,q3⟩:=hinv.objs x r o ho;refine⟨q1,q2,?_⟩;cases hr:ρ x r with
   |none=>rw[hr]at q3;exact q3
   |some bc=>
    obtain⟨b,c⟩:=bc;rw[hr]at q3;obtain⟨cells,p1,p2,p3,p4,p5⟩:=q3;refine⟨cells,by rw[hold b (hls x r o b c ho hr)];exact p1,p2,p3,p4,fun i e j z he hz=>?_⟩;obtain⟨u,u1,u2,u3⟩:=p5 i e j z he hz;exact⟨u,u1,u2,mono z u (hinv.self x r o ho e (aai he) z (aai hz)) u3⟩
  ·obtain⟨rfl,ho⟩:=hfam x r o ho;obtain⟨rfl,ho'⟩:=hfam x' r' o' ho';exact hinv.inj _ r _ r' o o' b c c' ho ho' e1 e2
  ·obtain⟨rfl,ho⟩:=hfam x r o ho;have hlt:=hls x r o b c ho hr;rintro⟨_,h|h|h|h⟩
   ·exact(hinv.old x r o b c ho hr).2 h
   ·obtain⟨x',r',o',c',hne,k2,k3⟩:=hown b h;exact hne (hinv.inj x' r' x r o' o b c' c k2 ho k3 hr).1
   ·omega
   omega
  obtain⟨rfl,ho⟩:=hfam x r o ho;exact hinv.self x r o ho
 obtain⟨X1,ρ0,c1,c2,c3,c4,_⟩:=ws (s:=⟨[],famH fa (s.H fa)⟩) (a:=⟨#[],[]⟩) (B:=(Fo R (mE ρ s.H fa) tml H jump hnl hH ht).B) rfl rfl hinv2 (fun t x hx=>by simp at hx) (fun j hj=>⟨trivial,by
  rcases hj with hj|hj
  ·have:j=w.heap.size+1:=hj;exact⟨by omega,.inr (.inr (.inr this))⟩
  exact⟨by have:=(hownlt j hj).1;omega,.inr (.inl hj)⟩⟩) hcon'.sR hcon'.sF hcon'.sF' hfa (by show(famH fa (s.H fa)) fa=_;simp[famH,hF])
 -- the rows that are lent
 have monoL: ∀x v (z:Nat),z≠fa->bs z x/\gK x=true-> ∀(Y:Nat->Prop),AV.rel ρ s.H (Xo X ρ s.H) w x v->AV.rel (mE ρ s.H fa) (ax s.H fa []) Y W1 x v:=fun x v z hz hs Y h=>by
  refine j3 (c:=fun x=>bs z x/\gK x=true) (g:=id) (fun _ _ _ _ _ _ h=>⟨h.1.1,rfl⟩) qK (fun x v hn hs h=>?_) x v hs h;cases x with
  |fn=>cases hn
  |p x=>
   have q0:bM (Xo X ρ s.H) W1 x v:=bM.later (w:=w) (fun _ _ h=>h) (by omega) (fun p v hp hno hc=>by rw[<- hc];exact iz (hold p.block hp)) h;have q:AV.rel ρ s.H Y W1 (.p x) v:=xH (x:= .p x) (Y:=Xo X ρ s.H) hs.2 (pW _) q0;exact q
  |junk=>trivial
  |sl x r off len=>
   have hs1:x=z:=hs.1;subst hs1;obtain⟨o,k1,k2,k3⟩:=h;exact⟨o,by rw[aG hz];exact k1,k2,by rw[oK hz k1];exact k3⟩
  |ptr x r i j=>
   have hs1:x=z:=hs.1;subst hs1;obtain⟨o,b,c,k1,k2⟩:=h;exact⟨o,b,c,by rw[aG hz];exact k1,by rw[oK hz k1];exact k2⟩
 have hsafe:xF (ax s.H fa []):=by rw[<- hH0];exact hH g0
 have hupd: ∀(x r:Nat) (o:OObj),(ax s.H fa [] x)[r]?=some o->x≠fa/\(s.H x)[r]?=some o:=fun x r o h=>by
  by_cases hx:x=fa
  ·subst hx;rw[aM]at h;simp at h
  rw[aG hx]at h;exact⟨hx,h⟩
 have hinvL:Inv W1 (ownB (mE ρ s.H fa)) (fun j=>j=R.l) (ax s.H fa []) (mE ρ s.H fa) W1:=by
  refine⟨Keep.refl _,fun x r o ho=>?_,fun x r x' r' o o' b c c' ho ho' e1 e2=>?_,fun x r o b c ho hr=>⟨.inr ⟨x,r,c,hr⟩,fun hb=>?_⟩,fun j hj=>?_,fun x r o ho=>?_⟩
  ·have hso:=hsafe x o (aai ho);obtain⟨hx,ho⟩:=hupd x r o ho;obtain⟨q1,q2,q3⟩:=hinv.objs x r o ho;refine⟨q1,q2,?_⟩;rw[oK hx ho];cases hr:ρ x r with
   |none=>rw[hr]at q3;exact q3
   |some bc=>
    obtain⟨b,c⟩:=bc;rw[hr]at q3;obtain⟨cells,p1,p2,p3,p4,p5⟩:=q3;refine⟨cells,by rw[hold b (hls x r o b c ho hr)];exact p1,p2,p3,p4,fun i e j z he hz=>?_⟩;obtain⟨u,u1,u2,u3⟩:=p5 i e j z he hz;exact⟨u,u1,u2,monoL z u x hx ⟨hinv.self x r o ho e (aai he) z (aai hz),hso e (aai he) z (aai hz)⟩ _ u3⟩
  ·obtain⟨hx,ho⟩:=hupd x r o ho;obtain⟨hx',ho'⟩:=hupd x' r' o' ho';rw[oK hx ho]at e1;rw[oK hx' ho']at e2;exact hinv.inj x r x' r' o o' b c c' ho ho' e1 e2
  ·obtain⟨hx,ho⟩:=hupd x r o ho;rw[oK hx ho]at hr;have:=hls x r o b c ho hr;have:R.l=w.heap.size+1:=rfl;omega
  ·have:R.l=w.heap.size+1:=rfl;omega
  exact hinv.self x r o (hupd x r o ho).2
 have htmL: ∀(H':OH) (Y:Nat->Prop),H'=ax s.H fa []-> ∀(t:Nat) x,tml[t]?=some x-> ∃v:Value,a.tmps[t]?=some v/\x.rel (mE ρ s.H fa) H' Y W1 v:=fun H' Y e t x hx=>by
  subst e;have hlt:t<a.tmps.size:=by rw[hsz,<- htl.1];exact(aao.1 hx).1
  rcases htl.2 t x hx with rfl|h
  ·exact⟨a.tmps[t],by simp,trivial⟩
  obtain⟨v,v1,v2⟩:=htm t x h;refine⟨v,v1,?_⟩;have h3:=ht;simp only[aat]at h3 haw;have h3:=h3 x (aai hx);have h4:=haw x (aai hx);cases x with
  |one y=>
   have h3:gK y=true:=h3;have h4:vO fa y=true:=h4;cases y with
   |p y=>exact monoL (.p y) v (fa+1) (by omega) ⟨trivial,h3⟩ Y v2
   |junk=>trivial
   |sl z r off len=>exact monoL (.sl z r off len) v z (by simpa[vO] using h4) ⟨rfl,h3⟩ Y v2
   |ptr z r i j=>exact monoL (.ptr z r i j) v z (by simpa[vO] using h4) ⟨rfl,h3⟩ Y v2
   |fn f z qs=>
    obtain⟨vs,e1,e2,e3,e4⟩:=v2;exact monoL (.fn f z qs) v z (by simpa[vO] using h4) ⟨⟨rfl,acl e3⟩,h3⟩ Y ⟨vs,e1,e2,e3,e4⟩
  |_=>cases h3
 have hG0:(Fo R (mE ρ s.H fa) tml H jump hnl hH ht).G g0 (fun _=>True) W1:=by
  refine⟨by rw[hj0];exact hL1,rfl,by show a.tmps.size=_;rw[hsz,<- htl.1],?_,fun t x hx=>htmL _ _ hH0 t x hx⟩;show Inv W1 _ _ (H g0) _ W1;rw[hH0];exact hinvL
 refine⟨w.heap.size+1,[{target:= .collected w.heap.size,args:= #[]}],W1,{target:= .fn (.func f) #[],args:=fs++ #[.func (.yield (w.heap.size+1)) #[] #[]]},W1,f,fs++ #[.func (.yield (w.heap.size+1)) #[] #[]],W1,?_,?_,fun _ _=>trivial,?_,fun h=>by simp[Fence.wide]at h,?_⟩
 ·rw[<- hW1];exact run_enterLoop_outer _ _ _ _ _
 ·simp only[resolve,hge,Deferred.ofValue];simp[go_sem]
 ·simp only[invoke];rw[BN hab]
  simp
 have e1:{a with defers:=[({target:= .collected w.heap.size,args:= #[]}:Deferred)]++a.defers}={a with defers:=[{target:= .collected w.heap.size,args:= #[]}]}:=by rw[h1];rfl
 rw[e1];refine CallsIn.mono (callsIn_wide.2 (hcon'.calls X1 (fun _=>True) W1 _ ρ0 c1 c2 (fun _ _=>trivial) hG0 (by simp[hfs]) fun j t hj=>?_)) ?_
 ·by_cases hjl:j<targs.length
  ·rw[aaB hjl]at hj;obtain⟨v,v1,y,y1,y2⟩:=hts j t hj;refine⟨v,by rw[aa2 (by omega)];exact v1,c3 t v (hcon'.sA t (by rw[abf];exact .inl (aai hj))) ?_⟩;have hrel:=bz htm y _ y1;rw[y2]at hrel;have hst:selfTV 0 t:=hcon'.sA t (by rw[abf];exact .inl (aai hj));cases t with
   |one z=>exact mono _ v (dB fa z) hrel
   |agg cs=>
    obtain⟨vs,e1,e2,e3⟩:=hrel;refine⟨vs,e1,e2,fun j x hx=>?_⟩;obtain⟨u,u1,u2,u3⟩:=e3 j x hx;rw[aam]at hx;obtain⟨z,_,rfl⟩:=aak.1 hx;exact⟨u,u1,u2,mono _ u (dB fa z) u3⟩
   |fn g cs=>
    obtain⟨u0,⟨vs,e1,e2,e3⟩,e4⟩:=hrel;refine⟨u0,⟨vs,e1,e2,fun j x hx=>?_⟩,e4⟩;obtain⟨u,u1,u2,u3⟩:=e3 j x hx;rw[aam]at hx;obtain⟨z,_,rfl⟩:=aak.1 hx;exact⟨u,u1,u2,mono _ u (dB fa z) u3⟩
   |tup ts=>
    obtain⟨vs,e1,e2,e3⟩:=hrel;refine⟨vs,e1,e2,fun j b cs hx=>?_⟩;obtain⟨u,u1,u2⟩:=e3 j b cs hx;rw[aam]at hx;obtain⟨z,_,hz⟩:=aak.1 hx;injection hz with hz1 hz2
    subst hz2;refine⟨u,u1,?_⟩;rcases u2 with⟨u2,vs2,k1,k2,k3⟩|⟨u2,x,e,u4⟩
    ·refine .inl ⟨u2,vs2,k1,k2,fun i x hi=>?_⟩;obtain⟨q,q1,q2,q3⟩:=k3 i x hi;rw[aam]at hi;obtain⟨z',_,rfl⟩:=aak.1 hi;exact⟨q,q1,q2,mono _ q (dB fa z') q3⟩
    refine .inr ⟨u2,x,e,mono _ u ?_ u4⟩;have:x∈List.map (cb fa) z.2:=by rw[e];simp
    obtain⟨z',_,rfl⟩:=aau.1 this;exact dB fa z'
  have hj0:j=targs.length:=by
   have:=(aao.1 hj).1;simp at this;omega
  subst hj0;rw[aaE (aar _),abC]at hj;injection hj with hj
  subst hj;exact⟨.func (.yield (w.heap.size+1)) #[] #[],by rw[abn (by omega),hfs,abC];rfl,b7 rfl⟩
 rintro e w3 ⟨v,rfl,ρ',hi,⟨hG1,hG2⟩,_⟩;have hG1:w3.heap[w.heap.size+1]?=some (R.obj (jump g1)):=hG1;refine⟨jump g1,_,run_endLoop hG1 (by show(if(jump g1).isNone=true then LoopState.ready else LoopState.done)≠ .busy;split<;>simp),?_⟩;generalize hw4:w3.putObj _ _=w4;have hl3:w.heap.size+1<w3.heap.size:=(aaD.1 hG1).1;have same4: ∀j,j≠w.heap.size+1->w4.heap[j]?=w3.heap[j]?:=fun j hj=>by rw[<- hw4];exact World.putObj_heap_other hj
 have hsz4:w4.heap.size=w3.heap.size:=by rw[<- hw4];simp
 have hb: ∀j,famB F ρ0 j\/(Fo R (mE ρ s.H fa) tml H jump hnl hH ht).B j->j≠w.heap.size/\w0.heap.size<=j:=fun j hj=>by
  have hw0:=hinv.keep.size;rcases hj with hj|hj|hj
  ·obtain⟨y,o',c',k1,k2⟩:=c4 j hj;have k1:(s.H fa)[y]?=some o':=by simpa[famH] using k1
   have:=hls fa y o' j c' k1 k2;have:=(hinv.old fa y o' j c' k1 k2).1.resolve_right id;omega
  ·have:j=w.heap.size+1:=hj;omega
  have:=hownlt j hj;omega
 have hk:=hi.keep;have htail:RP w0 (mE ρ s.H fa) w.heap.size ⟨tml,H g1⟩ {a with defers:=[{target:= .collected w.heap.size,args:= #[]}]} w4:=by
  have hinv4:Inv w4 (ownB (mE ρ s.H fa)) (fun j=>j<w0.heap.size\/j=w.heap.size) (H g1) (mE ρ s.H fa) w4:=DF (hH g1) hG2.2.2.1 (fun j hj=>same4 j (fun h=>by have:=(hownlt j hj).1;omega)) _ (fun j hj=>by
   have h1:=hinv.keep.size;have h2:=hk.size;omega) (fun j hj h=>by have:=hownlt j hj;omega)
  refine⟨⟨rfl,by show a.tmps.size=_;rw[hsz,<- htl.1],hinv4,fun t x hx=>?_⟩,⟨?_,?_,?_,?_,fun j hj _=>?_⟩,fun j hj=>(hownlt j hj).2,?_,fun h=>by have:=(hownlt _ h).1;omega,hinv.keep.size⟩
  ·obtain⟨v,v1,v2⟩:=hG2.2.2.2 t x hx;have ht':=ht;simp only[aat]at ht';exact⟨v,v1,BQ (ht' x (aai hx)) (pW _) v2⟩
  ·rw[<- hw4];show w3.os=_;rw[hk.os,<- hW1];exact hinv.keep.os
  ·rw[<- hw4];show w3.tape=_;rw[hk.tape,<- hW1];exact hinv.keep.tape
  ·rw[<- hw4];show w3.output=_;rw[hk.output,<- hW1];exact hinv.keep.output
  ·have:=hinv.keep.size;have:=hk.size;omega
  ·have hs0:=hinv.keep.size;rw[same4 j (by omega),hk.block j (by omega) (fun h=>by have:=(hb j h).2;omega),hold j (by omega),hinv.keep.block j hj (fun h=>h)]
  rw[same4 _ (by omega),hk.block _ (by omega) (fun h=>(hb _ h).1 rfl)];exact hK1
 have:=hQ _ _ _ htail;cases hj:jump g1 with
 |none=>rw[hj]at this;exact this
 |some c=>rw[hj]at this;exact(wpIn_wide (n:=0)).2 this
end
end
end Go.Proofs.YtalmoejhjceflaaGreat
