/-
  Part 21 of a proof (walks and plain facts).
-/
import Derived.Test.YtalmoejhjceflaaGreatR19
set_option linter.all false
set_option maxRecDepth 100000
set_option maxHeartbeats 64000000
namespace Go.Proofs.YtalmoejhjceflaaGreat
open Go.RowKit
variable {n:Nat} {b:Array Oper} {c:OObj} {e:List AV} {f:Code} {s:AS} {g:TV}
section
section
variable {P:Program} {w0 w w':World} {O X:Nat->Prop} {s s':AS} {a:Act} {ρ:Rho} {γ:Type}
def Cw (w0:World) (X:Nat->Prop) (r:TV) (e:Ending) (w':World):Prop:= ∃v,e= .returned v/\ ∃ρ:Rho,Inv w0 (fun _=>False) X (famH 0 []) ρ w'/\r.rel ρ (famH 0 []) (Xo X ρ (famH 0 [])) w' v
def kw (P:Program) (b:Func) (r:TV) (w0:World) (X:Nat->Prop):Exit->Act->World->Prop:=bodyPostM (FW none) 0 P b (Cw w0 X r)
def Co (P:Program) (c:Code) (Post:World->(Nat->Prop)->Exit->Act->World->Prop) (s:AS):Prop:=
 ∀(w0:World) (X:Nat->Prop) (a:Act) (w:World),(∀b,X b->b<w0.heap.size)->dx w0 (fun _=>False) X s a w->c.wp P (Post w0 X) a w
def yE (P:Program) (b:Func) (r:TV) (s:AS):Prop:= ∃s',bG s s'/\pS P s' b.results.toList=some r/\noRefTV r=true
def MQ (P:Program) (b:Func) (r:TV) (Post:World->(Nat->Prop)->Exit->Act->World->Prop) (next:AS->Prop):Exit->AS->Prop
 | .normal,s=>next s
 | .ret,s=>yE P b r s/\Post=kw P b r
 |_,_=>False
theorem IU {v:Value} {wB:World} {OB n:Nat->Prop} {l:Rho} (q: ∀b,X b->b<w0.heap.size) (p:Keep (fun _=>False) w0 w) (m: ∀j,X j->n j) (u:noRefTV g=true) (h:g.rel l s.H (Xo n l s.H) w v):Cw w0 X g (.returned v) w:=by
 refine⟨v,rfl,fun _ _=>none,⟨p,fun x y o e=>?_,fun x y B C o A b c z _ _ h=>(by cases h),fun x y o b c _ h=>(by cases h),fun b t=>aaA (q b t) p.size,fun x y o e=>?_⟩,GP (fun j _ f=>?_) u h⟩
 ·unfold famH at e;split at e<;>simp at e
 ·unfold famH at e;split at e<;>simp at e
 rcases f with f|⟨_,_,_,_,_,f⟩
 ·exact .inl (m j f)
 cases f
theorem LN {l:Func} (h:yE P l g s) (o: ∀b,X b->b<w0.heap.size) (t:dx w0 (fun _=>False) X s a w) {e:Exit} (p:e= .normal\/e= .ret):kw P l g w0 X e a w:=by
 obtain⟨y,x,j,q⟩:=h;obtain⟨n,u,m,c,f⟩:=x _ _ _ _ _ t;have f:aV X m y a w:=f;obtain⟨v,z,A⟩:=fF c f j;have key:LeavesInM (FW none) 0 P l a.tmps (Cw w0 X g) a.defers .returning w:=by
  rw[n];exact⟨v,z,IU (wB:=w) (OB:=fun _=>False) o c.keep (fun _ h=>h) q A⟩
 rcases p with rfl|rfl
 ·exact key
 exact key
theorem Db {e:FuncId} {fn:Func} {args:List TV} (H:P.funcs[e]?=some fn) (G:fn.body=some f) (J:callable P e=true) (h:Co P f (kw P fn g) ⟨args++List.replicate (fn.ntmps-args.length) .undef,fun _=>[]⟩):CallC P e args ⟨[],g⟩:=by
 refine⟨J,fun X w vs D C m=>?_⟩;refine(callsIn_wide (n:=0)).1 (callsIn_of_wp_marks (F:=FW none) (n:=0) (R:=Cw w X g) H G trivial ((wpIn_wide (n:=0)).2 (h w X _ w D ?_)));refine⟨rfl,by simp[C],fun _ _=>none,⟨Keep.refl w,fun a g o q=>by simp at q,fun a g Q V o T b f S q=>by simp at q,fun a g o b f q=>by simp at q,D,fun a g o q=>by simp at q⟩,fun t x l=>?_⟩;have B: ∀b,b<w.heap.size->Xo X (fun _ _=>none) (fun _=>[]) b->X b:=fun b _ h=>by
  rcases h with h|⟨a,g,o,f,z,E⟩
  ·exact h
  cases E
 by_cases K:t<args.length
 ·rw[aaB K]at l;obtain⟨v,M,N⟩:=m t x l;refine⟨v,by rw[aa2 (by omega)];exact M,TV.rel_map N (fun y u A=>?_)⟩;cases y with
  |p y=>exact bM.weaken B A
  |sl a g L len=>obtain⟨o,z,_⟩:=A;simp at z
  |ptr a g i j=>obtain⟨o,_,_,z,_⟩:=A;simp at z
  |fn e a U=>exact(qA (fun _=>rfl) A).elim
  |junk=>trivial
 rw[aaE (by omega),aba]at l;split at l
 ·rename_i I;injection l with l
  subst l;refine⟨undef,?_,eJ⟩;rw[abn (by omega),acS,if_pos (by omega)]
 cases l
variable {fn:Func} {r:TV} {Post:World->(Nat->Prop)->Exit->Act->World->Prop}
theorem Ix {y:Code} (h:bf P f (MQ P fn r Post (Co P y Post)) s):Co P (.seq f y) Post s:=fun w0 X a w g l=>
 wp_seq (wp_mono (h _ _ _ _ _ l) fun e j w' ⟨s',b,c⟩=>by
  cases e with
  |normal=>exact b w0 X j w' g c
  |ret=>obtain⟨b,rfl⟩:=b;exact LN b g c (.inr rfl)
  |_=>exact b.elim)
theorem Am (A: ∀b,X b->b<w0.heap.size) (c:RP w0 ρ n s a w) {s':AS} {l:Act} {w':World} (B:RelR ρ [{target:= .collected n,args:= #[]}] w (ownB ρ) (fun j=>j<w0.heap.size\/j=n) s' l w') (F:yE P fn r s') {e:Exit} (E:e= .normal\/e= .ret):kw P fn r w0 X e l w':=by
 obtain⟨L,H,u,G⟩:=F;have C:n<w.heap.size:=(aaD.1 c.mark).1;have q:=B.2.2.1.keep;have x:w'.heap[n]?=some (.deferred (some [])):=by rw[q.block n C c.no.1];exact c.mark
 obtain⟨g,p⟩: ∃g,g=w'.putObj n (.deferred none):=⟨_,rfl⟩;have y:RelR ρ [{target:= .collected n,args:= #[]}] g (ownB ρ) (fun j=>j<w0.heap.size\/j=n) s' l g:=by
  subst p;exact B.turn (fun j t=>World.putObj_heap_other fun h=>t (.inr h)) (by simp)
 obtain⟨I,J,K,q4⟩:=y;obtain⟨_,_,z,m,f⟩:=H g (ownB ρ) _ {l with defers:=[]} g ⟨rfl,J,ρ,K,q4⟩;have f:aV _ z L {l with defers:=[]} g:=f;obtain⟨v,M,N⟩:=fF m f u;have o:Keep (fun _=>False) w0 g:=by
  subst p;refine⟨q.os.trans c.keep.os,q.tape.trans c.keep.tape,q.output.trans c.keep.output,?_,fun j t _=>?_⟩
  ·have:=c.keep.size;have:=q.size;simp;omega
  have:=c.no.2;have:=c.keep.size;rw[World.putObj_heap_other (by omega),q.block j (by omega) (fun h=>by have:=c.own j h;omega),c.keep.block j t (fun h=>h)]
 have key:LeavesInM (FW none) 0 P fn l.tmps (Cw w0 X r) l.defers .returning w':=by
  rw[I];refine⟨by simp,.inl ⟨n,g,rfl,by rw[p];exact run_takeDeferred x,v,M,IU (wB:=g) (OB:=ownB ρ) A o (fun j t=> .inl (A j t)) G N⟩⟩
 rcases E with rfl|rfl
 ·exact key
 exact key
theorem Qw {D:Nat} (j: ∀b,X b->b<w0.heap.size) (g:RP w0 ρ D s a w) (h:vE P none ρ [{target:= .collected D,args:= #[]}] f (fun e s'=>(e= .normal\/e= .ret)/\yE P fn r s') s):f.wp P (kw P fn r w0 X) a w:=
 (wpIn_wide (n:=0)).1 (wpIn_mono (h _ _ _ _ _ g.rel) fun _ _ _ ⟨_,⟨l,m⟩,o⟩=>Am j g o m l)
end
end
section
section
variable {P:Program} {w0 w w':World} {O X:Nat->Prop} {s s':AS} {a:Act} {ρ:Rho} {γ:Type} {L:f5 γ} {g g':γ}
theorem wE {H:OH} (f:Inv w0 O X H ρ w) {d r:Nat} {o o':OObj} {c:Nat} {cells:Array Value} (D:(H d)[r]?=some o) (F:ρ d r=some (n,c)) (hh:w.heap[n]?=some (.cells cells o.ty (0,0))) (aa:o'.ty=o.ty) (C:o'.es=o.es) (ac:o'.elems.length=o.elems.length) (Y: ∀e∈o'.elems,e.length=o'.es) (E:selfO d o') (hc: ∀(i:Nat) e (j:Nat) x,o'.elems[i]?=some e->e[j]?=some x-> ∃v:Value,cells[i*o.es+j]?=some v/\v.oneCell'=true/\x.rel ρ H (Xo X ρ H) w v):
  Inv w0 O X (ax H d ((H d).set r o')) ρ w/\ ∀x v,AV.rel ρ H (Xo X ρ H) w x v->AV.rel ρ (ax H d ((H d).set r o')) (Xo X ρ (ax H d ((H d).set r o'))) w x v:=by
 have m: ∀(x y:Nat) q,(ax H d ((H d).set r o') x)[y]?=some q->(x=d/\y=r/\q=o')\/((x≠d\/y≠r)/\(H x)[y]?=some q):=fun x y q h=>by
  by_cases I:x=d
  ·subst I;rw[aM,uR D]at h;split at h
   ·rename_i J;injection h with h;exact .inl ⟨rfl,J,h.symm⟩
   rename_i J;exact .inr ⟨.inr J,h⟩
  rw[aG I]at h;exact .inr ⟨.inl I,h⟩
 have Z: ∀(x y:Nat) q,(H x)[y]?=some q-> ∃K,(ax H d ((H d).set r o') x)[y]?=some K/\K.es=q.es/\q.elems.length<=K.elems.length/\ρ x y=ρ x y:=fun x y q h=>by
  by_cases I:x=d
  ·subst I;rw[aM,uR D];by_cases J:y=r
   ·subst J;rw[D]at h;injection h with h
    subst h;exact⟨o',if_pos rfl,C,by omega,rfl⟩
   exact⟨q,by rw[if_neg J];exact h,rfl,aar _,rfl⟩
  exact⟨q,by rw[aG I];exact h,rfl,aar _,rfl⟩
 have B: ∀(x y:Nat) q N R,(ax H d ((H d).set r o') x)[y]?=some q->ρ x y=some (N,R)->N<w.heap.size->Xo X ρ H N:=fun x y q N R h1 h2 _=>by
  rcases m x y q h1 with⟨rfl,rfl,_⟩|⟨_,A⟩
  ·exact .inr ⟨_,_,o,R,D,h2⟩
  exact .inr ⟨x,y,q,R,A,h2⟩
 have mono: ∀x v,AV.rel ρ H (Xo X ρ H) w x v->AV.rel ρ (ax H d ((H d).set r o')) (Xo X ρ (ax H d ((H d).set r o'))) w x v:=fun x v h=>
  ns (b:=n) (.inr ⟨d,r,o,c,D,F⟩) ⟨rfl,rfl,rfl,aar _,fun _ _ _=>rfl⟩ Z B h
 have p: ∀(x y:Nat) q,(ax H d ((H d).set r o') x)[y]?=some q-> ∃M,(H x)[y]?=some M:=fun x y q h=>by
  rcases m x y q h with⟨rfl,rfl,_⟩|⟨_,A⟩
  ·exact⟨o,D⟩
  exact⟨q,A⟩
 refine⟨⟨f.keep,fun x y q h=>?_,fun x y x' y' q K Q S c2 h h' T e2=>?_,fun x y q Q S h T=>?_,f.bar,fun x y q h=>?_⟩,mono⟩
 ·rcases m x y q h with⟨rfl,rfl,rfl⟩|⟨_,A⟩
  ·obtain⟨q1,q2,G⟩:=f.objs x y o D;rw[F]at G;obtain⟨l,t,p2,p3,p4,p5⟩:=G;rw[hh]at t;injection t with t
   injection t with t
   subst t;refine⟨Y,by omega,?_⟩;rw[F];refine⟨cells,by rw[aa];exact hh,by rw[C];exact p2,by omega,p4,fun i e j z W hz=>?_⟩;obtain⟨u,u1,u2,u3⟩:=hc i e j z W hz;exact⟨u,by rw[C];exact u1,u2,mono z u u3⟩
  obtain⟨q1,q2,G⟩:=f.objs x y q A;refine⟨q1,q2,?_⟩;cases hr:ρ x y with
  |none=>rw[hr]at G;exact G
  |some bc=>
   obtain⟨Q,S⟩:=bc;rw[hr]at G;obtain⟨l,t,p2,p3,p4,p5⟩:=G;exact⟨l,t,p2,p3,p4,fun i e j z W hz=>by obtain⟨u,u1,u2,u3⟩:=p5 i e j z W hz;exact⟨u,u1,u2,mono z u u3⟩⟩
 ·obtain⟨M,U⟩:=p x y q h;obtain⟨ab,V⟩:=p x' y' K h';exact f.inj x y x' y' M ab Q S c2 U V T e2
 ·obtain⟨M,U⟩:=p x y q h;exact f.old x y M Q S U T
 rcases m x y q h with⟨rfl,rfl,rfl⟩|⟨_,A⟩
 ·exact E
 exact f.self x y q A
def Wb (s:AS) (d c k:Nat) (e:TypeId) (b:List AV) (f:OObj) (len:Nat):AS:=
 ⟨(s.tmps.map (aP fun x _=>x==c)).set d (.one (.ptr d 0 0 0)),ax (ax s.H d [⟨e,b.length,[b.set k (.sl d 1 0 len)]⟩,f]) c []⟩
theorem L1 {o:Oper} {m:TypeId} {x:Operand} {d k len:Nat} {C:AS} (ho:o.op= .box m x) (ah:o.dst=some d) (hx:C.ev x=some (.agg e)) (hk:e[k]?=some (.sl n 0 0 len)) (hp: ∀(j:Nat) y,e[j]?=some y->j≠k->isPure y=true) (ad:C.H n=[c]) (a7: ∀m∈c.elems,∀x∈m,isPure x=true) (a4:n<=4999) (hd:C.H d=[]):AB P o (dx w0 O X C) (dx w0 O X (Wb C d n k m e c len)):=fun a w K Q hr hK=>by
 obtain⟨h1,a8,ρ,G,T⟩:=hr;have T:aV X ρ C a w:=T;have J:n≠d:=by rintro rfl;rw[hd]at ad;cases ad
 obtain⟨vs,hv,r1,r2⟩:=bz T x _ hx;have bb:k<e.length:=(aao.1 hk).1;refine jI (.inl rfl) ?_;have ac:(execOp a.eval o).run P w= .ok (.value (.pointer (some ⟨w.heap.size,0,none⟩))) (w.alloc (.cells vs m)):=by
  unfold execOp;rw[ho];simp only;have:=eh (P:=P) (JB (P:=P) (w:=w) m (a.eval x));rw[hv]at this⊢;exact this
 unfold Oper.wp;rw[ac];refine hK _ _ ?_;rw[ah]
 -- the box with the slice forgotten
 have E:Ext w (w.alloc (.cells vs m)):=⟨rfl,rfl,rfl,by simp,fun j B=>acJ _ _ _ B⟩;have M:(w.alloc (.cells vs m)).heap[w.heap.size]?=some (.cells vs m (0,0)):=World.alloc_heap_new _ _
 let f:Nat->Option (Nat×Nat):=fun r=>if r=0 then some (w.heap.size,1)else none
 have hf: ∀r b l,f r=some (b,l)->r=0/\b=w.heap.size/\l=1:=fun r b l h=>by
  show r=0/\_;have h:(if r=0 then some (w.heap.size,1)else none)=some (b,l):=h;split at h
  ·rename_i h0;injection h with h;injection h with h h';exact⟨h0,h.symm,h'.symm⟩
  cases h
 have I: ∀r b l,f r=some (b,l)->w.heap.size<=b:=fun r b l h=>by have:=hf r b l h;omega
 have V: ∀(j:Nat) y,(e.set k .junk)[j]?=some y->(j=k/\y= .junk)\/(j≠k/\e[j]?=some y):=fun j y h=>by
  rw[aa3]at h;split at h
  ·rename_i B;injection h with h;exact .inl ⟨B.symm,h.symm⟩
  rename_i B;exact .inr ⟨fun m=>B m.symm,h⟩
 obtain⟨a2,ba⟩:=Jj (F:=[⟨m,e.length,[e.set k .junk]⟩]) G T E hd f I (fun r r' b l c' h h'=>by have:=hf r b l h;have:=hf r' b c' h';omega) (fun r q hq=>by
  cases r with
  |succ r=>simp at hq
  |zero=>
   simp at hq;subst hq;intro e' A y D;simp at A;subst A;obtain⟨j,B⟩:=abd.1 D;rcases V j y B with⟨_,rfl⟩|⟨av,ae⟩
   ·trivial
   exact cf (hp j y ae av)) (fun r q hq=>by
  cases r with
  |succ r=>simp at hq
  |zero=>
   simp at hq;subst hq;refine⟨fun e' A=>by simp at A;subst A;simp,by show 0<e.length;omega,?_⟩;rw[newρ_eq,show f 0=some (w.heap.size,1)from rfl];refine⟨vs,M,by rw[r1,aeA],aar _,by decide,fun i e' j y A D=>?_⟩;cases i with
   |succ i=>simp at A
   |zero=>
    simp at A;subst A;rw[adP,aa6];rcases V j y D with⟨rfl,rfl⟩|⟨av,ae⟩
    ·obtain⟨u,u1,u2,_⟩:=r2 j _ hk;exact⟨u,u1,u2,trivial⟩
    obtain⟨u,u1,u2,u3⟩:=r2 j y ae;exact⟨u,u1,u2,jb G E hd I u3⟩)
 -- the row joins the box
 have al:ax C.H d [⟨m,e.length,[e.set k .junk]⟩] n=[c]:=by rw[aG J];exact ad
 obtain⟨a3,S,a9⟩:=zy a2 (a:=d) (b:=n) a4 J al a7;have a0:=Bb (s:=⟨C.tmps,_⟩) ba S;generalize a1:(fun x y=>if x=d/\y=(ax C.H d [⟨m,e.length,[e.set k .junk]⟩] d).length then newρ ρ d f n 0 else newρ ρ d f x y:Rho)=ρ2 at*
 generalize aa:ax (ax (ax C.H d [⟨m,e.length,[e.set k .junk]⟩]) d (ax C.H d [⟨m,e.length,[e.set k .junk]⟩] d++[c])) n []=Z at*
 have U:Z d=[⟨m,e.length,[e.set k .junk]⟩,c]:=by rw[<- aa,aG (acE J),aM,aM];rfl
 have R:ρ2 d 0=some (w.heap.size,1):=by
  rw[<- a1];simp only[aM,ack];rw[if_neg (by omega),newρ_eq];rfl
 -- what the cell holds
 obtain⟨u,u1,u2,u3⟩:=r2 k _ hk;have ab:AV.rel ρ2 Z (Xo X ρ2 Z) (w.alloc (.cells vs m)) (.sl d 1 0 len) u:=by
  have:=a9 0 len u (jb G E hd I u3);rw[aM]at this;exact this
 obtain⟨Y,ag⟩:=wE a3 (d:=d) (r:=0) (o:=⟨m,e.length,[e.set k .junk]⟩) (o':=⟨m,e.length,[e.set k (.sl d 1 0 len)]⟩) (by rw[U];rfl) R M rfl rfl rfl (fun e' A=>by simp at A;subst A;simp) (fun e' A y D=>by
   simp at A;subst A;obtain⟨j,B⟩:=abd.1 D;rw[aa3]at B;split at B
   ·injection B with B;subst B;rfl
   ·rename_i a5;exact cf (hp j y B (fun m=>a5 m.symm))) (fun i e' j y A D=>by
   cases i with
   |succ i=>simp at A
   |zero=>
    simp at A;subst A;rw[adP,aa6];rw[aa3]at D;split at D
    ·rename_i B;subst B;injection D with D
     subst D;exact⟨u,u1,u2,ab⟩
    rename_i B;obtain⟨u',q1,q2,q3⟩:=r2 j y D;refine⟨u',q1,q2,?_⟩;have a6:=hp j y D (fun m=>B m.symm);have:=S y u' (jb G E hd I q3);cases y with
    |p y=>exact this
    |_=>cases a6)
 have W:aV X ρ2 ⟨C.tmps.map (aP fun x _=>x==n),ax Z d ((Z d).set 0 ⟨m,e.length,[e.set k (.sl d 1 0 len)]⟩)⟩ a (w.alloc (.cells vs m)):=fun t y D=>by
  obtain⟨v,v1,v2⟩:=a0 t y D;exact⟨v,v1,TV.rel_map v2 ag⟩
 have ap:ax Z d ((Z d).set 0 ⟨m,e.length,[e.set k (.sl d 1 0 len)]⟩)=ax (ax C.H d [⟨m,e.length,[e.set k (.sl d 1 0 len)]⟩,c]) n []:=by
  funext z;by_cases N:z=d
  ·subst N;rw[aM,U,aG (acE J),aM];rfl
  rw[aG N];by_cases af:z=n
  ·subst af;rw[<- aa,aM,aM]
  rw[<- aa,aG af,aG N,aG N,aG af,aG N]
 rw[ap]at Y W;have:=eD (s:=⟨C.tmps.map (aP fun x _=>x==n),ax (ax C.H d [⟨m,e.length,[e.set k (.sl d 1 0 len)]⟩,c]) n []⟩) (d:=some d) (t:= .one (.ptr d 0 0 0)) (v:= .pointer (some ⟨w.heap.size,0,none⟩)) h1 (by simpa using a8) Y W ⟨⟨m,e.length,[e.set k (.sl d 1 0 len)]⟩,w.heap.size,1,by
  show(ax (ax C.H d _) n [] d)[0]?=_;rw[aG (acE J),aM];rfl,R,by simp,by simp⟩
 exact this
/-! The forms that the macros use. -/
variable {Q:Exit->AS->γ->Prop}
theorem Fz (m:P.follows .mixedOrders=true) {f:FuncId} {args:List TV} {F o:List OObj} {r:TV} (e:qa P L f args F o g g' r) (j:Nat) (c:List (ao P)) (p:List Nat) {id:Nat} (l:j<=4999) (t:Gk b=true) (h: ∀K:AS->Prop,(∀n,(Cu b (b.size-1) f args j F n/\Q .normal (X0 b (b.size-1) r j o n) g')->K n)->aS P (c.map ao.a) p (aJ b (b.toList.take (b.size-1)) 0) (some s) K):r9 P L (.region id b true) Q s g:=
 Kl m e j c p l t (h _ fun _ q=>q)
theorem CP (f:P.follows .mixedOrders=true) {args:List Value} {c:Bool} (p:sj P L n args g g' c) (e:List (ao P)) (m:List Nat) {id:Nat} (o:Gk b=true) (h: ∀K:AS->Prop,(∀j,(Yd b (b.size-1) j=some (n,args)/\Q .normal (yS b (b.size-1) c j) g')->K j)->aS P (e.map ao.a) m (aJ b (b.toList.take (b.size-1)) 0) (some s) K):r9 P L (.region id b true) Q s g:=
 FA f p e m o (h _ fun _ q=>q)
variable {QA:Exit->AS->Prop}
structure Zw (ops:Array Oper) (m d fa k:Nat) (e:TypeId) (cs:List AV) (ob:OObj) (len:Nat) (s:AS):Prop where
 x: ∃o x,ops[m]?=some o/\o.guard=none/\o.op= .box e x/\o.dst=some d/\s.ev x=some (.agg cs)
 k:cs[k]?=some (.sl fa 0 0 len)
 fam:s.H fa=[ob]
 new:s.H d=[]
theorem Kj (m d r k:Nat) {e:TypeId} {cs:List AV} {ob:OObj} {len:Nat} (c:List (ao P)) (p:List Nat) {id:Nat} (H: ∀(j:Nat) y,cs[j]?=some y->j≠k->isPure y=true) (v: ∀e∈ob.elems,∀x∈e,isPure x=true) (t:r<=4999) (F:m<b.toList.length) (h: ∀K:AS->Prop,(∀q,(Zw b m d r k e cs ob len q/\ ∀K:AS->Prop,(∀s',QA .normal s'->K s')->aS P (c.map ao.a) p (aJ b (b.toList.drop (m+1)) (m+1)) (some (Wb q d r k e cs ob len)) K)->K q)->aS P (c.map ao.a) p (aJ b (b.toList.take m) 0) (some s) K):bf P (.region id b false) QA s:=fun w0 O X a w M=>by
 obtain⟨q,z,⟨⟨o,x,G,D,u,f,I⟩,E,l,n⟩,A⟩:=aR P (c.map ao.a) p b _ 0 s _ (h _ fun _ h=>h);obtain⟨s',B,C⟩:=aR P (c.map ao.a) p b _ (m+1) _ _ (A _ fun _ h=>h);exact rO (ks:=[]) (R1:=dx w0 O X) (R2:=dx w0 O X) DV.k DV.k m c p rfl F z ⟨o,G,D,L1 u f I E H l v t n⟩ B M fun N w' J=>⟨s',C,J⟩
end
end
theorem io (a r i j:Nat) (ty:TypeId) (es:Nat) (al:0<es) (M:(s.H a)[r]?=some c) (T:c.elems[i]?=some e) (hj:e[j]?=some (.raw (.slice none 0 0))):
  bG s ⟨s.tmps,ax s.H a ((s.H a).set r {c with elems:=c.elems.set i (e.set j (.sl a (s.H a).length 0 0))}++[⟨ty,es,[]⟩])⟩:=by
 rintro w0 O X ag w ⟨h1,a0,F,l,Z⟩;have Z:aV X F s ag w:=Z;generalize hn:(s.H a).length=n;have a2:r<n:=by rw[<- hn];exact(aao.1 M).1
 generalize G:({c with elems:=c.elems.set i (e.set j (.sl a n 0 0))}:OObj)=o';have J:o'.es=c.es:=by rw[<- G]
 have Y:o'.elems.length=c.elems.length:=by rw[<- G];simp
 have ae:o'.ty=c.ty:=by rw[<- G]
 generalize aa:ax s.H a ((s.H a).set r o'++[⟨ty,es,[]⟩])=K
 let C:Rho:=fun x y=>if x=a/\y=n then none else F x y
 have W:K a=(s.H a).set r o'++[⟨ty,es,[]⟩]:=by rw[<- aa,aM]
 have ab: ∀x,x≠a->K x=s.H x:=fun x h=>by rw[<- aa,aG h]
 have ac: ∀(x y:Nat) q,(s.H x)[y]?=some q-> ∃Q,(K x)[y]?=some Q/\Q.es=q.es/\Q.elems.length=q.elems.length/\C x y=F x y:=fun x y q h=>by
  by_cases N:x=a
  ·subst N;have hy:y<n:=by rw[<- hn];exact(aao.1 h).1
   have L:C x y=F x y:=if_neg (by omega);rw[W,aaB (by simp;omega),uR M];by_cases P:y=r
   ·subst P;rw[M]at h;injection h with h
    subst h;exact⟨o',if_pos rfl,J,Y,L⟩
   exact⟨q,by rw[if_neg P];exact h,rfl,rfl,L⟩
  exact⟨q,by rw[ab x N];exact h,rfl,rfl,if_neg fun h=>N h.1⟩
 have E: ∀(x y:Nat) q,(K x)[y]?=some q->(x=a/\y=r/\q=o'/\C x y=F x y)\/(x=a/\y=n/\q=⟨ty,es,[]⟩/\C x y=none)\/((s.H x)[y]?=some q/\C x y=F x y):=fun x y q h=>by
  by_cases N:x=a
  ·subst N;rw[W]at h;by_cases hy:y<n
   ·rw[aaB (by simp;omega),uR M]at h;split at h
    ·rename_i P;injection h with h;exact .inl ⟨rfl,P,h.symm,if_neg (by omega)⟩
    exact .inr (.inr ⟨h,if_neg (by omega)⟩)
   rw[aaE (by simp;omega)]at h;have af:y-((s.H x).set r o').length=0:=by
    have:=(aao.1 h).1;simp at this⊢;omega
   rw[af]at h;injection h with h
   simp at af;exact .inr (.inl ⟨rfl,by omega,h.symm,if_pos ⟨rfl,by omega⟩⟩)
  rw[ab x N]at h;exact .inr (.inr ⟨h,if_neg fun h=>N h.1⟩)
 have ah: ∀f,Xo X C K f->Xo X F s.H f:=fun f hc=>by
  rcases hc with hc|⟨x,y,q,m,g1,V⟩
  ·exact .inl hc
  rcases E x y q g1 with⟨rfl,rfl,rfl,g⟩|⟨_,_,_,g⟩|⟨I,g⟩
  ·exact .inr ⟨_,_,c,m,M,by rw[<- g];exact V⟩
  ·rw[g]at V;cases V
  exact .inr ⟨x,y,q,m,I,by rw[<- g];exact V⟩
 have mono: ∀x v,AV.rel F s.H (Xo X F s.H) w x v->AV.rel C K (Xo X C K) w x v:=qr fun x v hn h=>by
  cases x with
  |fn=>cases hn
  |p x=>exact bM.weaken (fun f _ hc=>ah f hc) h
  |junk=>trivial
  |sl x y a3 len=>
   obtain⟨q,g1,V,g⟩:=h;obtain⟨Q,k1,k2,k3,k4⟩:=ac x y q g1;exact⟨Q,k1,by omega,by rw[k4,k2];exact g⟩
  |ptr x y i j=>
   obtain⟨q,b,f,g1,V,g,I⟩:=h;obtain⟨Q,k1,k2,k3,k4⟩:=ac x y q g1;exact⟨Q,b,f,k1,by rw[k4];exact V,by omega,by rw[k2];exact I⟩
 refine⟨h1,a0,C,⟨l.keep,fun x y q h=>?_,fun x y x' y' q Q b c1 c2 h h' L e2=>?_,fun x y q b f h L=>?_,l.bar,fun x y q h=>?_⟩,fun t x N=>?_⟩
 ·rcases E x y q h with⟨rfl,rfl,rfl,g⟩|⟨rfl,rfl,rfl,g⟩|⟨I,g⟩
  ·obtain⟨q1,q2,R⟩:=l.objs x y c M;refine⟨fun U A=>?_,by omega,?_⟩
   ·rw[<- G]at A⊢;rcases abt A with A|rfl
    ·exact q1 U A
    rw[List.length_set];exact q1 e (aai T)
   rw[g];cases hr:F x y with
   |none=>
    rw[hr]at R;rw[R]at T;simp at T
   |some bc=>
    obtain⟨b,f⟩:=bc;rw[hr]at R;obtain⟨cells,p1,p2,p3,p4,p5⟩:=R;refine⟨cells,by rw[ae];exact p1,by rw[J];exact p2,by omega,p4,fun i' U j' z B D=>?_⟩;rw[J];rw[<- G]at B;simp only at B;rw[aa3]at B;split at B
    ·rename_i ap;subst ap;split at B
     ·injection B with B
      subst B;rw[aa3]at D;split at D
      ·rename_i av;subst av;split at D
       ·injection D with D
        subst D;obtain⟨u,u1,u2,u3⟩:=p5 i e j _ T hj;refine⟨u,u1,u2,⟨ty,es,[]⟩,?_,by simp,.inl ⟨if_pos ⟨rfl,rfl⟩,?_,rfl,rfl⟩⟩
        ·show(K x)[n]?=_;rw[W,aaE (by simp;omega)];simp[hn]
        exact(aX (ρ:=F) (H:=s.H) u3).1
       cases D
      obtain⟨u,u1,u2,u3⟩:=p5 i e j' z T D;exact⟨u,u1,u2,mono z u u3⟩
     cases B
    obtain⟨u,u1,u2,u3⟩:=p5 i' U j' z B D;exact⟨u,u1,u2,mono z u u3⟩
  ·exact⟨fun U A=>(by cases A),al,(by rw[g])⟩
  obtain⟨q1,q2,R⟩:=l.objs x y q I;refine⟨q1,q2,?_⟩;rw[g];cases hr:F x y with
  |none=>rw[hr]at R;exact R
  |some bc=>
   obtain⟨b,f⟩:=bc;rw[hr]at R;obtain⟨cells,p1,p2,p3,p4,p5⟩:=R;exact⟨cells,p1,p2,p3,p4,fun i e j z T hz=>by obtain⟨u,u1,u2,u3⟩:=p5 i e j z T hz;exact⟨u,u1,u2,mono z u u3⟩⟩
 ·have S: ∀(x y:Nat) q b f,(K x)[y]?=some q->C x y=some (b,f)-> ∃q0,(s.H x)[y]?=some q0/\F x y=some (b,f):=fun x y q b f h e=>by
   rcases E x y q h with⟨rfl,rfl,rfl,g⟩|⟨_,_,_,g⟩|⟨I,g⟩
   ·exact⟨c,M,by rw[<- g];exact e⟩
   ·rw[g]at e;cases e
   exact⟨q,I,by rw[<- g];exact e⟩
  obtain⟨q0,k1,k2⟩:=S x y q b c1 h L;obtain⟨a1,k3,k4⟩:=S x' y' Q b c2 h' e2;exact l.inj x y x' y' q0 a1 b c1 c2 k1 k3 k2 k4
 ·rcases E x y q h with⟨rfl,rfl,rfl,g⟩|⟨_,_,_,g⟩|⟨I,g⟩
  ·exact l.old _ _ c b f M (by rw[<- g];exact L)
  ·rw[g]at L;cases L
  exact l.old x y q b f I (by rw[<- g];exact L)
 ·rcases E x y q h with⟨rfl,rfl,rfl,g⟩|⟨rfl,rfl,rfl,g⟩|⟨I,g⟩
  ·have ad:=l.self x y c M;rw[<- G];intro U A z hz;rcases abt A with A|rfl
   ·exact ad U A z hz
   rcases abt hz with hz|rfl
   ·exact ad e (aai T) z hz
   rfl
  ·exact fun U A=>by cases A
  exact l.self x y q I
 obtain⟨v,v1,v2⟩:=Z t x N;exact⟨v,v1,TV.rel_map v2 mono⟩
end Go.Proofs.YtalmoejhjceflaaGreat
