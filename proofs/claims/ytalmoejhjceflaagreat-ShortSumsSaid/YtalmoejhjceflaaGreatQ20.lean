/-
  Part 21 of a proof (walks and plain facts).
-/
import Derived.Test.YtalmoejhjceflaaGreatQ19
set_option linter.all false
set_option maxRecDepth 100000
set_option maxHeartbeats 64000000
namespace Go.Proofs.YtalmoejhjceflaaGreat
open Go.RowKit
variable {b:Nat->Prop} {n:Nat} {c:Value} {e:OH} {f:Code} {g:TV}
section
def ownB (b:Rho):Nat->Prop:=fun j=> ∃(x r c:Nat),b x r=some (j,c)
structure Ds where
 l:Nat
 D:Nat
 fn:FuncId
 tm:Array Value
 ps:Array Tmp
 asg:Code
 bd:Code
def Ds.loop (R:Ds) (c:LoopState) (b:Option Code):Loop:={state:=c,pending:=b,fn:=R.fn,tmps:=R.tm,params:=R.ps,assign:=R.asg,body:=R.bd,defers:=R.D}
def Ds.obj (R:Ds) (b:Option Code):Obj:= .loop (R.loop (if b.isNone then .ready else .done) b)
def uy:TV->Bool
 | .one x=>iU x
 |_=>false
def AU (H:OH):Prop:= ∀a,∀o∈H a,∀e∈o.elems,∀x∈e,iU x=true
section
variable {P:Program} {w0 w w':World} {O X:Nat->Prop} {s s':AS} {a:Act} {ρ:Rho} {ds:List Deferred} {γ:Type}
theorem AW {B:OH} {Y:Nat->Prop} {x:AV} (A:iU x=true) (F: ∀(x r:Nat) (o:OObj),(e x)[r]?=some o-> ∃q:OObj,(B x)[r]?=some q/\q.es=o.es/\q.elems.length=o.elems.length) (h:AV.rel ρ e Y w x c):AV.rel ρ B b w' x c:=by
 have key: ∀x c,G7 x=true->iU x=true->AV.rel ρ e Y w x c->AV.rel ρ B b w' x c:=fun x c R A h=>by
  cases x with
  |fn=>cases R
  |p x=>
   cases x with
   |raw u=>
    obtain⟨rfl,t⟩:=aZ (ρ:=ρ) (H:=e) h;exact bS.raw _ t
   |sl D=>
    cases D with
    |nil=>
     have h:bS Y w (.sl []) c:=h;generalize y:PV.sl []=x at h;cases h with
     |raw c h=>cases y
     |ptr l z J f L M N S=>cases y
     |nil a m=>exact bS.nil _ _
     |sl l z V cap D f L M Q G Z N S=>
      injection y with y
      subst y;exact bS.nil _ _
    |cons n D=>cases A
   |ptr J=>cases A
  |sl l r z len=>
   obtain⟨o,t,E,K⟩:=h;obtain⟨q,C,T,U⟩:=F l r o t;exact⟨q,C,by omega,by grind⟩
  |ptr l r i j=>
   obtain⟨o,I,m,t,E,K,W⟩:=h;obtain⟨q,C,T,U⟩:=F l r o t;exact⟨q,I,m,C,E,by omega,by grind⟩
  |junk=>trivial
 exact kj (c:=fun x=>iU x=true) (g:=id) (fun _ _ _ _ _ _ _=>rfl) un key x c A h
theorem EN {j:OH} {m:Nat->Prop} (l:uy g=true) (n: ∀(x r:Nat) (o:OObj),(e x)[r]?=some o-> ∃f:OObj,(j x)[r]?=some f/\f.es=o.es/\f.elems.length=o.elems.length) (h:g.rel ρ e b w c):g.rel ρ j m w' c:=by
 cases g with
 |one x=>exact AW l n h
 |_=>cases l
theorem sZ (H:OH): ∀(x r:Nat) (o:OObj),(H x)[r]?=some o-> ∃b:OObj,(H x)[r]?=some b/\b.es=o.es/\b.elems.length=o.elems.length:=fun _ _ o h=>⟨o,h,rfl,rfl⟩
theorem GI (y:AU e) (h:Inv w0 O X e ρ w) (k: ∀j,ownB ρ j->w'.heap[j]?=w.heap[j]?) (g:Nat->Prop) (A: ∀j,g j->j<w'.heap.size) (m: ∀j,ownB ρ j-> ¬g j):Inv w' (ownB ρ) g e ρ w':=by
 refine⟨Keep.refl _,fun x r o n=>?_,h.inj,fun x r o b c n l=>⟨.inr ⟨x,r,c,l⟩,m b ⟨x,r,c,l⟩⟩,A,h.self⟩;obtain⟨G,I,t⟩:=h.objs x r o n;refine⟨G,I,?_⟩;cases l:ρ x r with
 |none=>grind
 |some v=>
  obtain⟨b,c⟩:=v;rw[l]at t;obtain⟨cells,B,C,D,E,F⟩:=t;refine⟨cells,by rw[k b ⟨x,r,c,l⟩];exact B,C,D,E,fun i f j z p q=>?_⟩;obtain⟨u,J,K,L⟩:=F i f j z p q;exact⟨u,J,K,AW (y x o (acd n) f (acd p) z (acd q)) (sZ e) L⟩
theorem RelR.turn (h:RelR ρ ds w0 O X s a w) (k: ∀j,¬X j->w'.heap[j]?=w.heap[j]?) (l:w.heap.size<=w'.heap.size):RelR ρ ds w' (ownB ρ) X s a w':=by
 obtain⟨A,B,f,q⟩:=h;have mono: ∀x v,AV.rel ρ s.H (Xo X ρ s.H) w x v->AV.rel ρ s.H (Xo X ρ s.H) w' x v:=tM fun x v F h=>by
  cases x with
  |fn=>cases F
  |p x=>exact bS.later (fun _ _ h=>h) l (fun p v S n D=>by rw[<- D];exact gE (k p.block fun C=>n (.inl C))) h
  |sl x r I len=>exact h
  |ptr x r i j=>exact h
  |junk=>trivial
 refine⟨A,B,⟨Keep.refl _,fun x r o m=>?_,f.inj,fun x r o b c m g=>⟨.inr ⟨x,r,c,g⟩,(f.old x r o b c m g).2⟩,fun j E=>acp (f.bar j E) l,f.self⟩,fun t x G=>?_⟩
 ·obtain⟨N,Q,u⟩:=f.objs x r o m;refine⟨N,Q,?_⟩;cases g:ρ x r with
  |none=>grind
  |some y=>
   obtain⟨b,c⟩:=y;rw[g]at u;obtain⟨cells,J,K,L,M,U⟩:=u;refine⟨cells,by rw[k b (f.old x r o b c m g).2];exact J,K,L,M,fun i e j z R T=>?_⟩;grind
 obtain⟨v,V,W⟩:=q t x G;grind [TV.rel_map]
def IG (R:Ds) (ρ:Rho) (e:List TV) (H:γ->OH) (b:γ->Option Code) (z: ∀x r c,ρ x r≠some (R.l,c)) (p: ∀g,AU (H g)) (C:e.all uy=true):jd γ where
 B:=fun j=>j=R.l\/ownB ρ j
 G:=fun g _ w=>w.heap[R.l]?=some (R.obj (b g))/\RelR ρ [] w (ownB ρ) (fun j=>j=R.l) ⟨e,H g⟩ ⟨R.tm,[]⟩ w
 sp:=fun g _ w w' k _ ⟨y,h,m,n,o⟩=>by
  have q:w'.heap[R.l]?=some (R.obj (b g)):=by grind
  refine⟨q,h,m,GI (p g) n (fun j f=>k j (.inr f)) _ (fun j f=>by grind) (fun j ⟨x,r,c,A⟩ f=>by grind),fun t x u=>?_⟩;obtain⟨v,D,E⟩:=o t x u;grind [EN]
variable {R:Ds} {tml:List TV} {H:γ->OH} {jump:γ->Option Code} {hl: ∀x r c,ρ x r≠some (R.l,c)} {hH: ∀g,AU (H g)} {ht:tml.all uy=true}
theorem Ll {g u:γ} {b:Bool} {D:Nat} {m p:Value} (ab:R.ps= #[n,D]) (hv1:m.oneCell'=true) (hv2:p.oneCell'=true) (A:jump g=none) (ad: ∀(x r:Nat) (o:OObj),(H g x)[r]?=some o-> ∃W:OObj,(H u x)[r]?=some W/\W.es=o.es/\W.elems.length=o.elems.length) (hw:yU P (some R.l) ρ [] R.asg (fun e s1=>e= .normal/\yU P (some R.l) ρ [] R.bd (fun e s2=>s2.H=H u/\((e= .normal/\b=true/\jump u=none)\/(e= .ret/\b=false/\jump u=some .ret))) s1) ((AS.put ⟨tml,H g⟩ (some n) (.raw m)).put (some D) (.raw p))):
  vT P (IG R ρ tml H jump hl hH ht) R.l [m,p] g u b:=fun Y w ⟨M,Q⟩=>by
 have U:R.l<w.heap.size:=(acB.1 M).1;have J: ¬ownB ρ R.l:=fun⟨x,r,c,hr⟩=>hl x r c hr
 rw[A]at M;refine⟨R.fn,(R.tm.setIfInBounds n m).setIfInBounds D p,R.asg,R.bd,?_,?_⟩
 ·have:=run_yield (P:=P) (args:= #[m,p]) M (by show(#[m,p]:Array Value).size=R.ps.size;grind);rw[show([m,p]:List Value).toArray= #[m,p]from rfl,this];show Result.ok (Next.round R.l R.fn ((R.ps.zip #[m,p]).foldl _ R.tm) R.asg R.bd) w=_;simp_all
 refine roundIn_of_wpIn (F:=FW none) trivial ?_;have r0:RelR ρ [] w (ownB ρ) (fun j=>j=R.l) ((AS.put ⟨tml,H g⟩ (some n) (.raw m)).put (some D) (.raw p)) {tmps:=(R.tm.setIfInBounds n m).setIfInBounds D p,defers:=[]} w:=
  (Q.put (d:=some n) (v:=m) (b7 hv1)).put (d:=some D) (v:=p) (b7 hv2)
 refine wpIn_mono (hw _ _ _ _ _ r0) fun e a1 w1 ⟨s1,⟨S,hb⟩,Z⟩=>?_
 subst S;have k1:w1.heap[R.l]?=some (R.obj none):=by rw[Z.2.2.1.keep.block _ U J];exact M
 refine⟨_,run_beginRound k1 rfl,?_⟩;generalize C:w1.putObj R.l _=w2;have T:R.l<w1.heap.size:=(acB.1 k1).1;have r2:RelR ρ [] w2 (ownB ρ) (fun j=>j=R.l) s1 a1 w2:=by
  subst C;exact Z.turn (fun j A=>World.putObj_heap_other A) (by simp)
 have k2:w2.heap[R.l]?=some (.loop (R.loop .busy none)):=by subst C;exact World.putObj_heap_same T
 refine wpIn_mono (hb _ _ _ _ _ r2) fun e a3 L ⟨s3,⟨ac,S⟩,r3⟩=>?_
 have V:L.heap[R.l]?=some (.loop (R.loop .busy none)):=by
  rw[r3.2.2.1.keep.block _ (by grind) J];exact k2
 have aa:R.l<L.heap.size:=(acB.1 V).1;have N: ∀z,z=L.putObj R.l (R.obj (jump u))->Keep (fun j=>j=R.l\/ownB ρ j) w z/\z.heap[R.l]?=some (R.obj (jump u))/\RelR ρ [] z (ownB ρ) (fun j=>j=R.l) ⟨tml,H u⟩ ⟨R.tm,[]⟩ z:=fun z K=>by
  have r4:RelR ρ [] z (ownB ρ) (fun j=>j=R.l) s3 a3 z:=by
   subst K;exact r3.turn (fun j A=>World.putObj_heap_other A) (by simp)
  have f:=Z.2.2.1.keep;have q:=r3.2.2.1.keep;refine⟨?_,by grind [World.putObj_heap_same],rfl,Q.2.1,by have:=r4.2.2.1;grind,fun t x hx=>?_⟩
  ·subst K C;refine⟨q.os.trans f.os,q.tape.trans f.tape,q.output.trans f.output,?_,fun j A hn=>?_⟩
   ·have:=f.size;have:=q.size;simp at this⊢;omega
   have E:j≠R.l:=fun h=>hn (.inl h)
   have I: ¬ownB ρ j:=fun h=>hn (.inr h)
   rw[World.putObj_heap_other E,q.block j (by have:=f.size;simp;omega) I,World.putObj_heap_other E,f.block j A I]
  obtain⟨v,u1,u2⟩:=Q.2.2.2 t x hx;grind [EN]
 have y: ∀o,o=R.obj (jump u)->Keep (fun j=>j=R.l\/ownB ρ j) w (L.putObj R.l o)/\(IG R ρ tml H jump hl hH ht).G u Y (L.putObj R.l o):=fun o ho=>by subst ho;exact N _ rfl
 rcases S with⟨rfl,rfl,B⟩|⟨rfl,rfl,B⟩
 ·refine⟨_,_,run_endRound none V,rfl,?_⟩;exact y _ (by rw[B];rfl)
 refine⟨_,_,run_endRound (some .ret) V,rfl,?_⟩;exact y _ (by rw[B];rfl)
end
end
section
theorem EK {P:Program} {f:FuncId} (g:callable P f=true) (args:Array Value) (w:World):(callFunc f args).run P w= .ok (.enter f args) w:=by
 obtain⟨h,b,c,e⟩:=mL g;unfold callFunc;simp only[acv];show Result.andThen (.ok P w) _=_;rw[acj,b];simp only[e,c,ada,if_false]
 simp
def y7 (b:Nat):AV->Bool
 | .sl x _ _ _=>x !=b
 | .ptr x _ _ _=>x !=b
 | .fn _ x _=>x !=b
 |_=>true
def QO (b:Nat):TV->Bool
 | .one x=>y7 b x
 |_=>false
section
variable {P:Program} {w0 w w':World} {O X:Nat->Prop} {s s':AS} {a:Act} {ρ:Rho} {γ:Type}
open Classical in
noncomputable def oZ (ρ:Rho) (H:OH) (b:Nat):Rho:=fun x r=>if x=b\/(H x)[r]?=none then none else ρ x r
theorem C2 {x r:Nat} {c:Nat×Nat} (h:oZ ρ e n x r=some c):x≠n/\ ∃o,(e x)[r]?=some o/\ρ x r=some c:=by
 unfold oZ at h;split at h
 ·cases h
 rename_i f;have g:(e x)[r]?≠none:=fun b=>f (.inr b)
 obtain⟨o,j⟩:=Option.ne_none_iff_exists'.1 g;exact⟨fun b=>f (.inl b),o,j,h⟩
theorem rc {x r:Nat} {o:OObj} (c:x≠n) (b:(e x)[r]?=some o):oZ ρ e n x r=ρ x r:=by
 unfold oZ;rw[if_neg];rintro(h|h)
 ·exact c h
 rw[b]at h;cases h
structure U6 (w0:World) (ρ:Rho) (D:Nat) (s:AS) (a:Act) (w:World):Prop where
 rel:RelR ρ [{target:= .collected D,args:= #[]}] w (ownB ρ) (fun j=>j<w0.heap.size\/j=D) s a w
 keep:Keep (fun _=>False) w0 w
 own: ∀j,ownB ρ j->w0.heap.size<=j
 mark:w.heap[D]?=some (.deferred (some []))
 no: ¬ownB ρ D/\w0.heap.size<=D
theorem UD {gs:Tmp} {ps:Array Tmp} {asg bd:Code} {f:FuncId} {fs:Array Value} {targs:List TV} {fa:Nat} {F F':List OObj} {tml:List TV} {H:γ->OH} {jump:γ->Option Code} {hH: ∀g,AU (H g)} {ht:tml.all uy=true} {g0 g1:γ} {r:TV} {Q:Exit->Act->World->Prop}
  (hr:dq w0 (fun _=>False) X s a w) (hX: ∀j,X j->j<w0.heap.size) (hg:a.tmps[gs]?=some (.func (.func f) fs #[])) (hfs:fs.size=targs.length) (hts: ∀(j:Nat) t,targs[j]?=some t-> ∃v:Value,fs[j]?=some v/\ ∃y,s.ev y=some (renTV fa t)/\a.eval y=v)
  (hfa:fa<=4999) (hF:s.H fa=F.map (renO fa)) (hH0:H g0=aF s.H fa []) (hj0:jump g0=none) (htl:tml.length=s.tmps.length/\ ∀(t:Nat) x,tml[t]?=some x->x= .one .junk\/s.tmps[t]?=some x) (haw:tml.all (QO fa)=true)
  (hcon: ∀(R:Ds) (ρ:Rho) (hl: ∀x r c,ρ x r≠some (R.l,c)),R.ps=ps->R.asg=asg->R.bd=bd->tg P (IG R ρ tml H jump hl hH ht) f (targs++[.raw (.func (.yield R.l) #[] #[])]) F F' g0 g1 r)
  (hQ: ∀(ρ:Rho) (D:Nat) (w3:World),U6 w0 ρ D ⟨tml,H g1⟩ {a with defers:=[{target:= .collected D,args:= #[]}]} w3->match jump g1 with
   |none=>Q .normal {a with defers:=[{target:= .collected D,args:= #[]}]} w3
   |some c=>c.wp P Q {a with defers:=[{target:= .collected D,args:= #[]}]} w3):(Code.rangeFunc (.tmp gs) ps asg bd).wp P Q a w:=by
 obtain⟨h1,hsz,ρ,hinv,htm⟩:=hr;have htm:bo X ρ s a w:=htm;refine(wpIn_wide (n:=0)).1 (wpIn_rangeFunc (F:=FW none) fun fn _=>?_)
 let R:Ds:=⟨w.heap.size+1,w.heap.size,fn,a.tmps,ps,asg,bd⟩
 obtain⟨W1,hW1⟩: ∃W1,(w.alloc (.deferred (some []))).alloc (R.obj none)=W1:=⟨_,rfl⟩;have hsz1:W1.heap.size=w.heap.size+2:=by rw[<- hW1];simp
 have hL1:W1.heap[w.heap.size+1]?=some (R.obj none):=by
  rw[<- hW1];have:=World.alloc_heap_new (w.alloc (.deferred (some []))) (R.obj none);rwa[World.size_alloc]at this
 have hK1:W1.heap[w.heap.size]?=some (.deferred (some [])):=by
  rw[<- hW1];exact(ae2 _ _ _ (by simp)).trans (World.alloc_heap_new w _)
 have hold: ∀j,j<w.heap.size->W1.heap[j]?=w.heap[j]?:=fun j hj=>by
  rw[<- hW1];exact(ae2 _ _ _ (by simp;omega)).trans (ae2 _ _ _ hj)
 have hge:a.eval (.tmp gs)= .func (.func f) fs #[]:=by
  show a.tmps.getD gs undef=_;rw[aeV,hg];rfl
 have hls: ∀(x r:Nat) (o:OObj) (b c:Nat),(s.H x)[r]?=some o->ρ x r=some (b,c)->b<w.heap.size:=fun x r o b c g1 g2=>bz (hinv.objs x r o g1) g2
 have hnl: ∀x r c,oZ ρ s.H fa x r≠some (R.l,c):=fun x r c h=>by
  obtain⟨_,o,h2,h3⟩:=C2 h;have:=hls x r o _ c h2 h3;have:R.l=w.heap.size+1:=rfl;omega
 have hown: ∀j,ownB (oZ ρ s.H fa) j->(∃(x r:Nat) (o:OObj) (c:Nat),x≠fa/\(s.H x)[r]?=some o/\ρ x r=some (j,c)):=fun j ⟨x,r,c,h⟩=>by
  obtain⟨h1,o,h2,h3⟩:=C2 h;exact⟨x,r,o,c,h1,h2,h3⟩
 have hownlt: ∀j,ownB (oZ ρ s.H fa) j->j<w.heap.size/\w0.heap.size<=j:=fun j h=>by
  obtain⟨x,r,o,c,_,h2,h3⟩:=hown j h;exact⟨hls x r o j c h2 h3,(hinv.old x r o j c h2 h3).1.resolve_right id⟩
 have hcon':=hcon R (oZ ρ s.H fa) hnl rfl rfl rfl;have hab:=hcon'.able
 -- the state that the function is handed
 let X2:Nat->Prop:=fun j=>j<W1.heap.size/\(X j\/ownB (oZ ρ s.H fa) j\/j=w.heap.size\/j=w.heap.size+1)
 have hXo: ∀j,j<w.heap.size->Xo X2 ρ (famH fa (s.H fa)) j->Xo X ρ s.H j:=fun j hj h=>by
  rcases h with⟨_,h|h|h|h⟩|⟨x,r,o,c,g1,g2⟩
  ·exact .inl h
  ·obtain⟨x,r,o,c,_,h2,h3⟩:=hown j h;exact .inr ⟨x,r,o,c,h2,h3⟩
  ·omega
  ·omega
  unfold famH at g1;split at g1
  ·rename_i hx;subst hx;exact .inr ⟨x,r,o,c,g1,g2⟩
  simp at g1
 have mono: ∀x v,bH fa x->AV.rel ρ s.H (Xo X ρ s.H) w x v->AV.rel ρ (famH fa (s.H fa)) (Xo X2 ρ (famH fa (s.H fa))) W1 x v:=kj (c:=bH fa) (g:=id) (fun _ _ _ _ _ _ h=>h.1) un fun x v hn hs h=>by
  cases x with
  |fn=>cases hn
  |p x=>exact bS.later hXo (by omega) (fun p v hp hno hc=>by rw[<- hc];exact gE (hold p.block hp)) h
  |junk=>trivial
  |sl x r off len=>
   have hs:x=fa:=hs;subst hs;obtain⟨o,k1,k2,k3⟩:=h;exact⟨o,by simpa[famH] using k1,k2,k3⟩
  |ptr x r i j=>
   have hs:x=fa:=hs;subst hs;obtain⟨o,b,c,k1,k2⟩:=h;exact⟨o,b,c,by simpa[famH] using k1,k2⟩
 have hfam: ∀(x r:Nat) (o:OObj),(famH fa (s.H fa) x)[r]?=some o->x=fa/\(s.H fa)[r]?=some o:=fun x r o h=>by
  unfold famH at h;split at h
  ·rename_i hx;exact⟨hx,h⟩
  simp at h
 have hinv2:Inv W1 (fun _=>True) X2 (famH fa (s.H fa)) ρ W1:=by
  refine⟨Keep.refl _,fun x r o ho=>?_,fun x r x' r' o o' b c c' ho ho' e1 e2=>?_,fun x r o b c ho hr=>⟨.inr trivial,?_⟩,fun j hj=>hj.1,fun x r o ho=>?_⟩
  ·obtain⟨rfl,ho⟩:=hfam x r o ho;obtain⟨q1,q2,q3⟩:=hinv.objs x r o ho;refine⟨q1,q2,?_⟩;cases hr:ρ x r with
   |none=>rw[hr]at q3;exact q3
   |some bc=>
    obtain⟨b,c⟩:=bc;rw[hr]at q3;obtain⟨cells,p1,p2,p3,p4,p5⟩:=q3;refine⟨cells,by rw[hold b (hls x r o b c ho hr)];exact p1,p2,p3,p4,fun i e j z he hz=>?_⟩;obtain⟨u,u1,u2,u3⟩:=p5 i e j z he hz;exact⟨u,u1,u2,mono z u (hinv.self x r o ho e (acd he) z (acd hz)) u3⟩
  ·obtain⟨rfl,ho⟩:=hfam x r o ho;obtain⟨rfl,ho'⟩:=hfam x' r' o' ho';exact hinv.inj _ r _ r' o o' b c c' ho ho' e1 e2
  ·obtain⟨rfl,ho⟩:=hfam x r o ho;have hlt:=hls x r o b c ho hr;rintro⟨_,h|h|h|h⟩
   ·exact(hinv.old x r o b c ho hr).2 h
   ·obtain⟨x',r',o',c',hne,k2,k3⟩:=hown b h;exact hne (hinv.inj x' r' x r o' o b c' c k2 ho k3 hr).1
   ·omega
   omega
  obtain⟨rfl,ho⟩:=hfam x r o ho;exact hinv.self x r o ho
 obtain⟨X1,ρ0,c1,c2,c3,c4,_⟩:=sn (s:=⟨[],famH fa (s.H fa)⟩) (a:=⟨#[],[]⟩) (B:=(IG R (oZ ρ s.H fa) tml H jump hnl hH ht).B) rfl rfl hinv2 (fun t x hx=>by simp at hx) (fun j hj=>⟨trivial,by
  rcases hj with hj|hj
  ·have:j=w.heap.size+1:=hj;exact⟨by omega,.inr (.inr (.inr this))⟩
  exact⟨by have:=(hownlt j hj).1;omega,.inr (.inl hj)⟩⟩) hcon'.sR hcon'.sF hcon'.sF' hfa (by show(famH fa (s.H fa)) fa=_;simp[famH,hF])
 -- the rows that are lent
 have monoL: ∀x v (z:Nat),z≠fa->bH z x/\iU x=true-> ∀(Y:Nat->Prop),AV.rel ρ s.H (Xo X ρ s.H) w x v->AV.rel (oZ ρ s.H fa) (aF s.H fa []) Y W1 x v:=fun x v z hz hs Y h=>by
  refine kj (c:=fun x=>bH z x/\iU x=true) (g:=id) (fun _ _ _ _ _ _ h=>⟨h.1.1,rfl⟩) un (fun x v hn hs h=>?_) x v hs h;cases x with
  |fn=>cases hn
  |p x=>
   have q0:bS (Xo X ρ s.H) W1 x v:=bS.later (w:=w) (fun _ _ h=>h) (by omega) (fun p v hp hno hc=>by rw[<- hc];exact gE (hold p.block hp)) h;have q:AV.rel ρ s.H Y W1 (.p x) v:=AW (x:= .p x) (Y:=Xo X ρ s.H) hs.2 (sZ _) q0;exact q
  |junk=>trivial
  |sl x r off len=>
   have hs1:x=z:=hs.1;subst hs1;obtain⟨o,k1,k2,k3⟩:=h;exact⟨o,by rw[aM hz];exact k1,k2,by rw[rc hz k1];exact k3⟩
  |ptr x r i j=>
   have hs1:x=z:=hs.1;subst hs1;obtain⟨o,b,c,k1,k2⟩:=h;exact⟨o,b,c,by rw[aM hz];exact k1,by rw[rc hz k1];exact k2⟩
 have hsafe:AU (aF s.H fa []):=by rw[<- hH0];exact hH g0
 have hupd: ∀(x r:Nat) (o:OObj),(aF s.H fa [] x)[r]?=some o->x≠fa/\(s.H x)[r]?=some o:=fun x r o h=>by
  by_cases hx:x=fa
  ·subst hx;rw[aS]at h;simp at h
  rw[aM hx]at h;exact⟨hx,h⟩
 have hinvL:Inv W1 (ownB (oZ ρ s.H fa)) (fun j=>j=R.l) (aF s.H fa []) (oZ ρ s.H fa) W1:=by
  refine⟨Keep.refl _,fun x r o ho=>?_,fun x r x' r' o o' b c c' ho ho' e1 e2=>?_,fun x r o b c ho hr=>⟨.inr ⟨x,r,c,hr⟩,fun hb=>?_⟩,fun j hj=>?_,fun x r o ho=>?_⟩
  ·have hso:=hsafe x o (acd ho);obtain⟨hx,ho⟩:=hupd x r o ho;obtain⟨q1,q2,q3⟩:=hinv.objs x r o ho;refine⟨q1,q2,?_⟩;rw[rc hx ho];cases hr:ρ x r with
   |none=>rw[hr]at q3;exact q3
   |some bc=>
    obtain⟨b,c⟩:=bc;rw[hr]at q3;obtain⟨cells,p1,p2,p3,p4,p5⟩:=q3;refine⟨cells,by rw[hold b (hls x r o b c ho hr)];exact p1,p2,p3,p4,fun i e j z he hz=>?_⟩;obtain⟨u,u1,u2,u3⟩:=p5 i e j z he hz;exact⟨u,u1,u2,monoL z u x hx ⟨hinv.self x r o ho e (acd he) z (acd hz),hso e (acd he) z (acd hz)⟩ _ u3⟩
  ·obtain⟨hx,ho⟩:=hupd x r o ho;obtain⟨hx',ho'⟩:=hupd x' r' o' ho';rw[rc hx ho]at e1;rw[rc hx' ho']at e2;exact hinv.inj x r x' r' o o' b c c' ho ho' e1 e2
  ·obtain⟨hx,ho⟩:=hupd x r o ho;rw[rc hx ho]at hr;have:=hls x r o b c ho hr;have:R.l=w.heap.size+1:=rfl;omega
  ·have:R.l=w.heap.size+1:=rfl;omega
  exact hinv.self x r o (hupd x r o ho).2
 have htmL: ∀(H':OH) (Y:Nat->Prop),H'=aF s.H fa []-> ∀(t:Nat) x,tml[t]?=some x-> ∃v:Value,a.tmps[t]?=some v/\x.rel (oZ ρ s.H fa) H' Y W1 v:=fun H' Y e t x hx=>by
  subst e;have hlt:t<a.tmps.size:=by rw[hsz,<- htl.1];exact(aci.1 hx).1
  rcases htl.2 t x hx with rfl|h
  ·exact⟨a.tmps[t],by simp,trivial⟩
  obtain⟨v,v1,v2⟩:=htm t x h;refine⟨v,v1,?_⟩;have h3:=ht;simp only[acr]at h3 haw;have h3:=h3 x (acd hx);have h4:=haw x (acd hx);cases x with
  |one y=>
   have h3:iU y=true:=h3;have h4:y7 fa y=true:=h4;cases y with
   |p y=>exact monoL (.p y) v (fa+1) (by omega) ⟨trivial,h3⟩ Y v2
   |junk=>trivial
   |sl z r off len=>exact monoL (.sl z r off len) v z (by simpa[y7] using h4) ⟨rfl,h3⟩ Y v2
   |ptr z r i j=>exact monoL (.ptr z r i j) v z (by simpa[y7] using h4) ⟨rfl,h3⟩ Y v2
   |fn f z qs=>
    obtain⟨vs,e1,e2,e3,e4⟩:=v2;exact monoL (.fn f z qs) v z (by simpa[y7] using h4) ⟨⟨rfl,aez e3⟩,h3⟩ Y ⟨vs,e1,e2,e3,e4⟩
  |_=>cases h3
 have hG0:(IG R (oZ ρ s.H fa) tml H jump hnl hH ht).G g0 (fun _=>True) W1:=by
  refine⟨by rw[hj0];exact hL1,rfl,by show a.tmps.size=_;rw[hsz,<- htl.1],?_,fun t x hx=>htmL _ _ hH0 t x hx⟩;show Inv W1 _ _ (H g0) _ W1;rw[hH0];exact hinvL
 refine⟨w.heap.size+1,[{target:= .collected w.heap.size,args:= #[]}],W1,{target:= .fn (.func f) #[],args:=fs++ #[.func (.yield (w.heap.size+1)) #[] #[]]},W1,f,fs++ #[.func (.yield (w.heap.size+1)) #[] #[]],W1,?_,?_,fun _ _=>trivial,?_,fun h=>by simp[Fence.wide]at h,?_⟩
 ·rw[<- hW1];exact run_enterLoop_outer _ _ _ _ _
 ·simp only[resolve,hge,Deferred.ofValue];simp[go_sem]
 ·simp only[invoke];rw[EK hab]
  simp
 have e1:{a with defers:=[({target:= .collected w.heap.size,args:= #[]}:Deferred)]++a.defers}={a with defers:=[{target:= .collected w.heap.size,args:= #[]}]}:=by rw[h1];rfl
 rw[e1];refine CallsIn.mono (callsIn_wide.2 (hcon'.calls X1 (fun _=>True) W1 _ ρ0 c1 c2 (fun _ _=>trivial) hG0 (by simp[hfs]) fun j t hj=>?_)) ?_
 ·by_cases hjl:j<targs.length
  ·rw[acx hjl]at hj;obtain⟨v,v1,y,y1,y2⟩:=hts j t hj;refine⟨v,by rw[ac8 (by omega)];exact v1,c3 t v (hcon'.sA t (by rw[adh];exact .inl (acd hj))) ?_⟩;have hrel:=bv htm y _ y1;rw[y2]at hrel;have hst:selfTV 0 t:=hcon'.sA t (by rw[adh];exact .inl (acd hj));cases t with
   |one z=>exact mono _ v (dM fa z) hrel
   |agg cs=>
    obtain⟨vs,e1,e2,e3⟩:=hrel;refine⟨vs,e1,e2,fun j x hx=>?_⟩;obtain⟨u,u1,u2,u3⟩:=e3 j x hx;rw[ach]at hx;obtain⟨z,_,rfl⟩:=acf.1 hx;exact⟨u,u1,u2,mono _ u (dM fa z) u3⟩
   |fn g cs=>
    obtain⟨u0,⟨vs,e1,e2,e3⟩,e4⟩:=hrel;refine⟨u0,⟨vs,e1,e2,fun j x hx=>?_⟩,e4⟩;obtain⟨u,u1,u2,u3⟩:=e3 j x hx;rw[ach]at hx;obtain⟨z,_,rfl⟩:=acf.1 hx;exact⟨u,u1,u2,mono _ u (dM fa z) u3⟩
   |tup ts=>
    obtain⟨vs,e1,e2,e3⟩:=hrel;refine⟨vs,e1,e2,fun j b cs hx=>?_⟩;obtain⟨u,u1,u2⟩:=e3 j b cs hx;rw[ach]at hx;obtain⟨z,_,hz⟩:=acf.1 hx;injection hz with hz1 hz2
    subst hz2;refine⟨u,u1,?_⟩;rcases u2 with⟨u2,vs2,k1,k2,k3⟩|⟨u2,x,e,u4⟩
    ·refine .inl ⟨u2,vs2,k1,k2,fun i x hi=>?_⟩;obtain⟨q,q1,q2,q3⟩:=k3 i x hi;rw[ach]at hi;obtain⟨z',_,rfl⟩:=acf.1 hi;exact⟨q,q1,q2,mono _ q (dM fa z') q3⟩
    refine .inr ⟨u2,x,e,mono _ u ?_ u4⟩;have:x∈List.map (b6 fa) z.2:=by rw[e];simp
    obtain⟨z',_,rfl⟩:=acn.1 this;exact dM fa z'
  have hj0:j=targs.length:=by
   have:=(aci.1 hj).1;simp at this;omega
  subst hj0;rw[acD (acs _),aeq]at hj;injection hj with hj
  subst hj;exact⟨.func (.yield (w.heap.size+1)) #[] #[],by rw[ady (by omega),hfs,aeq];rfl,b7 rfl⟩
 rintro e w3 ⟨v,rfl,ρ',hi,⟨hG1,hG2⟩,_⟩;have hG1:w3.heap[w.heap.size+1]?=some (R.obj (jump g1)):=hG1;refine⟨jump g1,_,run_endLoop hG1 (by show(if(jump g1).isNone=true then LoopState.ready else LoopState.done)≠ .busy;split<;>simp),?_⟩;generalize hw4:w3.putObj _ _=w4;have hl3:w.heap.size+1<w3.heap.size:=(acB.1 hG1).1;have same4: ∀j,j≠w.heap.size+1->w4.heap[j]?=w3.heap[j]?:=fun j hj=>by rw[<- hw4];exact World.putObj_heap_other hj
 have hsz4:w4.heap.size=w3.heap.size:=by rw[<- hw4];simp
 have hb: ∀j,famB F ρ0 j\/(IG R (oZ ρ s.H fa) tml H jump hnl hH ht).B j->j≠w.heap.size/\w0.heap.size<=j:=fun j hj=>by
  have hw0:=hinv.keep.size;rcases hj with hj|hj|hj
  ·obtain⟨y,o',c',k1,k2⟩:=c4 j hj;have k1:(s.H fa)[y]?=some o':=by simpa[famH] using k1
   have:=hls fa y o' j c' k1 k2;have:=(hinv.old fa y o' j c' k1 k2).1.resolve_right id;omega
  ·have:j=w.heap.size+1:=hj;omega
  have:=hownlt j hj;omega
 have hk:=hi.keep;have htail:U6 w0 (oZ ρ s.H fa) w.heap.size ⟨tml,H g1⟩ {a with defers:=[{target:= .collected w.heap.size,args:= #[]}]} w4:=by
  have hinv4:Inv w4 (ownB (oZ ρ s.H fa)) (fun j=>j<w0.heap.size\/j=w.heap.size) (H g1) (oZ ρ s.H fa) w4:=GI (hH g1) hG2.2.2.1 (fun j hj=>same4 j (fun h=>by have:=(hownlt j hj).1;omega)) _ (fun j hj=>by
   have h1:=hinv.keep.size;have h2:=hk.size;omega) (fun j hj h=>by have:=hownlt j hj;omega)
  refine⟨⟨rfl,by show a.tmps.size=_;rw[hsz,<- htl.1],hinv4,fun t x hx=>?_⟩,⟨?_,?_,?_,?_,fun j hj _=>?_⟩,fun j hj=>(hownlt j hj).2,?_,fun h=>by have:=(hownlt _ h).1;omega,hinv.keep.size⟩
  ·obtain⟨v,v1,v2⟩:=hG2.2.2.2 t x hx;have ht':=ht;simp only[acr]at ht';exact⟨v,v1,EN (ht' x (acd hx)) (sZ _) v2⟩
  ·rw[<- hw4];show w3.os=_;rw[hk.os,<- hW1];exact hinv.keep.os
  ·rw[<- hw4];show w3.tape=_;rw[hk.tape,<- hW1];exact hinv.keep.tape
  ·rw[<- hw4];show w3.output=_;rw[hk.output,<- hW1];exact hinv.keep.output
  ·have:=hinv.keep.size;have:=hk.size;omega
  ·have hs0:=hinv.keep.size;rw[same4 j (by omega),hk.block j (by omega) (fun h=>by have:=(hb j h).2;omega),hold j (by omega),hinv.keep.block j hj (fun h=>h)]
  rw[same4 _ (by omega),hk.block _ (by omega) (fun h=>(hb _ h).1 rfl)];exact hK1
 have:=hQ _ _ _ htail;cases hj:jump g1 with
 |none=>rw[hj]at this;exact this
 |some c=>rw[hj]at this;exact(wpIn_wide (n:=0)).2 this
end
end
section
section
variable {P:Program} {w0 w w':World} {O X:Nat->Prop} {s s':AS} {a:Act} {ρ:Rho} {γ:Type}
def Fq (w0:World) (X:Nat->Prop) (r:TV) (e:Ending) (w':World):Prop:= ∃v,e= .returned v/\ ∃ρ:Rho,Inv w0 (fun _=>False) X (famH 0 []) ρ w'/\r.rel ρ (famH 0 []) (Xo X ρ (famH 0 [])) w' v
def mj (P:Program) (b:Func) (r:TV) (w0:World) (X:Nat->Prop):Exit->Act->World->Prop:=bodyPostM (FW none) 0 P b (Fq w0 X r)
def Fi (P:Program) (c:Code) (Post:World->(Nat->Prop)->Exit->Act->World->Prop) (s:AS):Prop:=
 ∀(w0:World) (X:Nat->Prop) (a:Act) (w:World),(∀b,X b->b<w0.heap.size)->dq w0 (fun _=>False) X s a w->c.wp P (Post w0 X) a w
def B4 (P:Program) (b:Func) (r:TV) (s:AS):Prop:= ∃s',bJ s s'/\rA P s' b.results.toList=some r/\noRefTV r=true
def Qf (P:Program) (b:Func) (r:TV) (Post:World->(Nat->Prop)->Exit->Act->World->Prop) (next:AS->Prop):Exit->AS->Prop
 | .normal,s=>next s
 | .ret,s=>B4 P b r s/\Post=mj P b r
 |_,_=>False
theorem L7 {t:AS} {wB:World} {OB:Nat->Prop} {n:Rho} (u: ∀e,X e->e<w0.heap.size) (q:Keep (fun _=>False) w0 w) (p: ∀j,X j->b j) (A:noRefTV g=true) (h:g.rel n t.H (Xo b n t.H) w c):Fq w0 X g (.returned c) w:=by
 refine⟨c,rfl,fun _ _=>none,⟨q,fun x y o l=>?_,fun x y D E o C e f B _ _ h=>(by cases h),fun x y o e f _ h=>(by cases h),fun e z=>acp (u e z) q.size,fun x y o l=>?_⟩,Am (fun j _ m=>?_) A h⟩
 ·unfold famH at l;split at l<;>simp at l
 ·unfold famH at l;split at l<;>simp at l
 rcases m with m|⟨_,_,_,_,_,m⟩
 ·exact .inl (p j m)
 cases m
theorem O6 {l:Func} (h:B4 P l g s) (o: ∀b,X b->b<w0.heap.size) (t:dq w0 (fun _=>False) X s a w) {e:Exit} (p:e= .normal\/e= .ret):mj P l g w0 X e a w:=by
 obtain⟨y,x,j,q⟩:=h;obtain⟨n,u,m,c,f⟩:=x _ _ _ _ _ t;have f:bo X m y a w:=f;obtain⟨v,z,A⟩:=fq c f j;have key:LeavesInM (FW none) 0 P l a.tmps (Fq w0 X g) a.defers .returning w:=by
  rw[n];exact⟨v,z,L7 (wB:=w) (OB:=fun _=>False) o c.keep (fun _ h=>h) q A⟩
 rcases p with rfl|rfl
 ·exact key
 exact key
theorem F4 {e:FuncId} {fn:Func} {args:List TV} (H:P.funcs[e]?=some fn) (G:fn.body=some f) (J:callable P e=true) (h:Fi P f (mj P fn g) ⟨args++List.replicate (fn.ntmps-args.length) .undef,fun _=>[]⟩):CallC P e args ⟨[],g⟩:=by
 refine⟨J,fun X w vs D C m=>?_⟩;refine(callsIn_wide (n:=0)).1 (callsIn_of_wp_marks (F:=FW none) (n:=0) (R:=Fq w X g) H G trivial ((wpIn_wide (n:=0)).2 (h w X _ w D ?_)));refine⟨rfl,by simp[C],fun _ _=>none,⟨Keep.refl w,fun a g o q=>by simp at q,fun a g Q V o T b f S q=>by simp at q,fun a g o b f q=>by simp at q,D,fun a g o q=>by simp at q⟩,fun t x l=>?_⟩;have B: ∀b,b<w.heap.size->Xo X (fun _ _=>none) (fun _=>[]) b->X b:=fun b _ h=>by
  rcases h with h|⟨a,g,o,f,z,E⟩
  ·exact h
  cases E
 by_cases K:t<args.length
 ·rw[acx K]at l;obtain⟨v,M,N⟩:=m t x l;refine⟨v,by rw[ac8 (by omega)];exact M,TV.rel_map N (fun y u A=>?_)⟩;cases y with
  |p y=>exact bS.weaken B A
  |sl a g L len=>obtain⟨o,z,_⟩:=A;simp at z
  |ptr a g i j=>obtain⟨o,_,_,z,_⟩:=A;simp at z
  |fn e a U=>exact(qM (fun _=>rfl) A).elim
  |junk=>trivial
 rw[acD (by omega),ac5]at l;split at l
 ·rename_i I;injection l with l
  subst l;refine⟨undef,?_,d6⟩;rw[ady (by omega),ae9,if_pos (by omega)]
 cases l
variable {fn:Func} {r:TV} {Post:World->(Nat->Prop)->Exit->Act->World->Prop}
theorem LF {y:Code} (h:bA P f (Qf P fn r Post (Fi P y Post)) s):Fi P (.seq f y) Post s:=fun w0 X a w g l=>
 wp_seq (wp_mono (h _ _ _ _ _ l) fun e j w' ⟨s',b,c⟩=>by
  cases e with
  |normal=>exact b w0 X j w' g c
  |ret=>obtain⟨b,rfl⟩:=b;exact O6 b g c (.inr rfl)
  |_=>exact b.elim)
theorem Dg (A: ∀b,X b->b<w0.heap.size) (c:U6 w0 ρ n s a w) {s':AS} {l:Act} {w':World} (B:RelR ρ [{target:= .collected n,args:= #[]}] w (ownB ρ) (fun j=>j<w0.heap.size\/j=n) s' l w') (F:B4 P fn r s') {e:Exit} (E:e= .normal\/e= .ret):mj P fn r w0 X e l w':=by
 obtain⟨M,H,u,G⟩:=F;have C:n<w.heap.size:=(acB.1 c.mark).1;have q:=B.2.2.1.keep;have x:w'.heap[n]?=some (.deferred (some [])):=by rw[q.block n C c.no.1];exact c.mark
 obtain⟨g,p⟩: ∃g,g=w'.putObj n (.deferred none):=⟨_,rfl⟩;have y:RelR ρ [{target:= .collected n,args:= #[]}] g (ownB ρ) (fun j=>j<w0.heap.size\/j=n) s' l g:=by
  subst p;exact B.turn (fun j t=>World.putObj_heap_other fun h=>t (.inr h)) (by simp)
 obtain⟨I,J,K,L⟩:=y;obtain⟨_,_,z,m,f⟩:=H g (ownB ρ) _ {l with defers:=[]} g ⟨rfl,J,ρ,K,L⟩;have f:bo _ z M {l with defers:=[]} g:=f;obtain⟨v,N,Q⟩:=fq m f u;have o:Keep (fun _=>False) w0 g:=by
  subst p;refine⟨q.os.trans c.keep.os,q.tape.trans c.keep.tape,q.output.trans c.keep.output,?_,fun j t _=>?_⟩
  ·have:=c.keep.size;have:=q.size;simp;omega
  have:=c.no.2;have:=c.keep.size;rw[World.putObj_heap_other (by omega),q.block j (by omega) (fun h=>by have:=c.own j h;omega),c.keep.block j t (fun h=>h)]
 have key:LeavesInM (FW none) 0 P fn l.tmps (Fq w0 X r) l.defers .returning w':=by
  rw[I];refine⟨by simp,.inl ⟨n,g,rfl,by rw[p];exact run_takeDeferred x,v,N,L7 (wB:=g) (OB:=ownB ρ) A o (fun j t=> .inl (A j t)) G Q⟩⟩
 rcases E with rfl|rfl
 ·exact key
 exact key
theorem TT {D:Nat} (j: ∀b,X b->b<w0.heap.size) (g:U6 w0 ρ D s a w) (h:yU P none ρ [{target:= .collected D,args:= #[]}] f (fun e s'=>(e= .normal\/e= .ret)/\B4 P fn r s') s):f.wp P (mj P fn r w0 X) a w:=
 (wpIn_wide (n:=0)).1 (wpIn_mono (h _ _ _ _ _ g.rel) fun _ _ _ ⟨_,⟨l,m⟩,o⟩=>Dg j g o m l)
end
end
end Go.Proofs.YtalmoejhjceflaaGreat
