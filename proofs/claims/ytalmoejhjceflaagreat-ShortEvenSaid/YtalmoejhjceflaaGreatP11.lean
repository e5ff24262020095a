/-
  Part 12 of a proof (walks and plain facts).
-/
import Derived.Test.YtalmoejhjceflaaGreatP10
import Derived.Shelf.SlSortCmp.WholeK
set_option linter.all false
set_option maxRecDepth 100000
set_option maxHeartbeats 64000000
namespace Go.Proofs.YtalmoejhjceflaaGreat
open Go.RowKit
variable {b c:Code} {e:Array Oper} {f g:List OObj} {n m:Nat} {h:FuncId} {j:List Nat} {l:Operand} {o:TV} {p:OObj} {q:Int×List Int} {s:AS} {r:List AV} {t:OH} {u:Bool} {v:Func}
section
theorem Au {P:Program} (g:callable P h=true) (args:Array Value) (w:World):(callFunc h args).run P w= .ok (.enter h args) w:=by
 obtain⟨j,b,c,e⟩:=kA g;unfold callFunc;simp only[XP];show Result.andThen (.ok P w) _=_;rw[XM,b];simp only[e,c,YD,if_false]
 simp
def uG (b:Nat):AV->Bool
 | .sl x _ _ _=>x !=b
 | .ptr x _ _ _=>x !=b
 | .fn _ x _=>x !=b
 |_=>true
def Ll (b:Nat):TV->Bool
 | .one x=>uG b x
 |_=>false
section
variable {P:Program} {w0 w w':World} {O X:Nat->Prop} {s s':AS} {a:Act} {ρ:Rho} {γ:Type}
open Classical in
noncomputable def mc (ρ:Rho) (H:OH) (b:Nat):Rho:=fun x r=>if x=b\/(H x)[r]?=none then none else ρ x r
theorem yC {r:Nat} {b:Nat×Nat} (h:mc ρ t n m r=some b):m≠n/\ ∃o,(t m)[r]?=some o/\ρ m r=some b:=by
 unfold mc at h;split at h
 ·cases h
 rename_i c;have f:(t m)[r]?≠none:=fun e=>c (.inr e)
 obtain⟨o,g⟩:=Option.ne_none_iff_exists'.1 f;exact⟨fun e=>c (.inl e),o,g,h⟩
theorem nZ {r:Nat} (c:m≠n) (b:(t m)[r]?=some p):mc ρ t n m r=ρ m r:=by
 unfold mc;rw[if_neg];rintro(h|h)
 ·exact c h
 rw[b]at h;cases h
structure Pa (w0:World) (ρ:Rho) (D:Nat) (s:AS) (a:Act) (w:World):Prop where
 rel:RelR ρ [{target:= .collected D,args:= #[]}] w (ownB ρ) (fun j=>j<w0.heap.size\/j=D) s a w
 keep:Keep (fun _=>False) w0 w
 own: ∀j,ownB ρ j->w0.heap.size<=j
 mark:w.heap[D]?=some (.deferred (some []))
 no: ¬ownB ρ D/\w0.heap.size<=D
theorem OL {gs:Tmp} {ps:Array Tmp} {asg bd:Code} {f:FuncId} {fs:Array Value} {targs:List TV} {fa:Nat} {F F':List OObj} {tml:List TV} {H:γ->OH} {jump:γ->Option Code} {hH: ∀g,wv (H g)} {ht:tml.all qa=true} {g0 g1:γ} {r:TV} {Q:Exit->Act->World->Prop}
  (hr:de w0 (fun _=>False) X s a w) (hX: ∀j,X j->j<w0.heap.size) (hg:a.tmps[gs]?=some (.func (.func f) fs #[])) (hfs:fs.size=targs.length) (hts: ∀(j:Nat) t,targs[j]?=some t-> ∃v:Value,fs[j]?=some v/\ ∃y,s.ev y=some (renTV fa t)/\a.eval y=v)
  (hfa:fa<=4999) (hF:s.H fa=F.map (renO fa)) (hH0:H g0=aw s.H fa []) (hj0:jump g0=none) (htl:tml.length=s.tmps.length/\ ∀(t:Nat) x,tml[t]?=some x->x= .one .junk\/s.tmps[t]?=some x) (haw:tml.all (Ll fa)=true)
  (hcon: ∀(R:zc) (ρ:Rho) (hl: ∀x r c,ρ x r≠some (R.l,c)),R.ps=ps->R.asg=asg->R.bd=bd->pi P (DL R ρ tml H jump hl hH ht) f (targs++[.raw (.func (.yield R.l) #[] #[])]) F F' g0 g1 r)
  (hQ: ∀(ρ:Rho) (D:Nat) (w3:World),Pa w0 ρ D ⟨tml,H g1⟩ {a with defers:=[{target:= .collected D,args:= #[]}]} w3->match jump g1 with
   |none=>Q .normal {a with defers:=[{target:= .collected D,args:= #[]}]} w3
   |some c=>c.wp P Q {a with defers:=[{target:= .collected D,args:= #[]}]} w3):(Code.rangeFunc (.tmp gs) ps asg bd).wp P Q a w:=by
 obtain⟨h1,hsz,ρ,hinv,htm⟩:=hr;have htm:aT X ρ s a w:=htm;refine(wpIn_wide (n:=0)).1 (wpIn_rangeFunc (F:=FW none) fun fn _=>?_)
 let R:zc:=⟨w.heap.size+1,w.heap.size,fn,a.tmps,ps,asg,bd⟩
 obtain⟨W1,hW1⟩: ∃W1,(w.alloc (.deferred (some []))).alloc (R.obj none)=W1:=⟨_,rfl⟩;have hsz1:W1.heap.size=w.heap.size+2:=by rw[<- hW1];simp
 have hL1:W1.heap[w.heap.size+1]?=some (R.obj none):=by
  rw[<- hW1];have:=World.alloc_heap_new (w.alloc (.deferred (some []))) (R.obj none);rwa[World.size_alloc]at this
 have hK1:W1.heap[w.heap.size]?=some (.deferred (some [])):=by
  rw[<- hW1];exact(aak _ _ _ (by simp)).trans (World.alloc_heap_new w _)
 have hold: ∀j,j<w.heap.size->W1.heap[j]?=w.heap[j]?:=fun j hj=>by
  rw[<- hW1];exact(aak _ _ _ (by simp;omega)).trans (aak _ _ _ hj)
 have hge:a.eval (.tmp gs)= .func (.func f) fs #[]:=by
  show a.tmps.getD gs undef=_;rw[Zc,hg];rfl
 have hls: ∀(x r:Nat) (o:OObj) (b c:Nat),(s.H x)[r]?=some o->ρ x r=some (b,c)->b<w.heap.size:=fun x r o b c g1 g2=>bI (hinv.objs x r o g1) g2
 have hnl: ∀x r c,mc ρ s.H fa x r≠some (R.l,c):=fun x r c h=>by
  obtain⟨_,o,h2,h3⟩:=yC h;have:=hls x r o _ c h2 h3;have:R.l=w.heap.size+1:=rfl;omega
 have hown: ∀j,ownB (mc ρ s.H fa) j->(∃(x r:Nat) (o:OObj) (c:Nat),x≠fa/\(s.H x)[r]?=some o/\ρ x r=some (j,c)):=fun j ⟨x,r,c,h⟩=>by
  obtain⟨h1,o,h2,h3⟩:=yC h;exact⟨x,r,o,c,h1,h2,h3⟩
 have hownlt: ∀j,ownB (mc ρ s.H fa) j->j<w.heap.size/\w0.heap.size<=j:=fun j h=>by
  obtain⟨x,r,o,c,_,h2,h3⟩:=hown j h;exact⟨hls x r o j c h2 h3,(hinv.old x r o j c h2 h3).1.resolve_right id⟩
 have hcon':=hcon R (mc ρ s.H fa) hnl rfl rfl rfl;have hab:=hcon'.able
 -- the state that the function is handed
 let X2:Nat->Prop:=fun j=>j<W1.heap.size/\(X j\/ownB (mc ρ s.H fa) j\/j=w.heap.size\/j=w.heap.size+1)
 have hXo: ∀j,j<w.heap.size->Xo X2 ρ (famH fa (s.H fa)) j->Xo X ρ s.H j:=fun j hj h=>by
  rcases h with⟨_,h|h|h|h⟩|⟨x,r,o,c,g1,g2⟩
  ·exact .inl h
  ·obtain⟨x,r,o,c,_,h2,h3⟩:=hown j h;exact .inr ⟨x,r,o,c,h2,h3⟩
  ·omega
  ·omega
  unfold famH at g1;split at g1
  ·rename_i hx;subst hx;exact .inr ⟨x,r,o,c,g1,g2⟩
  simp at g1
 have mono: ∀x v,bz fa x->AV.rel ρ s.H (Xo X ρ s.H) w x v->AV.rel ρ (famH fa (s.H fa)) (Xo X2 ρ (famH fa (s.H fa))) W1 x v:=jI (c:=bz fa) (g:=id) (fun _ _ _ _ _ _ h=>h.1) pU fun x v hn hs h=>by
  cases x with
  |fn=>cases hn
  |p x=>exact bO.later hXo (by omega) (fun p v hp hno hc=>by rw[<- hc];exact iq (hold p.block hp)) h
  |junk=>trivial
  |sl x r off len=>
   have hs:x=fa:=hs;subst hs;obtain⟨o,k1,k2,k3⟩:=h;exact⟨o,by simpa[famH] using k1,k2,k3⟩
  |ptr x r i j=>
   have hs:x=fa:=hs;subst hs;obtain⟨o,b,c,k1,k2⟩:=h;exact⟨o,b,c,by simpa[famH] using k1,k2⟩
 have hfam: ∀(x r:Nat) (o:OObj),(famH fa (s.H fa) x)[r]?=some o->x=fa/\(s.H fa)[r]?=some o:=fun x r o h=>by
  unfold famH at h;split at h
  ·rename_i hx;exact⟨hx,h⟩
  simp at h
 have hinv2:Inv W1 (fun _=>True) X2 (famH fa (s.H fa)) ρ W1:=by
  refine⟨Keep.refl _,fun x r o ho=>?_,fun x r x' r' o o' b c c' ho ho' e1 e2=>?_,fun x r o b c ho hr=>⟨.inr trivial,?_⟩,fun j hj=>hj.1,fun x r o ho=>?_⟩
  ·obtain⟨rfl,ho⟩:=hfam x r o ho;obtain⟨q1,q2,q3⟩:=hinv.objs x r o ho;refine⟨q1,q2,?_⟩;cases hr:ρ x r with
   |none=>rw[hr]at q3;exact q3
   |some bc=>
    obtain⟨b,c⟩:=bc;rw[hr]at q3;obtain⟨cells,p1,p2,p3,p4,p5⟩:=q3;refine⟨cells,by rw[hold b (hls x r o b c ho hr)];exact p1,p2,p3,p4,fun i e j z he hz=>?_⟩;obtain⟨u,u1,u2,u3⟩:=p5 i e j z he hz;exact⟨u,u1,u2,mono z u (hinv.self x r o ho e (XH he) z (XH hz)) u3⟩
  ·obtain⟨rfl,ho⟩:=hfam x r o ho;obtain⟨rfl,ho'⟩:=hfam x' r' o' ho';exact hinv.inj _ r _ r' o o' b c c' ho ho' e1 e2
  ·obtain⟨rfl,ho⟩:=hfam x r o ho;have hlt:=hls x r o b c ho hr;rintro⟨_,h|h|h|h⟩
   ·exact(hinv.old x r o b c ho hr).2 h
   ·obtain⟨x',r',o',c',hne,k2,k3⟩:=hown b h;exact hne (hinv.inj x' r' x r o' o b c' c k2 ho k3 hr).1
   ·omega
   omega
  obtain⟨rfl,ho⟩:=hfam x r o ho;exact hinv.self x r o ho
 obtain⟨X1,ρ0,c1,c2,c3,c4,_⟩:=vd (s:=⟨[],famH fa (s.H fa)⟩) (a:=⟨#[],[]⟩) (B:=(DL R (mc ρ s.H fa) tml H jump hnl hH ht).B) rfl rfl hinv2 (fun t x hx=>by simp at hx) (fun j hj=>⟨trivial,by
  rcases hj with hj|hj
  ·have:j=w.heap.size+1:=hj;exact⟨by omega,.inr (.inr (.inr this))⟩
  exact⟨by have:=(hownlt j hj).1;omega,.inr (.inl hj)⟩⟩) hcon'.sR hcon'.sF hcon'.sF' hfa (by show(famH fa (s.H fa)) fa=_;simp[famH,hF])
 -- the rows that are lent
 have monoL: ∀x v (z:Nat),z≠fa->bz z x/\gm x=true-> ∀(Y:Nat->Prop),AV.rel ρ s.H (Xo X ρ s.H) w x v->AV.rel (mc ρ s.H fa) (aw s.H fa []) Y W1 x v:=fun x v z hz hs Y h=>by
  refine jI (c:=fun x=>bz z x/\gm x=true) (g:=id) (fun _ _ _ _ _ _ h=>⟨h.1.1,rfl⟩) pU (fun x v hn hs h=>?_) x v hs h;cases x with
  |fn=>cases hn
  |p x=>
   have q0:bO (Xo X ρ s.H) W1 x v:=bO.later (w:=w) (fun _ _ h=>h) (by omega) (fun p v hp hno hc=>by rw[<- hc];exact iq (hold p.block hp)) h;have q:AV.rel ρ s.H Y W1 (.p x) v:=ww (x:= .p x) (Y:=Xo X ρ s.H) hs.2 (mg _) q0;exact q
  |junk=>trivial
  |sl x r off len=>
   have hs1:x=z:=hs.1;subst hs1;obtain⟨o,k1,k2,k3⟩:=h;exact⟨o,by rw[ay hz];exact k1,k2,by rw[nZ hz k1];exact k3⟩
  |ptr x r i j=>
   have hs1:x=z:=hs.1;subst hs1;obtain⟨o,b,c,k1,k2⟩:=h;exact⟨o,b,c,by rw[ay hz];exact k1,by rw[nZ hz k1];exact k2⟩
 have hsafe:wv (aw s.H fa []):=by rw[<- hH0];exact hH g0
 have hupd: ∀(x r:Nat) (o:OObj),(aw s.H fa [] x)[r]?=some o->x≠fa/\(s.H x)[r]?=some o:=fun x r o h=>by
  by_cases hx:x=fa
  ·subst hx;rw[aI]at h;simp at h
  rw[ay hx]at h;exact⟨hx,h⟩
 have hinvL:Inv W1 (ownB (mc ρ s.H fa)) (fun j=>j=R.l) (aw s.H fa []) (mc ρ s.H fa) W1:=by
  refine⟨Keep.refl _,fun x r o ho=>?_,fun x r x' r' o o' b c c' ho ho' e1 e2=>?_,fun x r o b c ho hr=>⟨.inr ⟨x,r,c,hr⟩,fun hb=>?_⟩,fun j hj=>?_,fun x r o ho=>?_⟩
  ·have hso:=hsafe x o (XH ho);obtain⟨hx,ho⟩:=hupd x r o ho;obtain⟨q1,q2,q3⟩:=hinv.objs x r o ho;refine⟨q1,q2,?_⟩;rw[nZ hx ho];cases hr:ρ x r with
   |none=>rw[hr]at q3;exact q3
   |some bc=>
    obtain⟨b,c⟩:=bc;rw[hr]at q3;obtain⟨cells,p1,p2,p3,p4,p5⟩:=q3;refine⟨cells,by rw[hold b (hls x r o b c ho hr)];exact p1,p2,p3,p4,fun i e j z he hz=>?_⟩;obtain⟨u,u1,u2,u3⟩:=p5 i e j z he hz;exact⟨u,u1,u2,monoL z u x hx ⟨hinv.self x r o ho e (XH he) z (XH hz),hso e (XH he) z (XH hz)⟩ _ u3⟩
  ·obtain⟨hx,ho⟩:=hupd x r o ho;obtain⟨hx',ho'⟩:=hupd x' r' o' ho';rw[nZ hx ho]at e1;rw[nZ hx' ho']at e2;exact hinv.inj x r x' r' o o' b c c' ho ho' e1 e2
  ·obtain⟨hx,ho⟩:=hupd x r o ho;rw[nZ hx ho]at hr;have:=hls x r o b c ho hr;have:R.l=w.heap.size+1:=rfl;omega
  ·have:R.l=w.heap.size+1:=rfl;omega
  exact hinv.self x r o (hupd x r o ho).2
 have htmL: ∀(H':OH) (Y:Nat->Prop),H'=aw s.H fa []-> ∀(t:Nat) x,tml[t]?=some x-> ∃v:Value,a.tmps[t]?=some v/\x.rel (mc ρ s.H fa) H' Y W1 v:=fun H' Y e t x hx=>by
  subst e;have hlt:t<a.tmps.size:=by rw[hsz,<- htl.1];exact(XN.1 hx).1
  rcases htl.2 t x hx with rfl|h
  ·exact⟨a.tmps[t],by simp,trivial⟩
  obtain⟨v,v1,v2⟩:=htm t x h;refine⟨v,v1,?_⟩;have h3:=ht;simp only[XO]at h3 haw;have h3:=h3 x (XH hx);have h4:=haw x (XH hx);cases x with
  |one y=>
   have h3:gm y=true:=h3;have h4:uG fa y=true:=h4;cases y with
   |p y=>exact monoL (.p y) v (fa+1) (by omega) ⟨trivial,h3⟩ Y v2
   |junk=>trivial
   |sl z r off len=>exact monoL (.sl z r off len) v z (by simpa[uG] using h4) ⟨rfl,h3⟩ Y v2
   |ptr z r i j=>exact monoL (.ptr z r i j) v z (by simpa[uG] using h4) ⟨rfl,h3⟩ Y v2
   |fn f z qs=>
    obtain⟨vs,e1,e2,e3,e4⟩:=v2;exact monoL (.fn f z qs) v z (by simpa[uG] using h4) ⟨⟨rfl,ZU e3⟩,h3⟩ Y ⟨vs,e1,e2,e3,e4⟩
  |_=>cases h3
 have hG0:(DL R (mc ρ s.H fa) tml H jump hnl hH ht).G g0 (fun _=>True) W1:=by
  refine⟨by rw[hj0];exact hL1,rfl,by show a.tmps.size=_;rw[hsz,<- htl.1],?_,fun t x hx=>htmL _ _ hH0 t x hx⟩;show Inv W1 _ _ (H g0) _ W1;rw[hH0];exact hinvL
 refine⟨w.heap.size+1,[{target:= .collected w.heap.size,args:= #[]}],W1,{target:= .fn (.func f) #[],args:=fs++ #[.func (.yield (w.heap.size+1)) #[] #[]]},W1,f,fs++ #[.func (.yield (w.heap.size+1)) #[] #[]],W1,?_,?_,fun _ _=>trivial,?_,fun h=>by simp[Fence.wide]at h,?_⟩
 ·rw[<- hW1];exact run_enterLoop_outer _ _ _ _ _
 ·simp only[resolve,hge,Deferred.ofValue];simp[go_sem]
 ·simp only[invoke];rw[Au hab]
  simp
 have e1:{a with defers:=[({target:= .collected w.heap.size,args:= #[]}:Deferred)]++a.defers}={a with defers:=[{target:= .collected w.heap.size,args:= #[]}]}:=by rw[h1];rfl
 rw[e1];refine CallsIn.mono (callsIn_wide.2 (hcon'.calls X1 (fun _=>True) W1 _ ρ0 c1 c2 (fun _ _=>trivial) hG0 (by simp[hfs]) fun j t hj=>?_)) ?_
 ·by_cases hjl:j<targs.length
  ·rw[XS hjl]at hj;obtain⟨v,v1,y,y1,y2⟩:=hts j t hj;refine⟨v,by rw[X8 (by omega)];exact v1,c3 t v (hcon'.sA t (by rw[YK];exact .inl (XH hj))) ?_⟩;have hrel:=bf htm y _ y1;rw[y2]at hrel;have hst:selfTV 0 t:=hcon'.sA t (by rw[YK];exact .inl (XH hj));cases t with
   |one z=>exact mono _ v (dj fa z) hrel
   |agg cs=>
    obtain⟨vs,e1,e2,e3⟩:=hrel;refine⟨vs,e1,e2,fun j x hx=>?_⟩;obtain⟨u,u1,u2,u3⟩:=e3 j x hx;rw[XK]at hx;obtain⟨z,_,rfl⟩:=XI.1 hx;exact⟨u,u1,u2,mono _ u (dj fa z) u3⟩
   |fn g cs=>
    obtain⟨u0,⟨vs,e1,e2,e3⟩,e4⟩:=hrel;refine⟨u0,⟨vs,e1,e2,fun j x hx=>?_⟩,e4⟩;obtain⟨u,u1,u2,u3⟩:=e3 j x hx;rw[XK]at hx;obtain⟨z,_,rfl⟩:=XI.1 hx;exact⟨u,u1,u2,mono _ u (dj fa z) u3⟩
   |tup ts=>
    obtain⟨vs,e1,e2,e3⟩:=hrel;refine⟨vs,e1,e2,fun j b cs hx=>?_⟩;obtain⟨u,u1,u2⟩:=e3 j b cs hx;rw[XK]at hx;obtain⟨z,_,hz⟩:=XI.1 hx;injection hz with hz1 hz2
    subst hz2;refine⟨u,u1,?_⟩;rcases u2 with⟨u2,vs2,k1,k2,k3⟩|⟨u2,x,e,u4⟩
    ·refine .inl ⟨u2,vs2,k1,k2,fun i x hi=>?_⟩;obtain⟨q,q1,q2,q3⟩:=k3 i x hi;rw[XK]at hi;obtain⟨z',_,rfl⟩:=XI.1 hi;exact⟨q,q1,q2,mono _ q (dj fa z') q3⟩
    refine .inr ⟨u2,x,e,mono _ u ?_ u4⟩;have:x∈List.map (b6 fa) z.2:=by rw[e];simp
    obtain⟨z',_,rfl⟩:=XR.1 this;exact dj fa z'
  have hj0:j=targs.length:=by
   have:=(XN.1 hj).1;simp at this;omega
  subst hj0;rw[XW (XY _),Zj]at hj;injection hj with hj
  subst hj;exact⟨.func (.yield (w.heap.size+1)) #[] #[],by rw[Yi (by omega),hfs,Zj];rfl,bV rfl⟩
 rintro e w3 ⟨v,rfl,ρ',hi,⟨hG1,hG2⟩,_⟩;have hG1:w3.heap[w.heap.size+1]?=some (R.obj (jump g1)):=hG1;refine⟨jump g1,_,run_endLoop hG1 (by show(if(jump g1).isNone=true then LoopState.ready else LoopState.done)≠ .busy;split<;>simp),?_⟩;generalize hw4:w3.putObj _ _=w4;have hl3:w.heap.size+1<w3.heap.size:=(XV.1 hG1).1;have same4: ∀j,j≠w.heap.size+1->w4.heap[j]?=w3.heap[j]?:=fun j hj=>by rw[<- hw4];exact World.putObj_heap_other hj
 have hsz4:w4.heap.size=w3.heap.size:=by rw[<- hw4];simp
 have hb: ∀j,famB F ρ0 j\/(DL R (mc ρ s.H fa) tml H jump hnl hH ht).B j->j≠w.heap.size/\w0.heap.size<=j:=fun j hj=>by
  have hw0:=hinv.keep.size;rcases hj with hj|hj|hj
  ·obtain⟨y,o',c',k1,k2⟩:=c4 j hj;have k1:(s.H fa)[y]?=some o':=by simpa[famH] using k1
   have:=hls fa y o' j c' k1 k2;have:=(hinv.old fa y o' j c' k1 k2).1.resolve_right id;omega
  ·have:j=w.heap.size+1:=hj;omega
  have:=hownlt j hj;omega
 have hk:=hi.keep;have htail:Pa w0 (mc ρ s.H fa) w.heap.size ⟨tml,H g1⟩ {a with defers:=[{target:= .collected w.heap.size,args:= #[]}]} w4:=by
  have hinv4:Inv w4 (ownB (mc ρ s.H fa)) (fun j=>j<w0.heap.size\/j=w.heap.size) (H g1) (mc ρ s.H fa) w4:=Cn (hH g1) hG2.2.2.1 (fun j hj=>same4 j (fun h=>by have:=(hownlt j hj).1;omega)) _ (fun j hj=>by
   have h1:=hinv.keep.size;have h2:=hk.size;omega) (fun j hj h=>by have:=hownlt j hj;omega)
  refine⟨⟨rfl,by show a.tmps.size=_;rw[hsz,<- htl.1],hinv4,fun t x hx=>?_⟩,⟨?_,?_,?_,?_,fun j hj _=>?_⟩,fun j hj=>(hownlt j hj).2,?_,fun h=>by have:=(hownlt _ h).1;omega,hinv.keep.size⟩
  ·obtain⟨v,v1,v2⟩:=hG2.2.2.2 t x hx;have ht':=ht;simp only[XO]at ht';exact⟨v,v1,Ax (ht' x (XH hx)) (mg _) v2⟩
  ·rw[<- hw4];show w3.os=_;rw[hk.os,<- hW1];exact hinv.keep.os
  ·rw[<- hw4];show w3.tape=_;rw[hk.tape,<- hW1];exact hinv.keep.tape
  ·rw[<- hw4];show w3.output=_;rw[hk.output,<- hW1];exact hinv.keep.output
  ·have:=hinv.keep.size;have:=hk.size;omega
  ·have hs0:=hinv.keep.size;rw[same4 j (by omega),hk.block j (by omega) (fun h=>by have:=(hb j h).2;omega),hold j (by omega),hinv.keep.block j hj (fun h=>h)]
  rw[same4 _ (by omega),hk.block _ (by omega) (fun h=>(hb _ h).1 rfl)];exact hK1
 have:=hQ _ _ _ htail;cases hj:jump g1 with
 |none=>rw[hj]at this;exact this
 |some c=>rw[hj]at this;exact(wpIn_wide (n:=0)).2 this
end
end
section
section
variable {P:Program} {w0 w w':World} {O X:Nat->Prop} {s s':AS} {a:Act} {ρ:Rho} {γ:Type}
def A8 (w0:World) (X:Nat->Prop) (r:TV) (e:Ending) (w':World):Prop:= ∃v,e= .returned v/\ ∃ρ:Rho,Inv w0 (fun _=>False) X (famH 0 []) ρ w'/\r.rel ρ (famH 0 []) (Xo X ρ (famH 0 [])) w' v
def jZ (P:Program) (b:Func) (r:TV) (w0:World) (X:Nat->Prop):Exit->Act->World->Prop:=bodyPostM (FW none) 0 P b (A8 w0 X r)
def A0 (P:Program) (c:Code) (Post:World->(Nat->Prop)->Exit->Act->World->Prop) (s:AS):Prop:=
 ∀(w0:World) (X:Nat->Prop) (a:Act) (w:World),(∀b,X b->b<w0.heap.size)->de w0 (fun _=>False) X s a w->c.wp P (Post w0 X) a w
def xx (P:Program) (b:Func) (r:TV) (s:AS):Prop:= ∃s',bv s s'/\o7 P s' b.results.toList=some r/\noRefTV r=true
def KO (P:Program) (b:Func) (r:TV) (Post:World->(Nat->Prop)->Exit->Act->World->Prop) (next:AS->Prop):Exit->AS->Prop
 | .normal,s=>next s
 | .ret,s=>xx P b r s/\Post=jZ P b r
 |_,_=>False
theorem GH {v:Value} {wB:World} {OB n:Nat->Prop} {l:Rho} (q: ∀b,X b->b<w0.heap.size) (p:Keep (fun _=>False) w0 w) (m: ∀j,X j->n j) (u:noRefTV o=true) (h:o.rel l s.H (Xo n l s.H) w v):A8 w0 X o (.returned v) w:=by
 refine⟨v,rfl,fun _ _=>none,⟨p,fun x y e f=>?_,fun x y B C e A b c z _ _ h=>(by cases h),fun x y e b c _ h=>(by cases h),fun b t=>XZ (q b t) p.size,fun x y e f=>?_⟩,E5 (fun j _ g=>?_) u h⟩
 ·unfold famH at f;split at f<;>simp at f
 ·unfold famH at f;split at f<;>simp at f
 rcases g with g|⟨_,_,_,_,_,g⟩
 ·exact .inl (m j g)
 cases g
theorem JJ (h:xx P v o s) (n: ∀b,X b->b<w0.heap.size) (t:de w0 (fun _=>False) X s a w) {e:Exit} (p:e= .normal\/e= .ret):jZ P v o w0 X e a w:=by
 obtain⟨y,x,j,q⟩:=h;obtain⟨m,u,l,f,g⟩:=x _ _ _ _ _ t;have g:aT X l y a w:=g;obtain⟨c,z,A⟩:=fk f g j;have key:LeavesInM (FW none) 0 P v a.tmps (A8 w0 X o) a.defers .returning w:=by
  rw[m];exact⟨c,z,GH (wB:=w) (OB:=fun _=>False) n f.keep (fun _ h=>h) q A⟩
 rcases p with rfl|rfl
 ·exact key
 exact key
theorem BL {fn:Func} {args:List TV} (I:P.funcs[h]?=some fn) (H:fn.body=some b) (K:callable P h=true) (g:A0 P b (jZ P fn o) ⟨args++List.replicate (fn.ntmps-args.length) .undef,fun _=>[]⟩):CallC P h args ⟨[],o⟩:=by
 refine⟨K,fun X w vs E D q=>?_⟩;refine(callsIn_wide (n:=0)).1 (callsIn_of_wp_marks (F:=FW none) (n:=0) (R:=A8 w X o) I H trivial ((wpIn_wide (n:=0)).2 (g w X _ w E ?_)));refine⟨rfl,by simp[D],fun _ _=>none,⟨Keep.refl w,fun a o l z=>by simp at z,fun a o S W l U e b T z=>by simp at z,fun a o l e b z=>by simp at z,E,fun a o l z=>by simp at z⟩,fun t x m=>?_⟩;have C: ∀e,e<w.heap.size->Xo X (fun _ _=>none) (fun _=>[]) e->X e:=fun e _ g=>by
  rcases g with g|⟨a,o,l,b,A,G⟩
  ·exact g
  cases G
 by_cases L:t<args.length
 ·rw[XS L]at m;obtain⟨v,N,Q⟩:=q t x m;refine⟨v,by rw[X8 (by omega)];exact N,TV.rel_map Q (fun y u B=>?_)⟩;cases y with
  |p y=>exact bO.weaken C B
  |sl a o M len=>obtain⟨l,A,_⟩:=B;simp at A
  |ptr a o i j=>obtain⟨l,_,_,A,_⟩:=B;simp at A
  |fn h a V=>exact(pL (fun _=>rfl) B).elim
  |junk=>trivial
 rw[XW (by omega),YF]at m;split at m
 ·rename_i J;injection m with m
  subst m;refine⟨undef,?_,ee⟩;rw[Yi (by omega),Y8,if_pos (by omega)]
 cases m
variable {fn:Func} {r:TV} {Post:World->(Nat->Prop)->Exit->Act->World->Prop}
theorem Gk (h:bs P b (KO P fn r Post (A0 P c Post)) s):A0 P (.seq b c) Post s:=fun w0 X a w j m=>
 wp_seq (wp_mono (h _ _ _ _ _ m) fun e l w' ⟨s',f,g⟩=>by
  cases e with
  |normal=>exact f w0 X l w' j g
  |ret=>obtain⟨f,rfl⟩:=f;exact JJ f j g (.inr rfl)
  |_=>exact f.elim)
theorem yR (A: ∀b,X b->b<w0.heap.size) (c:Pa w0 ρ n s a w) {s':AS} {l:Act} {w':World} (B:RelR ρ [{target:= .collected n,args:= #[]}] w (ownB ρ) (fun j=>j<w0.heap.size\/j=n) s' l w') (F:xx P fn r s') {e:Exit} (E:e= .normal\/e= .ret):jZ P fn r w0 X e l w':=by
 obtain⟨M,H,u,G⟩:=F;have C:n<w.heap.size:=(XV.1 c.mark).1;have q:=B.2.2.1.keep;have x:w'.heap[n]?=some (.deferred (some [])):=by rw[q.block n C c.no.1];exact c.mark
 obtain⟨g,p⟩: ∃g,g=w'.putObj n (.deferred none):=⟨_,rfl⟩;have y:RelR ρ [{target:= .collected n,args:= #[]}] g (ownB ρ) (fun j=>j<w0.heap.size\/j=n) s' l g:=by
  subst p;exact B.turn (fun j t=>World.putObj_heap_other fun h=>t (.inr h)) (by simp)
 obtain⟨I,J,K,L⟩:=y;obtain⟨_,_,z,m,f⟩:=H g (ownB ρ) _ {l with defers:=[]} g ⟨rfl,J,ρ,K,L⟩;have f:aT _ z M {l with defers:=[]} g:=f;obtain⟨v,N,Q⟩:=fk m f u;have o:Keep (fun _=>False) w0 g:=by
  subst p;refine⟨q.os.trans c.keep.os,q.tape.trans c.keep.tape,q.output.trans c.keep.output,?_,fun j t _=>?_⟩
  ·have:=c.keep.size;have:=q.size;simp;omega
  have:=c.no.2;have:=c.keep.size;rw[World.putObj_heap_other (by omega),q.block j (by omega) (fun h=>by have:=c.own j h;omega),c.keep.block j t (fun h=>h)]
 have key:LeavesInM (FW none) 0 P fn l.tmps (A8 w0 X r) l.defers .returning w':=by
  rw[I];refine⟨by simp,.inl ⟨n,g,rfl,by rw[p];exact run_takeDeferred x,v,N,GH (wB:=g) (OB:=ownB ρ) A o (fun j t=> .inl (A j t)) G Q⟩⟩
 rcases E with rfl|rfl
 ·exact key
 exact key
theorem N0 (j: ∀f,X f->f<w0.heap.size) (g:Pa w0 ρ m s a w) (h:uw P none ρ [{target:= .collected m,args:= #[]}] b (fun e s'=>(e= .normal\/e= .ret)/\xx P fn r s') s):b.wp P (jZ P fn r w0 X) a w:=
 (wpIn_wide (n:=0)).1 (wpIn_mono (h _ _ _ _ _ g.rel) fun _ _ _ ⟨_,⟨l,o⟩,p⟩=>yR j g p o l)
end
end
section
section
variable {P:Program} {w0 w w':World} {O X:Nat->Prop} {s s':AS} {a:Act} {ρ:Rho} {γ:Type} {L:gM γ} {g g':γ}
theorem vo (f:Inv w0 O X t ρ w) {d r:Nat} {o o':OObj} {cells:Array Value} (F:(t d)[r]?=some o) (I:ρ d r=some (n,m)) (hh:w.heap[n]?=some (.cells cells o.ty (0,0))) (ac:o'.ty=o.ty) (E:o'.es=o.es) (ae:o'.elems.length=o.elems.length) (aa: ∀e∈o'.elems,e.length=o'.es) (G:selfO d o') (hc: ∀(i:Nat) e (j:Nat) x,o'.elems[i]?=some e->e[j]?=some x-> ∃v:Value,cells[i*o.es+j]?=some v/\v.oneCell'=true/\x.rel ρ t (Xo X ρ t) w v):
  Inv w0 O X (aw t d ((t d).set r o')) ρ w/\ ∀x v,AV.rel ρ t (Xo X ρ t) w x v->AV.rel ρ (aw t d ((t d).set r o')) (Xo X ρ (aw t d ((t d).set r o'))) w x v:=by
 have p: ∀(x y:Nat) q,(aw t d ((t d).set r o') x)[y]?=some q->(x=d/\y=r/\q=o')\/((x≠d\/y≠r)/\(t x)[y]?=some q):=fun x y q h=>by
  by_cases K:x=d
  ·subst K;rw[aI,qr F]at h;split at h
   ·rename_i M;injection h with h;exact .inl ⟨rfl,M,h.symm⟩
   rename_i M;exact .inr ⟨.inr M,h⟩
  rw[ay K]at h;exact .inr ⟨.inl K,h⟩
 have ab: ∀(x y:Nat) q,(t x)[y]?=some q-> ∃N,(aw t d ((t d).set r o') x)[y]?=some N/\N.es=q.es/\q.elems.length<=N.elems.length/\ρ x y=ρ x y:=fun x y q h=>by
  by_cases K:x=d
  ·subst K;rw[aI,qr F];by_cases M:y=r
   ·subst M;rw[F]at h;injection h with h
    subst h;exact⟨o',if_pos rfl,E,by omega,rfl⟩
   exact⟨q,by rw[if_neg M];exact h,rfl,XY _,rfl⟩
  exact⟨q,by rw[ay K];exact h,rfl,XY _,rfl⟩
 have D: ∀(x y:Nat) q R T,(aw t d ((t d).set r o') x)[y]?=some q->ρ x y=some (R,T)->R<w.heap.size->Xo X ρ t R:=fun x y q R T h1 h2 _=>by
  rcases p x y q h1 with⟨rfl,rfl,_⟩|⟨_,C⟩
  ·exact .inr ⟨_,_,o,T,F,h2⟩
  exact .inr ⟨x,y,q,T,C,h2⟩
 have mono: ∀x v,AV.rel ρ t (Xo X ρ t) w x v->AV.rel ρ (aw t d ((t d).set r o')) (Xo X ρ (aw t d ((t d).set r o'))) w x v:=fun x v h=>
  mO (b:=n) (.inr ⟨d,r,o,m,F,I⟩) ⟨rfl,rfl,rfl,XY _,fun _ _ _=>rfl⟩ ab D h
 have A: ∀(x y:Nat) q,(aw t d ((t d).set r o') x)[y]?=some q-> ∃Q,(t x)[y]?=some Q:=fun x y q h=>by
  rcases p x y q h with⟨rfl,rfl,_⟩|⟨_,C⟩
  ·exact⟨o,F⟩
  exact⟨q,C⟩
 refine⟨⟨f.keep,fun x y q h=>?_,fun x y x' y' q N S U c2 h h' V e2=>?_,fun x y q S U h V=>?_,f.bar,fun x y q h=>?_⟩,mono⟩
 ·rcases p x y q h with⟨rfl,rfl,rfl⟩|⟨_,C⟩
  ·obtain⟨q1,q2,J⟩:=f.objs x y o F;rw[I]at J;obtain⟨l,B,p2,p3,p4,p5⟩:=J;rw[hh]at B;injection B with B
   injection B with B
   subst B;refine⟨aa,by omega,?_⟩;rw[I];refine⟨cells,by rw[ac];exact hh,by rw[E];exact p2,by omega,p4,fun i e j z Z hz=>?_⟩;obtain⟨u,u1,u2,u3⟩:=hc i e j z Z hz;exact⟨u,by rw[E];exact u1,u2,mono z u u3⟩
  obtain⟨q1,q2,J⟩:=f.objs x y q C;refine⟨q1,q2,?_⟩;cases hr:ρ x y with
  |none=>rw[hr]at J;exact J
  |some bc=>
   obtain⟨S,U⟩:=bc;rw[hr]at J;obtain⟨l,B,p2,p3,p4,p5⟩:=J;exact⟨l,B,p2,p3,p4,fun i e j z Z hz=>by obtain⟨u,u1,u2,u3⟩:=p5 i e j z Z hz;exact⟨u,u1,u2,mono z u u3⟩⟩
 ·obtain⟨Q,W⟩:=A x y q h;obtain⟨ad,Y⟩:=A x' y' N h';exact f.inj x y x' y' Q ad S U c2 W Y V e2
 ·obtain⟨Q,W⟩:=A x y q h;exact f.old x y Q S U W V
 rcases p x y q h with⟨rfl,rfl,rfl⟩|⟨_,C⟩
 ·exact G
 exact f.self x y q C
def Tj (s:AS) (d c k:Nat) (e:TypeId) (b:List AV) (f:OObj) (len:Nat):AS:=
 ⟨(s.tmps.map (aM fun x _=>x==c)).set d (.one (.ptr d 0 0 0)),aw (aw s.H d [⟨e,b.length,[b.set k (.sl d 1 0 len)]⟩,f]) c []⟩
theorem JV {o:Oper} {e:TypeId} {d k len:Nat} {C:AS} {Z:OObj} (ho:o.op= .box e l) (ah:o.dst=some d) (hx:C.ev l=some (.agg r)) (hk:r[k]?=some (.sl n 0 0 len)) (hp: ∀(j:Nat) y,r[j]?=some y->j≠k->isPure y=true) (ad:C.H n=[Z]) (a7: ∀e∈Z.elems,∀l∈e,isPure l=true) (a4:n<=4999) (hd:C.H d=[]):zg P o (de w0 O X C) (de w0 O X (Tj C d n k e r Z len)):=fun a w K Q hr hK=>by
 obtain⟨h1,a8,ρ,G,T⟩:=hr;have T:aT X ρ C a w:=T;have J:n≠d:=by rintro rfl;rw[hd]at ad;cases ad
 obtain⟨vs,hv,r1,r2⟩:=bf T l _ hx;have bb:k<r.length:=(XN.1 hk).1;refine js (.inl rfl) ?_;have ac:(execOp a.eval o).run P w= .ok (.value (.pointer (some ⟨w.heap.size,0,none⟩))) (w.alloc (.cells vs e)):=by
  unfold execOp;rw[ho];simp only;have:=dm (P:=P) (Hk (P:=P) (w:=w) e (a.eval l));rw[hv]at this⊢;exact this
 unfold Oper.wp;rw[ac];refine hK _ _ ?_;rw[ah]
 -- the box with the slice forgotten
 have E:Ext w (w.alloc (.cells vs e)):=⟨rfl,rfl,rfl,by simp,fun j B=>aak _ _ _ B⟩;have M:(w.alloc (.cells vs e)).heap[w.heap.size]?=some (.cells vs e (0,0)):=World.alloc_heap_new _ _
 let f:Nat->Option (Nat×Nat):=fun m=>if m=0 then some (w.heap.size,1)else none
 have hf: ∀m b c,f m=some (b,c)->m=0/\b=w.heap.size/\c=1:=fun m b c h=>by
  show m=0/\_;have h:(if m=0 then some (w.heap.size,1)else none)=some (b,c):=h;split at h
  ·rename_i h0;injection h with h;injection h with h h';exact⟨h0,h.symm,h'.symm⟩
  cases h
 have I: ∀m b c,f m=some (b,c)->w.heap.size<=b:=fun m b c h=>by have:=hf m b c h;omega
 have V: ∀(j:Nat) y,(r.set k .junk)[j]?=some y->(j=k/\y= .junk)\/(j≠k/\r[j]?=some y):=fun j y h=>by
  rw[Yz]at h;split at h
  ·rename_i B;injection h with h;exact .inl ⟨B.symm,h.symm⟩
  rename_i B;exact .inr ⟨fun e=>B e.symm,h⟩
 obtain⟨a2,ba⟩:=Hb (F:=[⟨e,r.length,[r.set k .junk]⟩]) G T E hd f I (fun m r' b c c' h h'=>by have:=hf m b c h;have:=hf r' b c' h';omega) (fun m q hq=>by
  cases m with
  |succ m=>simp at hq
  |zero=>
   simp at hq;subst hq;intro e' A y D;simp at A;subst A;obtain⟨j,B⟩:=YY.1 D;rcases V j y B with⟨_,rfl⟩|⟨av,ae⟩
   ·trivial
   exact ck (hp j y ae av)) (fun m q hq=>by
  cases m with
  |succ m=>simp at hq
  |zero=>
   simp at hq;subst hq;refine⟨fun e' A=>by simp at A;subst A;simp,by show 0<r.length;omega,?_⟩;rw[newρ_eq,show f 0=some (w.heap.size,1)from rfl];refine⟨vs,M,by rw[r1,ZH],XY _,by decide,fun i e' j y A D=>?_⟩;cases i with
   |succ i=>simp at A
   |zero=>
    simp at A;subst A;rw[aae,Yw];rcases V j y D with⟨rfl,rfl⟩|⟨av,ae⟩
    ·obtain⟨u,u1,u2,_⟩:=r2 j _ hk;exact⟨u,u1,u2,trivial⟩
    obtain⟨u,u1,u2,u3⟩:=r2 j y ae;exact⟨u,u1,u2,iW G E hd I u3⟩)
 -- the row joins the box
 have al:aw C.H d [⟨e,r.length,[r.set k .junk]⟩] n=[Z]:=by rw[ay J];exact ad
 obtain⟨a3,S,a9⟩:=yf a2 (a:=d) (b:=n) a4 J al a7;have a0:=zM (s:=⟨C.tmps,_⟩) ba S;generalize a1:(fun l y=>if l=d/\y=(aw C.H d [⟨e,r.length,[r.set k .junk]⟩] d).length then newρ ρ d f n 0 else newρ ρ d f l y:Rho)=ρ2 at*
 generalize aa:aw (aw (aw C.H d [⟨e,r.length,[r.set k .junk]⟩]) d (aw C.H d [⟨e,r.length,[r.set k .junk]⟩] d++[Z])) n []=H2 at*
 have U:H2 d=[⟨e,r.length,[r.set k .junk]⟩,Z]:=by rw[<- aa,ay (Zl J),aI,aI];rfl
 have R:ρ2 d 0=some (w.heap.size,1):=by
  rw[<- a1];simp only[aI,List.length_singleton];rw[if_neg (by omega),newρ_eq];rfl
 -- what the cell holds
 obtain⟨u,u1,u2,u3⟩:=r2 k _ hk;have ab:AV.rel ρ2 H2 (Xo X ρ2 H2) (w.alloc (.cells vs e)) (.sl d 1 0 len) u:=by
  have:=a9 0 len u (iW G E hd I u3);rw[aI]at this;exact this
 obtain⟨Y,ag⟩:=vo a3 (d:=d) (r:=0) (o:=⟨e,r.length,[r.set k .junk]⟩) (o':=⟨e,r.length,[r.set k (.sl d 1 0 len)]⟩) (by rw[U];rfl) R M rfl rfl rfl (fun e' A=>by simp at A;subst A;simp) (fun e' A y D=>by
   simp at A;subst A;obtain⟨j,B⟩:=YY.1 D;rw[Yz]at B;split at B
   ·injection B with B;subst B;rfl
   ·rename_i a5;exact ck (hp j y B (fun e=>a5 e.symm))) (fun i e' j y A D=>by
   cases i with
   |succ i=>simp at A
   |zero=>
    simp at A;subst A;rw[aae,Yw];rw[Yz]at D;split at D
    ·rename_i B;subst B;injection D with D
     subst D;exact⟨u,u1,u2,ab⟩
    rename_i B;obtain⟨u',q1,q2,q3⟩:=r2 j y D;refine⟨u',q1,q2,?_⟩;have a6:=hp j y D (fun e=>B e.symm);have:=S y u' (iW G E hd I q3);cases y with
    |p y=>exact this
    |_=>cases a6)
 have W:aT X ρ2 ⟨C.tmps.map (aM fun l _=>l==n),aw H2 d ((H2 d).set 0 ⟨e,r.length,[r.set k (.sl d 1 0 len)]⟩)⟩ a (w.alloc (.cells vs e)):=fun t y D=>by
  obtain⟨v,v1,v2⟩:=a0 t y D;exact⟨v,v1,TV.rel_map v2 ag⟩
 have ap:aw H2 d ((H2 d).set 0 ⟨e,r.length,[r.set k (.sl d 1 0 len)]⟩)=aw (aw C.H d [⟨e,r.length,[r.set k (.sl d 1 0 len)]⟩,Z]) n []:=by
  funext z;by_cases N:z=d
  ·subst N;rw[aI,U,ay (Zl J),aI];rfl
  rw[ay N];by_cases af:z=n
  ·subst af;rw[<- aa,aI,aI]
  rw[<- aa,ay af,ay N,ay N,ay af,ay N]
 rw[ap]at Y W;have:=dY (s:=⟨C.tmps.map (aM fun l _=>l==n),aw (aw C.H d [⟨e,r.length,[r.set k (.sl d 1 0 len)]⟩,Z]) n []⟩) (d:=some d) (t:= .one (.ptr d 0 0 0)) (v:= .pointer (some ⟨w.heap.size,0,none⟩)) h1 (by simpa using a8) Y W ⟨⟨e,r.length,[r.set k (.sl d 1 0 len)]⟩,w.heap.size,1,by
  show(aw (aw C.H d _) n [] d)[0]?=_;rw[ay (Zl J),aI];rfl,R,by simp,by simp⟩
 exact this
/-! The forms that the macros use. -/
variable {Q:Exit->AS->γ->Prop}
theorem DU (n:P.follows .mixedOrders=true) {args:List TV} {t:List OObj} (j:pi P L h args f t g g' o) (l:Nat) (c:List (an P)) (u:List Nat) {id:Nat} (m:l<=4999) (v:EE e=true) (b: ∀K:AS->Prop,(∀p,(A6 e (e.size-1) h args l f p/\Q .normal (U3 e (e.size-1) o l t p) g')->K p)->aV P (c.map an.a) u (aJ e (e.toList.take (e.size-1)) 0) (some s) K):qY P L (.region id e true) Q s g:=
 Im n j l c u m v (b _ fun _ q=>q)
theorem Bq (f:P.follows .mixedOrders=true) {args:List Value} (p:rj P L n args g g' u) (c:List (an P)) (m:List Nat) {id:Nat} (o:EE e=true) (h: ∀K:AS->Prop,(∀j,(Vd e (e.size-1) j=some (n,args)/\Q .normal (yS e (e.size-1) u j) g')->K j)->aV P (c.map an.a) m (aJ e (e.toList.take (e.size-1)) 0) (some s) K):qY P L (.region id e true) Q s g:=
 DV f p c m o (h _ fun _ q=>q)
variable {QA:Exit->AS->Prop}
structure Wt (ops:Array Oper) (m d fa k:Nat) (e:TypeId) (cs:List AV) (ob:OObj) (len:Nat) (s:AS):Prop where
 x: ∃o x,ops[m]?=some o/\o.guard=none/\o.op= .box e x/\o.dst=some d/\s.ev x=some (.agg cs)
 k:cs[k]?=some (.sl fa 0 0 len)
 fam:s.H fa=[ob]
 new:s.H d=[]
theorem Ij (m d r k:Nat) {e:TypeId} {cs:List AV} {ob:OObj} {len:Nat} (b:List (an P)) (p:List Nat) {id:Nat} {c:Array Oper} (H: ∀(j:Nat) y,cs[j]?=some y->j≠k->isPure y=true) (v: ∀e∈ob.elems,∀x∈e,isPure x=true) (t:r<=4999) (F:m<c.toList.length)
  (h: ∀K:AS->Prop,(∀q,(Wt c m d r k e cs ob len q/\ ∀K:AS->Prop,(∀s',QA .normal s'->K s')->aV P (b.map an.a) p (aJ c (c.toList.drop (m+1)) (m+1)) (some (Tj q d r k e cs ob len)) K)->K q)->aV P (b.map an.a) p (aJ c (c.toList.take m) 0) (some s) K):bs P (.region id c false) QA s:=fun w0 O X a w M=>by
 obtain⟨q,z,⟨⟨o,x,G,D,u,f,I⟩,E,l,n⟩,A⟩:=aO P (b.map an.a) p c _ 0 s _ (h _ fun _ h=>h);obtain⟨s',B,C⟩:=aO P (b.map an.a) p c _ (m+1) _ _ (A _ fun _ h=>h);exact qH (ks:=[]) (R1:=de w0 O X) (R2:=de w0 O X) CE.k CE.k m b p rfl F z ⟨o,G,D,JV u f I E H l v t n⟩ B M fun N w' J=>⟨s',C,J⟩
end
end
theorem kO (a f i j:Nat) (ty:TypeId) (es:Nat) (al:0<es) {o:OObj} (M:(s.H a)[f]?=some o) (T:o.elems[i]?=some r) (hj:r[j]?=some (.raw (.slice none 0 0))):
  bv s ⟨s.tmps,aw s.H a ((s.H a).set f {o with elems:=o.elems.set i (r.set j (.sl a (s.H a).length 0 0))}++[⟨ty,es,[]⟩])⟩:=by
 rintro w0 O X ag w ⟨h1,a0,F,l,Z⟩;have Z:aT X F s ag w:=Z;generalize hn:(s.H a).length=n;have a2:f<n:=by rw[<- hn];exact(XN.1 M).1
 generalize G:({o with elems:=o.elems.set i (r.set j (.sl a n 0 0))}:OObj)=o';have J:o'.es=o.es:=by rw[<- G]
 have Y:o'.elems.length=o.elems.length:=by rw[<- G];simp
 have ae:o'.ty=o.ty:=by rw[<- G]
 generalize aa:aw s.H a ((s.H a).set f o'++[⟨ty,es,[]⟩])=K
 let C:Rho:=fun x y=>if x=a/\y=n then none else F x y
 have W:K a=(s.H a).set f o'++[⟨ty,es,[]⟩]:=by rw[<- aa,aI]
 have ab: ∀x,x≠a->K x=s.H x:=fun x h=>by rw[<- aa,ay h]
 have ac: ∀(x y:Nat) q,(s.H x)[y]?=some q-> ∃Q,(K x)[y]?=some Q/\Q.es=q.es/\Q.elems.length=q.elems.length/\C x y=F x y:=fun x y q h=>by
  by_cases N:x=a
  ·subst N;have hy:y<n:=by rw[<- hn];exact(XN.1 h).1
   have L:C x y=F x y:=if_neg (by omega);rw[W,XS (by simp;omega),qr M];by_cases P:y=f
   ·subst P;rw[M]at h;injection h with h
    subst h;exact⟨o',if_pos rfl,J,Y,L⟩
   exact⟨q,by rw[if_neg P];exact h,rfl,rfl,L⟩
  exact⟨q,by rw[ab x N];exact h,rfl,rfl,if_neg fun h=>N h.1⟩
 have E: ∀(x y:Nat) q,(K x)[y]?=some q->(x=a/\y=f/\q=o'/\C x y=F x y)\/(x=a/\y=n/\q=⟨ty,es,[]⟩/\C x y=none)\/((s.H x)[y]?=some q/\C x y=F x y):=fun x y q h=>by
  by_cases N:x=a
  ·subst N;rw[W]at h;by_cases hy:y<n
   ·rw[XS (by simp;omega),qr M]at h;split at h
    ·rename_i P;injection h with h;exact .inl ⟨rfl,P,h.symm,if_neg (by omega)⟩
    exact .inr (.inr ⟨h,if_neg (by omega)⟩)
   rw[XW (by simp;omega)]at h;have af:y-((s.H x).set f o').length=0:=by
    have:=(XN.1 h).1;simp at this⊢;omega
   rw[af]at h;injection h with h
   simp at af;exact .inr (.inl ⟨rfl,by omega,h.symm,if_pos ⟨rfl,by omega⟩⟩)
  rw[ab x N]at h;exact .inr (.inr ⟨h,if_neg fun h=>N h.1⟩)
 have ah: ∀c,Xo X C K c->Xo X F s.H c:=fun c hc=>by
  rcases hc with hc|⟨x,y,q,m,g1,V⟩
  ·exact .inl hc
  rcases E x y q g1 with⟨rfl,rfl,rfl,g⟩|⟨_,_,_,g⟩|⟨I,g⟩
  ·exact .inr ⟨_,_,o,m,M,by rw[<- g];exact V⟩
  ·rw[g]at V;cases V
  exact .inr ⟨x,y,q,m,I,by rw[<- g];exact V⟩
 have mono: ∀x v,AV.rel F s.H (Xo X F s.H) w x v->AV.rel C K (Xo X C K) w x v:=pC fun x v hn h=>by
  cases x with
  |fn=>cases hn
  |p x=>exact bO.weaken (fun c _ hc=>ah c hc) h
  |junk=>trivial
  |sl x y a3 len=>
   obtain⟨q,g1,V,g⟩:=h;obtain⟨Q,k1,k2,k3,k4⟩:=ac x y q g1;exact⟨Q,k1,by omega,by rw[k4,k2];exact g⟩
  |ptr x y i j=>
   obtain⟨q,b,c,g1,V,g,I⟩:=h;obtain⟨Q,k1,k2,k3,k4⟩:=ac x y q g1;exact⟨Q,b,c,k1,by rw[k4];exact V,by omega,by rw[k2];exact I⟩
 refine⟨h1,a0,C,⟨l.keep,fun x y q h=>?_,fun x y x' y' q Q b c1 c2 h h' L e2=>?_,fun x y q b c h L=>?_,l.bar,fun x y q h=>?_⟩,fun t x N=>?_⟩
 ·rcases E x y q h with⟨rfl,rfl,rfl,g⟩|⟨rfl,rfl,rfl,g⟩|⟨I,g⟩
  ·obtain⟨q1,q2,R⟩:=l.objs x y o M;refine⟨fun U A=>?_,by omega,?_⟩
   ·rw[<- G]at A⊢;rcases YO A with A|rfl
    ·exact q1 U A
    rw[List.length_set];exact q1 r (XH T)
   rw[g];cases hr:F x y with
   |none=>
    rw[hr]at R;rw[R]at T;simp at T
   |some bc=>
    obtain⟨b,c⟩:=bc;rw[hr]at R;obtain⟨cells,p1,p2,p3,p4,p5⟩:=R;refine⟨cells,by rw[ae];exact p1,by rw[J];exact p2,by omega,p4,fun i' U j' z B D=>?_⟩;rw[J];rw[<- G]at B;simp only at B;rw[Yz]at B;split at B
    ·rename_i ap;subst ap;split at B
     ·injection B with B
      subst B;rw[Yz]at D;split at D
      ·rename_i av;subst av;split at D
       ·injection D with D
        subst D;obtain⟨u,u1,u2,u3⟩:=p5 i r j _ T hj;refine⟨u,u1,u2,⟨ty,es,[]⟩,?_,by simp,.inl ⟨if_pos ⟨rfl,rfl⟩,?_,rfl,rfl⟩⟩
        ·show(K x)[n]?=_;rw[W,XW (by simp;omega)];simp[hn]
        exact(aU (ρ:=F) (H:=s.H) u3).1
       cases D
      obtain⟨u,u1,u2,u3⟩:=p5 i r j' z T D;exact⟨u,u1,u2,mono z u u3⟩
     cases B
    obtain⟨u,u1,u2,u3⟩:=p5 i' U j' z B D;exact⟨u,u1,u2,mono z u u3⟩
  ·exact⟨fun U A=>(by cases A),al,(by rw[g])⟩
  obtain⟨q1,q2,R⟩:=l.objs x y q I;refine⟨q1,q2,?_⟩;rw[g];cases hr:F x y with
  |none=>rw[hr]at R;exact R
  |some bc=>
   obtain⟨b,c⟩:=bc;rw[hr]at R;obtain⟨cells,p1,p2,p3,p4,p5⟩:=R;exact⟨cells,p1,p2,p3,p4,fun i r j z T hz=>by obtain⟨u,u1,u2,u3⟩:=p5 i r j z T hz;exact⟨u,u1,u2,mono z u u3⟩⟩
 ·have S: ∀(x y:Nat) q b c,(K x)[y]?=some q->C x y=some (b,c)-> ∃q0,(s.H x)[y]?=some q0/\F x y=some (b,c):=fun x y q b c h r=>by
   rcases E x y q h with⟨rfl,rfl,rfl,g⟩|⟨_,_,_,g⟩|⟨I,g⟩
   ·exact⟨o,M,by rw[<- g];exact r⟩
   ·rw[g]at r;cases r
   exact⟨q,I,by rw[<- g];exact r⟩
  obtain⟨q0,k1,k2⟩:=S x y q b c1 h L;obtain⟨a1,k3,k4⟩:=S x' y' Q b c2 h' e2;exact l.inj x y x' y' q0 a1 b c1 c2 k1 k3 k2 k4
 ·rcases E x y q h with⟨rfl,rfl,rfl,g⟩|⟨_,_,_,g⟩|⟨I,g⟩
  ·exact l.old _ _ o b c M (by rw[<- g];exact L)
  ·rw[g]at L;cases L
  exact l.old x y q b c I (by rw[<- g];exact L)
 ·rcases E x y q h with⟨rfl,rfl,rfl,g⟩|⟨rfl,rfl,rfl,g⟩|⟨I,g⟩
  ·have ad:=l.self x y o M;rw[<- G];intro U A z hz;rcases YO A with A|rfl
   ·exact ad U A z hz
   rcases YO hz with hz|rfl
   ·exact ad r (XH T) z hz
   rfl
  ·exact fun U A=>by cases A
  exact l.self x y q I
 obtain⟨v,v1,v2⟩:=Z t x N;exact⟨v,v1,TV.rel_map v2 mono⟩
section
section
variable {P:Program} {γ:Type} {L:gM γ} {g g':γ} {w0 w w':World} {O X Y:Nat->Prop} {s s':AS} {a:Act} {ks:List Nat} {vf:Nat->Option Value}
def jm (L:gM γ) (ks:List Nat) (vf:Nat->Option Value) (Y:Nat->Prop) (w0:World) (O X:Nat->Prop) (g:γ) (s:AS) (a:Act) (w:World):Prop:=eK L Y w0 O X g s a w/\ ∀k∈ks,a.tmps[k]?=vf k
theorem fp:xw ks (jm L ks vf Y w0 O X g):=fun s a w ⟨h,n⟩=>by
 obtain⟨o,c,f,l,m⟩:=rE s a w h;exact⟨o,c,f,l,fun s' j w' e r=>⟨m s' j w' r,fun k b=>(e k b).trans (n k b)⟩⟩
theorem pc (t:da ks e=true) {f:AS} (h:uh P e n (eK L Y w0 O X g s) (eK L Y w0 O X g' f)):uh P e n (jm L ks vf Y w0 O X g s) (jm L ks vf Y w0 O X g' f):=by
 obtain⟨o,c,q,u⟩:=h;exact⟨o,c,q,fun a w K Q ⟨j,l⟩ p=>u a w K Q j fun v w' r=>p v w' ⟨r,fun k b=>(kW t c v k b).trans (l k b)⟩⟩
def dT (P:Program) (L:gM γ) (ks:List Nat) (c:Code) (Q:Exit->AS->γ->Prop) (s:AS) (g:γ):Prop:=
 ∀(vf:Nat->Option Value) (Y:Nat->Prop) (w0:World) (O X:Nat->Prop) (a:Act) (w:World),jm L ks vf Y w0 O X g s a w->c.wp P (fun e b w'=> ∃s' g',Q e s' g'/\jm L ks vf Y w0 O X g' s' b w') a w
variable {Q:Exit->AS->γ->Prop}
theorem jm.weak (h:bv s s') (r:jm L ks vf Y w0 O X g s a w):jm L ks vf Y w0 O X g s' a w:=⟨r.1.weak h,r.2⟩
theorem dT.weak (h:bv s s') (q:dT P L ks b Q s' g):dT P L ks b Q s g:=fun _ _ _ _ _ _ _ r=>q _ _ _ _ _ _ _ (r.weak h)
theorem dJ (h:Q .normal s g):dT P L ks .skip Q s g:=fun _ _ _ _ _ _ _ r=>wp_skip ⟨s,g,h,r⟩
theorem mJ {id:Nat} (h:Q (.exit id) s g):dT P L ks (.exit id) Q s g:=fun _ _ _ _ _ _ _ r=>wp_exit ⟨s,g,h,r⟩
theorem lH (h:Q .ret s g):dT P L ks .ret Q s g:=fun _ _ _ _ _ _ _ r=>wp_ret ⟨s,g,h,r⟩
theorem bP (h:dT P L ks b (qI (dT P L ks c Q) Q) s g):dT P L ks (.seq b c) Q s g:=fun _ _ _ _ _ _ _ r=>
 wp_seq (wp_mono (h _ _ _ _ _ _ _ r) fun e a w ⟨s',g',f,j⟩=>by
  cases e with
  |normal=>exact f _ _ _ _ _ _ _ j
  |_=>exact⟨s',g',f,j⟩)
theorem fo {id:Nat} (h:dT P L ks b (Ed id Q) s g):dT P L ks (.block id b) Q s g:=fun _ _ _ _ _ _ _ r=>
 wp_block (wp_mono (h _ _ _ _ _ _ _ r) fun e a w ⟨s',g',c,f⟩=>by
  cases e with
  |exit j=>
   simp only[Ed]at c;simp only[Exit.inBlock];split at c
   ·rename_i hid;rw[if_pos hid];exact⟨s',g',c,f⟩
   rename_i hid;rw[if_neg hid];exact⟨s',g',c,f⟩
  |_=>exact⟨s',g',c,f⟩)
theorem Br (m:s.ev l=some (.raw (.bool u))) (p:u=true->dT P L ks b Q s g) (n:u=false->dT P L ks c Q s g):dT P L ks (.cond l b c) Q s g:=fun _ _ _ _ _ _ _ r=>by
 obtain⟨q,o,t,f,e⟩:=id r.1.1;have j:=(aU (bf e l _ m)).1;exact wp_cond_split j (fun h=>p h _ _ _ _ _ _ _ r) (fun h=>n h _ _ _ _ _ _ _ r)
theorem f4 (e:s.ev l=some (.raw (.bool true))) (h:dT P L ks b Q s g):dT P L ks (.cond l b c) Q s g:=Br e (fun _=>h) (fun h=>by cases h)
theorem fB (e:s.ev l=some (.raw (.bool false))) (h:dT P L ks c Q s g):dT P L ks (.cond l b c) Q s g:=Br e (fun h=>by cases h) (fun _=>h)
theorem DY (e:s.ev l=some (.raw (.bool true))) (h:dT P L ks c Q s g):dT P L ks (.seq (.cond l .skip b) c) Q s g:=bP (f4 e (dJ h))
theorem DW {id:Nat} (e:s.ev l=some (.raw (.bool false))) (h:Q (.exit id) s g):dT P L ks (.seq (.cond l b (.exit id)) c) Q s g:=bP (fB e (mJ h))
theorem K2 {G:Type} (St:G->AS) (Sc:G->γ) (q:G->Nat) (u:G) (F:bv s (St u)) (v:Sc u=g) (round: ∀i,dT P L ks b (qI (fun s' g'=> ∃j,q j<q i/\bv s' (St j)/\Sc j=g') Q) (St i) (Sc i)):dT P L ks (.loop b) Q s g:=fun vf Y w0 O X a w r=>by
 classical
 subst v
 let p:Act->World->Nat->Prop:=fun a w n=> ∃i,q i=n/\jm L ks vf Y w0 O X (Sc i) (St i) a w
 let m:Act->World->Nat:=fun a w=>if h: ∃n,p a w n then Classical.choose (bo h)else 0
 refine wp_loop (fun a w=> ∃n,p a w n) m ⟨_,u,rfl,r.weak F⟩ ?_;intro a w x;have I:m a w=Classical.choose (bo x):=dif_pos x;obtain⟨E,o⟩:=Za (bo x);rw[<- I]at E;obtain⟨i,M,J⟩:=E;refine wp_mono (round i _ _ _ _ _ _ _ J) fun e B w' ⟨s',t,C,D⟩=>?_
 cases e with
 |normal=>
  obtain⟨j,H,K,y⟩:=C;subst y;have l:=D.weak K;have f: ∃n,p B w' n:=⟨_,j,rfl,l⟩;refine⟨f,?_⟩;have A:m B w'=Classical.choose (bo f):=dif_pos f;obtain⟨_,z⟩:=Za (bo f);have:=z (q j) ⟨j,rfl,l⟩;rw[A];omega
 |_=>exact⟨s',t,C,D⟩
theorem jD {G:Type} (St:G->AS) (Sc:G->γ) (h:G->Nat) (c:G) {id:Nat} (j:bv s (St c)) (e:Sc c=g) (round: ∀i,dT P L ks b (qI (fun s' g'=> ∃f,h f<h i/\bv s' (St f)/\Sc f=g') (Ed id Q)) (St i) (Sc i)):dT P L ks (.block id (.loop b)) Q s g:=
 fo (K2 St Sc h c j e round)
theorem Gh (c:List (an P)) (l:List Nat) {id:Nat} (t:da ks e=true) (h:aV P (c.map an.a) l (aJ e e.toList 0) (some s) (fun s=>Q .normal s g)):dT P L ks (.region id e false) Q s g:=fun vf Y w0 O X a w r=>by
 obtain⟨s',m,p⟩:=aO P (c.map an.a) l e e.toList 0 s _ h;obtain⟨y,Oa,Xa,x,u⟩:=fp s a w r;refine(wpIn_wide (n:=0)).1 (wpIn_region (F:=FW none) ?_);have:=qn (n:=0) (suf:=[]) (Q:=fun b f w'=> ∃s' g',Q b s' g'/\jm L ks vf Y w0 O X g' s' f w') t e.toList 0 s s' a w (fun j o q=>by simpa using q) m x (fun f w' b v=>⟨s',g,p,u _ _ _ b v⟩);rw[YI,<- Ya,aaq]at this;exact this
theorem mL (c:List (an P)) (f:List Nat) {id:Nat} (j:da ks e=true) (h: ∀K:AS->Prop,(∀s',dT P L ks b Q s' g->K s')->aV P (c.map an.a) f (aJ e e.toList 0) (some s) K):dT P L ks (.seq (.region id e false) b) Q s g:=
 bP (Gh c f j (h _ fun _ h=>h))
theorem K3 (b:List (an P)) (c:List Nat) {id:Nat} (f:da ks e=true) (h: ∀K:AS->Prop,(∀s',Q .normal s' g->K s')->aV P (b.map an.a) c (aJ e e.toList 0) (some s) K):dT P L ks (.region id e false) Q s g:=
 Gh b c f (h _ fun _ h=>h)
theorem xE {id:Nat} (c:da ks e=true) (h: ∀K:AS->Prop,(∀s',dT P L ks b Q s' g->K s')->aV P [] [] (aJ e e.toList 0) (some s) K):dT P L ks (.seq (.region id e false) b) Q s g:=mL [] [] c h
theorem xD {id:Nat} (b:da ks e=true) (h: ∀K:AS->Prop,(∀s',Q .normal s' g->K s')->aV P [] [] (aJ e e.toList 0) (some s) K):dT P L ks (.region id e false) Q s g:=K3 [] [] b h
theorem Bt (m:Nat) {args:List Value} (y:rj P L n args g g' u) (c:List (an P)) (j:List Nat) {id:Nat} (o:da ks e=true) (x:m<e.toList.length) (h: ∀K:AS->Prop,(∀f,(Vd e m f=some (n,args)/\ ∀K:AS->Prop,(∀s',Q .normal s' g'->K s')->aV P (c.map an.a) j (aJ e (e.toList.drop (m+1)) (m+1)) (some (yS e m u f)) K)->K f)->aV P (c.map an.a) j (aJ e (e.toList.take m) 0) (some s) K):dT P L ks (.region id e false) Q s g:=fun vf Y w0 O X a w C=>by
 obtain⟨f,p,q,r⟩:=aO P (c.map an.a) j e _ 0 s _ (h (fun f=>Vd e m f=some (n,args)/\aV P (c.map an.a) j (aJ e (e.toList.drop (m+1)) (m+1)) (some (yS e m u f)) (fun s=>Q .normal s g')) fun f ⟨z,A⟩=>⟨z,A _ fun _ h=>h⟩);obtain⟨s',t,v⟩:=aO P (c.map an.a) j e _ (m+1) _ _ r;exact qH (R1:=jm L ks vf Y w0 O X g) (R2:=jm L ks vf Y w0 O X g') fp fp m c j o x p (pc o (wM y q)) t C fun D w' B=>⟨s',g',v,B⟩
/-! Row 0 stays where it lies. -/
def my (b:Nat) (h:List Nat):AV->AV
 | .sl x r c len=>if x=b then .junk else .sl x r c len
 | .ptr x r i j=>if x=b then(if h.contains r=true then .ptr x r i j else .junk)else .ptr x r i j
 | .fn f x e=>if x=b then .junk else .fn f x e
 |x=>x
theorem MC (c:Nat) (l:List Nat):og (my c l):=fun f b j=>by
 by_cases h:b=c
 ·exact .inl (if_pos h)
 exact .inr ⟨b,j,if_neg h,rfl,fun n q e=>⟨q,e,if_neg h⟩⟩
def pR (b:Nat) (c:List Nat):TV->TV
 | .one x=> .one (my b c x)
 | .agg e=> .agg (e.map (my b c))
 | .fn f e=> .fn f (e.map (my b c))
 | .tup h=> .tup (h.map fun t=>(t.1,t.2.map (my b c)))
theorem Mm {J p:Rho} {r:OH} {Y A:Nat->Prop} {v:Value} (h:o.rel J t Y w v) (F: ∀x v,x.rel J t Y w v->AV.rel p r A w' (my n j x) v):(pR n j o).rel p r A w' v:=by
 have e: ∀l v,bC J t Y w l v->bC p r A w' (l.map (my n j)) v:=fun l v ⟨vs,C,D,E⟩=>by
  refine⟨vs,C,by simpa using D,fun b x M=>?_⟩;rw[XK]at M;obtain⟨y,T,rfl⟩:=XI.1 M;obtain⟨u,G,m,I⟩:=E b y T;exact⟨u,G,m,F y u I⟩
 cases o with
 |one x=>exact F x v h
 |agg l=>exact e l v h
 |fn f l=>obtain⟨u,R,S⟩:=h;exact⟨u,e l u R,S⟩
 |tup Z=>
  obtain⟨vs,C,D,E⟩:=h;refine⟨vs,C,by simpa using D,fun b c l K=>?_⟩;rw[XK]at K;obtain⟨z,U,q⟩:=XI.1 K;obtain⟨N,B⟩:=z;simp at q;obtain⟨rfl,rfl⟩:=q;obtain⟨u,G,m⟩:=E b N B U;refine⟨u,G,?_⟩;rcases m with⟨m,I⟩|⟨m,W,rfl,V⟩
  ·exact .inl ⟨m,e _ _ I⟩
  exact .inr ⟨m,_,rfl,F _ _ V⟩
structure kL (P:Program) (L:gM γ) (rs:List Nat) (f:FuncId) (args:List TV) (F F':List OObj) (g g':γ) (r:TV):Prop where
 able:callable P f=true
 sA: ∀t∈args,selfTV 0 t
 sR:selfTV 0 r
 sF: ∀o∈F,selfO 0 o
 sF': ∀o∈F',selfO 0 o
 sh: ∀r∈rs,∀o,F[r]?=some o-> ∃o',F'[r]?=some o'/\o'.es=o.es/\o.elems.length<=o'.elems.length
 calls: ∀(X Y:Nat->Prop) (w:World) (vs:Array Value) (ρ:Rho),Inv w (fun j=>famB F ρ j\/L.B j) X (famH 0 F) ρ w->(∀j,L.B j->X j)->(∀j,(famB F ρ j\/L.B j)\/w.heap.size<=j->Y j)->L.G g Y w->vs.size=args.length->
  (∀(j:Nat) t,args[j]?=some t-> ∃v:Value,vs[j]?=some v/\t.rel ρ (famH 0 F) (Xo X ρ (famH 0 F)) w v)->
  Calls P f vs w fun e w'=> ∃v,e= .returned v/\ ∃ρ':Rho,Inv w (fun j=>famB F ρ j\/L.B j) X (famH 0 F') ρ' w'/\L.G g' Y w'/\r.rel ρ' (famH 0 F') (Xo X ρ' (famH 0 F')) w' v/\ ∀r∈rs,∀b c,ρ 0 r=some (b,c)-> ∃c',ρ' 0 r=some (b,c')
theorem kL.toL {args:List TV} {e:List OObj} (b:kL P L j h args f e g g' o):pi P L h args f e g g' o:=
 ⟨b.able,b.sA,b.sR,b.sF,b.sF',fun X Y w vs A l m n p q t=>(b.calls X Y w vs A l m n p q t).mono fun _ _ ⟨v,u,c,x,y,z,_⟩=>⟨v,u,c,x,y,z⟩⟩
theorem pD {args:List TV} {W:List OObj} (hf:P.funcs[h]?=some v) (hb:v.body=some b) (hn:callable P h=true) (M:List (Nat×Nat)) (ha: ∀p∈M,args[p.2]?=some (.one (.ptr 0 p.1 0 0))) (sA: ∀t∈args,selfTV 0 t) (sR:selfTV 0 o) (sF: ∀n∈f,selfO 0 n) (sF': ∀n∈W,selfO 0 n) (sh: ∀o∈M.map Prod.fst,∀n,f[o]?=some n-> ∃o',W[o]?=some o'/\o'.es=n.es/\n.elems.length<=o'.elems.length) (m:dT P L (M.map Prod.snd) b (fun e s k=>(e= .normal\/e= .ret)/\k=g'/\ ∃s',bv s s'/\Vr P v W o s'/\ ∀p∈M,s'.tmps[p.2]?=some (.one (.ptr 0 p.1 0 0))) ⟨args++List.replicate (v.ntmps-args.length) .undef,famH 0 f⟩ g):kL P L (M.map Prod.fst) h args f W g g' o:=by
 refine⟨hn,sA,sR,sF,sF',sh,fun X Y w vs ρ J hB hY hG ae C=>?_⟩;refine calls_of_wp hf hb ?_;have T:de w (fun j=>famB f ρ j\/L.B j) X ⟨args++List.replicate (v.ntmps-args.length) .undef,famH 0 f⟩ {tmps:=vs++Array.replicate (v.ntmps-vs.size) undef,defers:=[]} w:=by
  refine⟨rfl,by simp[ae],ρ,J,fun t x G=>?_⟩;by_cases ht:t<args.length
  ·rw[XS ht]at G;obtain⟨y,Z,V⟩:=C t x G;exact⟨y,by rw[X8 (by omega)];exact Z,V⟩
  rw[XW (by omega),YF]at G;split at G
  ·rename_i af;injection G with G
   subst G;refine⟨undef,?_,ee⟩;rw[Yi (by omega),Y8,if_pos (by omega)]
  cases G
 refine wp_mono (m (fun k=>(vs++Array.replicate (v.ntmps-vs.size) undef)[k]?) Y _ _ _ _ _ ⟨⟨T,fun j hj=>⟨.inr hj,hB j hj⟩,hY,hG⟩,fun _ _=>rfl⟩) fun e a' w' ⟨s1,k,⟨ab,hk,s2,hw,⟨I,aa⟩,ac⟩,⟨K,_,_,N⟩,ad⟩=>?_
 subst hk;obtain⟨h1,ag,E,z,D⟩:=hw _ _ _ _ _ K;have D:aT X E s2 a' w':=D;rw[I]at z;obtain⟨y,Z,V⟩:=fk (by rw[I];exact z) D aa;rw[I]at V;have R: ∀q∈M.map Prod.fst,∀l b,ρ 0 q=some (l,b)-> ∃c',E 0 q=some (l,c'):=fun q hq l b A=>by
  obtain⟨p,hp,rfl⟩:=XR.1 hq;obtain⟨u0,hu0,o0,b0,c0,y1,y2,y3,y4⟩:=C p.2 _ (ha p hp);have S:p.2<vs.size:=(XV.1 hu0).1;obtain⟨u,U,o1,b1,c1,z1,z2,z3,H⟩:=D p.2 _ (ac p hp);rw[ad p.2 (XR.2 ⟨p,hp,rfl⟩)]at U;simp only[X8 S,hu0]at U;injection U with U
  rw[<- U,y4]at H;injection H with H
  injection H with H
  injection H with H _ _
  rw[y2]at A;injection A with A
  injection A with A _
  exact⟨c1,by rw[z2,<- H,A]⟩
 rcases ab with rfl|rfl
 ·exact⟨h1,y,Z,y,rfl,E,z,N,V,R⟩
 exact⟨h1,y,Z,y,rfl,E,z,N,V,R⟩
def En (c:Array Oper) (m:Nat) (r:TV) (b:Nat) (f:List Nat) (e:List OObj) (s:AS):AS:=AS.put ⟨s.tmps.map (pR b f),aw s.H b (e.map (renO b))⟩ (mw c m) (renTV b r)
theorem Fv {args:List TV} {F':List OObj} (A:kL P L j h args f F' g g' o) (a0:n<=4999) {q:Oper} {G:AS} (C:oI q G=some (h,args.map (renTV n))) (R:G.H n=f.map (renO n)):
  zg P q (eK L Y w0 O X g G) (eK L Y w0 O X g' (AS.put ⟨G.tmps.map (pR n j),aw G.H n (F'.map (renO n))⟩ q.dst (renTV n o))):=fun a w K Q ⟨⟨h1,aa,ρ,J,D⟩,hB,hY,hG⟩ hK=>by
 have D:aT X ρ G a w:=D;obtain⟨X1,ag,g1,g2,g3,gF,g5,g6⟩:=x4 (B:=L.B) h1 aa J D hB A.sR A.sF A.sF' a0 R;refine js (.inl rfl) ?_;have key: ∀vs:Array Value,(execOp a.eval q).run P w= .ok (.enter h vs) w->vs.size=args.length->(∀(m:Nat) t,args[m]?=some t-> ∃v:Value,vs[m]?=some v/\(renTV n t).rel ρ G.H (Xo X ρ G.H) w v)->q.wp P a w K Q:=fun vs ae a4 V=>by
  unfold Oper.wp;rw[ae];simp only[Oper.upon];have ap: ∀m,(famB f ag m\/L.B m)\/w.heap.size<=m->Y m:=fun m M=>hY m (by
   rcases M with(M|M)|M
   ·obtain⟨y,q,c,k1,k2⟩:=gF m M;exact(J.old n y q m c k1 k2).1.symm
   ·exact .inl (hB m M).1
   exact .inr (XQ J.keep.size M))
  refine(A.calls X1 Y w vs ag g1 g2 ap hG a4 fun m t ht=>?_).mono ?_
  ·obtain⟨v,v1,v2⟩:=V m t ht;exact⟨v,v1,g3 t v (A.sA t (XH ht)) v2⟩
  rintro e w1 ⟨v,rfl,a5,hi,al,a2,a1⟩;obtain⟨ah,q0,q1,q2,q3⟩:=g6 v w1 a5 hi a2;have af:aT X ah ⟨G.tmps.map (pR n j),aw G.H n (F'.map (renO n))⟩ a w1:=fun t x hx=>by
   simp only[XK]at hx;obtain⟨y,E,rfl⟩:=XI.1 hx;obtain⟨u,u1,u2⟩:=D t y E;refine⟨u,u1,Mm u2 (fP (MC n j) fun x v hn l=>?_)⟩;have hk:=q2 x v l;cases x with
   |fn=>cases hn
   |p x=>exact hk
   |junk=>trivial
   |sl z y a6 len=>
    simp only[my];by_cases S:z=n
    ·rw[if_pos S];trivial
    rw[if_neg S];simpa[aL,kF,S] using hk
   |ptr z y i m=>
    simp only[my];by_cases S:z=n
    ·rw[if_pos S];by_cases E:j.contains y=true
     ·rw[if_pos E];have E:y∈j:=by simpa using E
      subst S;obtain⟨o1,b,c,z1,z2,z3,z4⟩:=l;rw[R,XK]at z1;obtain⟨o2,z5,rfl⟩:=XI.1 z1;obtain⟨o3,z6,z7,z8⟩:=A.sh y E o2 z5;obtain⟨c',z9⟩:=a1 y E b c (by rw[g5];exact z2);refine⟨renO z o3,b,c',by rw[aI,XK,z6];rfl,by rw[q0];exact z9,?_,?_⟩
      ·have:i<o2.elems.length:=by simpa[renO] using z3
       simp only[renO,YB];omega
      rw[z4];simp[renO,z7]
     rw[if_neg E];trivial
    rw[if_neg S];simpa[aL,kF,S] using hk
  refine hK v w1 ⟨⟨by rw[gk];exact h1,by rw[jR,eY];simpa using aa,ah,by rw[fj];exact q1,oY (s:=⟨G.tmps.map (pR n j),aw G.H n (F'.map (renO n))⟩) (by simpa using aa) af q3⟩,hB,hY,al⟩
 unfold oI at C;split at C
 ·rename_i c ad;split at C
  ·rename_i f' I;obtain⟨ts,W,e⟩:=XI.1 C;injection e with e e'
   subst e e';obtain⟨T,e2⟩:=bU W;have Z:c.args.size=args.length:=by simpa using T.symm
   refine key _ (jS ad I rfl A.able) (by simp[Z]) fun m t ht=>?_
   obtain⟨y,E,ab⟩:=e2 m (renTV n t) (by rw[XK,ht];rfl);refine⟨a.eval y,?_,bf D y _ ab⟩;rw[YC];have:c.args[m]?=some y:=by simpa using E
   rw[this];rfl
  ·rename_i k I;split at C
   ·rename_i f' U ts av W;injection C with C
    injection C with e e'
    subst e;obtain⟨T,e2⟩:=bU W;obtain⟨us,k1,k2,k3⟩:=jt (v:=a.eval (.tmp k)) (fun t0 a3=>bf D (.tmp k) t0 a3) av;have ac:args.length=c.args.size+us.size:=by
     have:=congrArg List.length e';simp[T,<- k2]at this;omega
    refine key _ (jB ad I k1 A.able) (by simp[ac]) fun m t ht=>?_
    have N:(ts++U)[m]?=some (renTV n t):=by rw[e',XK,ht];rfl
    by_cases M:m<ts.length
    ·rw[XS M]at N;obtain⟨y,E,ab⟩:=e2 m _ N;refine⟨a.eval y,?_,bf D y _ ab⟩;rw[X8 (by simp at T⊢;omega),YC];have:c.args[m]?=some y:=by simpa using E
     rw[this];rfl
    rw[XW (by omega)]at N;obtain⟨v,v1,v2⟩:=k3 _ _ N;refine⟨v,?_,v2⟩;rw[Yi (by simp at T⊢;omega)];simp at T⊢;rw[<- T];exact v1
   cases C
  cases C
 cases C
theorem wL {args:List TV} {t:List OObj} (p:kL P L j h args f t g g' o) (q:n<=4999) (b:A6 e m h args n f s):
  uh P e m (eK L Y w0 O X g s) (eK L Y w0 O X g' (En e m o n j t s)):=by
 obtain⟨l,v⟩:=b;unfold cxTs at l;split at l
 ·rename_i c u;split at l
  ·rename_i x;refine⟨c,u,by simpa using x,?_⟩;unfold En mw;rw[u];exact Fv p q l v
  cases l
 cases l
theorem ik (m:Nat) {args:List TV} {u:List OObj} (t:kL P L j h args f u g g' o) (p:Nat) (c:List (an P)) (n:List Nat) {id:Nat} (x:da ks e=true) (v:p<=4999) (C:m<e.toList.length) (b: ∀K:AS->Prop,(∀l,(A6 e m h args p f l/\ ∀K:AS->Prop,(∀s',Q .normal s' g'->K s')->aV P (c.map an.a) n (aJ e (e.toList.drop (m+1)) (m+1)) (some (En e m o p j u l)) K)->K l)->aV P (c.map an.a) n (aJ e (e.toList.take m) 0) (some s) K):dT P L ks (.region id e false) Q s g:=fun vf Y w0 O X a w H=>by
 obtain⟨l,y,q,z⟩:=aO P (c.map an.a) n e _ 0 s _ (b (fun l=>A6 e m h args p f l/\aV P (c.map an.a) n (aJ e (e.toList.drop (m+1)) (m+1)) (some (En e m o p j u l)) (fun s=>Q .normal s g')) fun l ⟨D,E⟩=>⟨D,E _ fun _ b=>b⟩);obtain⟨s',A,B⟩:=aO P (c.map an.a) n e _ (m+1) _ _ z;exact qH (R1:=jm L ks vf Y w0 O X g) (R2:=jm L ks vf Y w0 O X g') fp fp m c n x C y (pc x (wL t v q)) A H fun I w' G=>⟨s',g',B,G⟩
theorem mK (u:P.follows .mixedOrders=true) {args:List TV} {p:List OObj} (n:kL P L j h args f p g g' o) (m:Nat) (c:List (an P)) (v:List Nat) {id:Nat} (x:da ks e=true) (t:m<=4999) (A:EE e=true) (b: ∀K:AS->Prop,(∀l,(A6 e (e.size-1) h args m f l/\Q .normal (En e (e.size-1) o m j p l) g')->K l)->aV P (c.map an.a) v (aJ e (e.toList.take (e.size-1)) 0) (some s) K):dT P L ks (.region id e true) Q s g:=fun vf Y w0 O X a w C=>by
 obtain⟨l,y,q,z⟩:=aO P (c.map an.a) v e _ 0 s _ (b (fun l=>A6 e (e.size-1) h args m f l/\Q .normal (En e (e.size-1) o m j p l) g') fun _ q=>q);exact uT (R1:=jm L ks vf Y w0 O X g) (R2:=jm L ks vf Y w0 O X g') fp u c v x A y (pc x (wL n t q)) C fun D w' B=>⟨_,g',z,B⟩
theorem lE (b r:Nat) {o o':OObj} (D:(s.H b)[r]?=some o) (M:o'.ty=o.ty) (B:o'.es=o.es) (q:o'.elems.length=o.elems.length) (f: ∀(i:Nat) l,o'.elems[i]?=some l-> ∃e,o.elems[i]?=some e/\l.length=e.length/\ ∀(j:Nat) x,l[j]?=some x->x= .junk\/e[j]?=some x):
  bv s ⟨s.tmps,aw s.H b ((s.H b).set r o')⟩:=by
 rintro w0 O X J w ⟨N,E,A,h,n⟩;have n:aT X A s J w:=n;obtain⟨q1,q2,I⟩:=id (h.objs b r o D);cases K:A b r with
 |none=>
  rw[K]at I;have l:o'.elems=[]:=ZG (by rw[q,I];rfl);have T:o'=o:=by
   cases o;cases o';simp_all
  subst T;have:(s.H b).set r o'=s.H b:=by
   apply X7;intro i;rw[Yz];split
   ·rename_i C;subst C;rw[if_pos (XN.1 D).1,D]
   rfl
  rw[this,show aw s.H b (s.H b)=s.H from funext fun x=>by unfold aw;split<;>simp_all];exact⟨N,E,A,h,n⟩
 |some S=>
  obtain⟨p,c⟩:=S;rw[K]at I;obtain⟨cells,Z,p2,p3,p4,p5⟩:=I;have old: ∀(i:Nat) l (j:Nat) x,o'.elems[i]?=some l->l[j]?=some x-> ∃v:Value,cells[i*o.es+j]?=some v/\v.oneCell'=true/\x.rel A s.H (Xo X A s.H) w v:=fun i l j x U z=>by
   obtain⟨e,F,R,m⟩:=f i l U;have G:j<e.length:=by have:=(XN.1 z).1;omega
   obtain⟨u,u1,u2,u3⟩:=p5 i e j e[j] F (X0 G);refine⟨u,u1,u2,?_⟩;rcases m j x z with rfl|m
   ·trivial
   rw[X0 G]at m;injection m with m
   rw[<- m];exact u3
  obtain⟨V,W⟩:=vo h D K Z M B q (fun l y=>by
   obtain⟨i,C⟩:=YY.1 y;obtain⟨e,F,R,_⟩:=f i l C;rw[R,B];exact q1 e (XH F)) (fun l y x z=>by
   obtain⟨i,C⟩:=YY.1 y;obtain⟨j,G⟩:=YY.1 z;obtain⟨e,F,_,m⟩:=f i l C;rcases m j x G with rfl|m
   ·trivial
   exact h.self b r o D e (XH F) x (XH m)) old
  exact⟨N,E,A,V,fun t x z=>by
   obtain⟨v,v1,v2⟩:=n t x z;exact⟨v,v1,TV.rel_map v2 W⟩⟩
end
end
theorem uQ: ∀(x y:List Int),cU x y= -1\/cU x y=0\/cU x y=1
 |[],[]=>by simp[cU]
 |[],_::_=>by simp[cU]
 |_::_,[]=>by simp[cU]
 |a::x,b::y=>by
  have:=uQ x y;unfold cU;split
  ·simp
  split
  ·simp
  exact this
theorem rm: ∀(x y:List Int),cU y x= - cU x y
 |[],[]=>by simp[cU]
 |[],_::_=>by simp[cU]
 |_::_,[]=>by simp[cU]
 |a::x,b::y=>by
  have:=rm x y;unfold cU;by_cases c:a<b
  ·rw[if_pos c,if_neg (by omega),if_pos c];rfl
  by_cases e:b<a
  ·rw[if_pos e,if_neg c,if_pos e]
  rw[if_neg e,if_neg c,if_neg c,if_neg e,this]
theorem lS: ∀{x y z:List Int},cU x y<0->cU y z<0->cU x z<0
 |[],[],_,h,_=>by simp[cU]at h
 |_::_,[],_,h,_=>by simp[cU]at h
 |[],_::_,[],_,h=>by simp[cU]at h
 |[],_::_,_::_,_,_=>by simp[cU]
 |_::_,_::_,[],_,h=>by simp[cU]at h
 |a::x,b::y,c::z,f,e=>by
  unfold cU at f e⊢;by_cases m:a<b
  ·by_cases j:b<c
   ·rw[if_pos (by omega)];omega
   rw[if_neg j]at e;by_cases g:c<b
   ·rw[if_pos g]at e;omega
   rw[if_pos (by omega)];omega
  rw[if_neg m]at f;by_cases g:b<a
  ·rw[if_pos g]at f;omega
  rw[if_neg g]at f;by_cases j:b<c
  ·rw[if_pos (by omega)];omega
  rw[if_neg j]at e;by_cases l:c<b
  ·rw[if_pos l]at e;omega
  rw[if_neg l]at e;rw[if_neg (by omega),if_neg (by omega)];exact lS f e
def xh (a b:Int×List Int):Prop:=a.1<b.1\/a.1=b.1/\cU a.2 b.2<0
instance (a b:Int×List Int):Decidable (xh a b):=inferInstanceAs (Decidable (_\/_))
def nf (x:Int×List Int):List (Int×List Int)->List (Int×List Int)
 |[]=>[x]
 |a::l=>if xh a x then a::nf x l else if xh x a then x::a::l else a::l
def i4 (l:List (Int×List Int)):List (Int×List Int):=l.foldl (fun acc x=>nf x acc) []
theorem lZ (a:Int×List Int): ¬xh a a:=by
 unfold xh;rw[jv];omega
theorem ye {a c:Int×List Int} (e:xh a q) (g:xh q c):xh a c:=by
 unfold xh at*
 rcases e with e|⟨e,f⟩<;>rcases g with g|⟨g,h⟩
 ·omega
 ·omega
 ·omega
 exact .inr ⟨by omega,lS f h⟩
theorem rD {a:Int×List Int} (f: ¬xh a q) (g: ¬xh q a):a=q:=by
 unfold xh at*
 have h:=rm a.2 q.2;have c:a.1=q.1:=by omega
 have e:cU a.2 q.2=0:=by omega
 exact Prod.ext c (pF e)
def DB (l:List (Int×List Int)):Prop:=l.Pairwise xh
theorem Gl: ∀{l m:List (Int×List Int)},DB l->DB m->(∀x,x∈l↔x∈m)->l=m
 |[],[],_,_,_=>rfl
 |[],b::m,_,_,h=>by have:=(h b).2 YV;simp at this
 |a::l,[],_,_,h=>by have:=(h a).1 YV;simp at this
 |a::l,b::m,r,s,h=>by
  obtain⟨f,n⟩:=Zp.1 r;obtain⟨g,o⟩:=Zp.1 s;have e:a=b:=by
   rcases Yo.1 ((h a).1 YV)with e|p
   ·exact e
   rcases Yo.1 ((h b).2 YV)with e|q
   ·exact e.symm
   exact absurd (ye (g a p) (f b q)) (lZ b)
  subst e;rw[Gl n o (fun x=>?_)];constructor
  ·intro j;rcases Yo.1 ((h x).1 (YR _ j))with e|c
   ·subst e;exact absurd (f x j) (lZ x)
   exact c
  intro j;rcases Yo.1 ((h x).2 (YR _ j))with e|c
  ·subst e;exact absurd (g x j) (lZ x)
  exact c
theorem v7 {x y:Int×List Int}: ∀{l:List (Int×List Int)},y∈nf x l↔y=x\/y∈l
 |[]=>by simp[nf]
 |a::l=>by
  unfold nf;split
  ·rw[Yo,v7,Yo];constructor
   ·rintro(h|h|h)
    ·exact .inr (.inl h)
    ·exact .inl h
    exact .inr (.inr h)
   rintro(h|h|h)
   ·exact .inr (.inl h)
   ·exact .inl h
   exact .inr (.inr h)
  split
  ·rw[Yo]
  rename_i b c;have e:=rD c b;constructor
  ·exact .inr
  rintro(h|h)
  ·rw[h,e];exact YV
  exact h
theorem CR {x:Int×List Int}: ∀{l:List (Int×List Int)},DB l->DB (nf x l)
 |[],_=>by simp[nf,DB]
 |a::l,h=>by
  obtain⟨f,g⟩:=Zp.1 h;unfold nf;split
  ·rename_i b;refine Zp.2 ⟨fun y c=>?_,CR g⟩;rcases v7.1 c with e|c
   ·rw[e];exact b
   exact f y c
  split
  ·rename_i b;refine Zp.2 ⟨fun y c=>?_,h⟩;rcases Yo.1 c with e|c
   ·rw[e];exact b
   exact ye b (f y c)
  exact h
theorem vh: ∀(l acc:List (Int×List Int)),DB acc->DB (l.foldl (fun acc x=>nf x acc) acc)/\ ∀y,y∈l.foldl (fun acc x=>nf x acc) acc↔y∈l\/y∈acc
 |[],acc,h=>⟨h,fun y=>by simp⟩
 |x::l,acc,h=>by
  obtain⟨b,c⟩:=vh l (nf x acc) (CR h);refine⟨b,fun y=>?_⟩;show y∈l.foldl _ (nf x acc)↔_;rw[c,v7,Yo];constructor
  ·rintro(h|h|h)
   ·exact .inl (.inr h)
   ·exact .inl (.inl h)
   exact .inr h
  rintro((h|h)|h)
  ·exact .inr (.inl h)
  ·exact .inl h
  exact .inr (.inr h)
theorem yX (l:List (Int×List Int)):DB (i4 l):=(vh l [] (by simp[DB])).1
theorem yY {l:List (Int×List Int)}:q∈i4 l↔q∈l:=by
 unfold i4;rw[(vh l [] (by simp[DB])).2];simp
/-! Insertion. -/
def KC (x:Int×List Int):List (Int×List Int)->Nat
 |[]=>0
 |a::l=>if xh a x then KC x l+1 else 0
theorem M9 (x:Int×List Int): ∀l,KC x l<=l.length
 |[]=>XY _
 |a::l=>by unfold KC;have:=M9 x l;split<;>simp<;>omega
theorem CS (x:Int×List Int): ∀l:List (Int×List Int),nf x l=match l[KC x l]? with
  |some a=>if xh x a then l.take (KC x l)++x::l.drop (KC x l)else l
  |none=>l.take (KC x l)++x::l.drop (KC x l)
 |[]=>rfl
 |a::l=>by
  unfold nf KC;split
  ·rw[CS x l];simp only[Ze];cases l[KC x l]? with
   |none=>rfl
   |some b=>simp only;split<;>rfl
  simp only[aay];split<;>rfl
theorem Ni (x:Int×List Int) (l:List (Int×List Int)):(nf x l).length<=l.length+1:=by
 rw[CS];have b:(l.take (KC x l)++x::l.drop (KC x l)).length=l.length+1:=by
  have:=M9 x l;simp;omega
 split
 ·split
  ·omega
  omega
 omega
theorem Gq (b:Int) (x:List Int) (c:Int) (y:List Int):IF b x c y=if b<c then -1 else if c<b then 1 else cU x y:=by
 grind [IF,Sv,oK]
theorem Gr {b c:Int} {x y:List Int}:IF b x c y<0↔b<c\/b=c/\cU x y<0:=by
 grind [Gq]
theorem IG {b c:Int} {x y:List Int}:IF b x c y=0↔b=c/\x=y:=by
 grind [Gq,pF,jv]
theorem vz {c:Type} (f:c->NItem) (x y:c):ltOf (fun a b=>jg (f a) (f b)) x y=true↔(f x).key<(f y).key\/(f x).key=(f y).key/\cU (f x).vals (f y).vals<0:=by
 grind [ltOf,jg,Gr]
theorem V6 {j:Type} (f:j->NItem):Sort.SWO (ltOf fun a b=>jg (f a) (f b)) where
 irrefl x:=by
  rw[<- aba,vz,jv];omega
 trans x y z c e:=by
  rw[vz]at*
  rcases c with c|⟨c,g⟩<;>rcases e with e|⟨e,h⟩
  ·omega
  ·omega
  ·omega
  exact .inr ⟨by omega,lS g h⟩
 ntrans x y z c e:=by
  rw[<- aba,vz]at*
  grind [rm,uQ,pF,lS]
end Go.Proofs.YtalmoejhjceflaaGreat
