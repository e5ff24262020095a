/-
  Part 13 of a proof (walks and plain facts).
-/
import Derived.Test.YtalmoejhjceflaaGreatV11
set_option linter.all false
set_option maxRecDepth 100000
set_option maxHeartbeats 64000000
namespace Go.Proofs.YtalmoejhjceflaaGreat
open Go.RowKit
variable {n:Nat} {b:OObj} {c:Array Oper} {e:List AV} {f:Code} {g:FuncId} {s:AS} {h:TV} {j:OH}
section
theorem Gd {P:Program} (h:callable P g=true) (args:Array Value) (w:World):(callFunc g args).run P w= .ok (.enter g args) w:=by
 obtain⟨j,b,c,e⟩:=nW h;unfold callFunc;simp only[aeU];show Result.andThen (.ok P w) _=_;rw[aeH,b];simp only[e,c,afq,if_false]
 simp
def Ap (b:Nat):AV->Bool
 | .sl x _ _ _=>x !=b
 | .ptr x _ _ _=>x !=b
 | .fn _ x _=>x !=b
 |_=>true
def TL (b:Nat):TV->Bool
 | .one x=>Ap b x
 |_=>false
section
variable {P:Program} {w0 w w':World} {O X:Nat->Prop} {s s':AS} {a:Act} {ρ:Rho} {γ:Type}
open Classical in
noncomputable def p8 (ρ:Rho) (H:OH) (b:Nat):Rho:=fun x r=>if x=b\/(H x)[r]?=none then none else ρ x r
theorem D5 {x r:Nat} {b:Nat×Nat} (h:p8 ρ j n x r=some b):x≠n/\ ∃o,(j x)[r]?=some o/\ρ x r=some b:=by
 grind [p8]
theorem vV {x r:Nat} (e:x≠n) (c:(j x)[r]?=some b):p8 ρ j n x r=ρ x r:=by
 grind [p8]
structure Ym (w0:World) (ρ:Rho) (D:Nat) (s:AS) (a:Act) (w:World):Prop where
 rel:RelR ρ [{target:= .collected D,args:= #[]}] w (ownB ρ) (fun j=>j<w0.heap.size\/j=D) s a w
 keep:Keep (fun _=>False) w0 w
 own: ∀j,ownB ρ j->w0.heap.size<=j
 mark:w.heap[D]?=some (.deferred (some []))
 no: ¬ownB ρ D/\w0.heap.size<=D
theorem XS {gs:Tmp} {ps:Array Tmp} {asg bd:Code} {f:FuncId} {fs:Array Value} {targs:List TV} {fa:Nat} {F F':List OObj} {tml:List TV} {H:γ->OH} {jump:γ->Option Code} {hH: ∀g,B8 (H g)} {ht:tml.all vH=true} {g0 g1:γ} {r:TV} {Q:Exit->Act->World->Prop}
  (hr:dP w0 (fun _=>False) X s a w) (hX: ∀j,X j->j<w0.heap.size) (hg:a.tmps[gs]?=some (.func (.func f) fs #[])) (hfs:fs.size=targs.length) (hts: ∀(j:Nat) t,targs[j]?=some t-> ∃v:Value,fs[j]?=some v/\ ∃y,s.ev y=some (renTV fa t)/\a.eval y=v)
  (hfa:fa<=4999) (hF:s.H fa=F.map (renO fa)) (hH0:H g0=aK s.H fa []) (hj0:jump g0=none) (htl:tml.length=s.tmps.length/\ ∀(t:Nat) x,tml[t]?=some x->x= .one .junk\/s.tmps[t]?=some x) (haw:tml.all (TL fa)=true)
  (hcon: ∀(R:Ez) (ρ:Rho) (hl: ∀x r c,ρ x r≠some (R.l,c)),R.ps=ps->R.asg=asg->R.bd=bd->uC P (Ks R ρ tml H jump hl hH ht) f (targs++[.raw (.func (.yield R.l) #[] #[])]) F F' g0 g1 r)
  (hQ: ∀(ρ:Rho) (D:Nat) (w3:World),Ym w0 ρ D ⟨tml,H g1⟩ {a with defers:=[{target:= .collected D,args:= #[]}]} w3->match jump g1 with
   |none=>Q .normal {a with defers:=[{target:= .collected D,args:= #[]}]} w3
   |some c=>c.wp P Q {a with defers:=[{target:= .collected D,args:= #[]}]} w3):(Code.rangeFunc (.tmp gs) ps asg bd).wp P Q a w:=by
 obtain⟨h1,hsz,ρ,hinv,htm⟩:=hr;have htm:bz X ρ s a w:=htm;refine(wpIn_wide (n:=0)).1 (wpIn_rangeFunc (F:=FW none) fun fn _=>?_)
 let R:Ez:=⟨w.heap.size+1,w.heap.size,fn,a.tmps,ps,asg,bd⟩
 obtain⟨W1,hW1⟩: ∃W1,(w.alloc (.deferred (some []))).alloc (R.obj none)=W1:=⟨_,rfl⟩;have hsz1:W1.heap.size=w.heap.size+2:=by rw[<- hW1];simp
 have hL1:W1.heap[w.heap.size+1]?=some (R.obj none):=by
  grind [World.alloc_heap_new]
 have hK1:W1.heap[w.heap.size]?=some (.deferred (some [])):=by
  grind [Below.heap_alloc,World.alloc_heap_new]
 have hold: ∀j,j<w.heap.size->W1.heap[j]?=w.heap[j]?:=fun j hj=>by
  grind [Below.heap_alloc]
 have hge:a.eval (.tmp gs)= .func (.func f) fs #[]:=by
  show a.tmps.getD gs undef=_;simp_all
 have hls: ∀(x r:Nat) (o:OObj) (b c:Nat),(s.H x)[r]?=some o->ρ x r=some (b,c)->b<w.heap.size:=fun x r o b c g1 g2=>bI (hinv.objs x r o g1) g2
 have hnl: ∀x r c,p8 ρ s.H fa x r≠some (R.l,c):=fun x r c h=>by
  grind [D5]
 have hown: ∀j,ownB (p8 ρ s.H fa) j->(∃(x r:Nat) (o:OObj) (c:Nat),x≠fa/\(s.H x)[r]?=some o/\ρ x r=some (j,c)):=fun j ⟨x,r,c,h⟩=>by
  grind [D5]
 have hownlt: ∀j,ownB (p8 ρ s.H fa) j->j<w.heap.size/\w0.heap.size<=j:=fun j h=>by
  obtain⟨x,r,o,c,_,h2,h3⟩:=hown j h;exact⟨hls x r o j c h2 h3,(hinv.old x r o j c h2 h3).1.resolve_right id⟩
 have hcon':=hcon R (p8 ρ s.H fa) hnl rfl rfl rfl;have hab:=hcon'.able
 -- the state that the function is handed
 let X2:Nat->Prop:=fun j=>j<W1.heap.size/\(X j\/ownB (p8 ρ s.H fa) j\/j=w.heap.size\/j=w.heap.size+1)
 have hXo: ∀j,j<w.heap.size->Xo X2 ρ (famH fa (s.H fa)) j->Xo X ρ s.H j:=fun j hj h=>by
  rcases h with⟨_,h|h|h|h⟩|⟨x,r,o,c,g1,g2⟩
  ·exact .inl h
  ·obtain⟨x,r,o,c,_,h2,h3⟩:=hown j h;exact .inr ⟨x,r,o,c,h2,h3⟩
  ·omega
  ·omega
  unfold famH at g1;split at g1
  ·rename_i hx;subst hx;exact .inr ⟨x,r,o,c,g1,g2⟩
  grind
 have mono: ∀x v,bJ fa x->AV.rel ρ s.H (Xo X ρ s.H) w x v->AV.rel ρ (famH fa (s.H fa)) (Xo X2 ρ (famH fa (s.H fa))) W1 x v:=oz (c:=bJ fa) (g:=id) (fun _ _ _ _ _ _ h=>h.1) vu fun x v hn hs h=>by
  cases x with
  |fn=>cases hn
  |p x=>exact bS.later hXo (by omega) (fun p v hp hno hc=>by grind [iX]) h
  |junk=>trivial
  |sl x r off len=>
   have hs:x=fa:=hs;subst hs;obtain⟨o,k1,k2,k3⟩:=h;exact⟨o,by grind [famH],k2,k3⟩
  |ptr x r i j=>
   have hs:x=fa:=hs;subst hs;obtain⟨o,b,c,k1,k2⟩:=h;exact⟨o,b,c,by grind [famH],k2⟩
 have hfam: ∀(x r:Nat) (o:OObj),(famH fa (s.H fa) x)[r]?=some o->x=fa/\(s.H fa)[r]?=some o:=fun x r o h=>by
  grind [famH]
 have hinv2:Inv W1 (fun _=>True) X2 (famH fa (s.H fa)) ρ W1:=by
  refine⟨Keep.refl _,fun x r o ho=>?_,fun x r x' r' o o' b c c' ho ho' e1 e2=>?_,fun x r o b c ho hr=>⟨.inr trivial,?_⟩,fun j hj=>hj.1,fun x r o ho=>?_⟩
  ·obtain⟨rfl,ho⟩:=hfam x r o ho;exact dV (hinv.objs x r o ho) rfl (fun b c hr=>hold b (hls x r o b c ho hr)) fun e he z hz u u3=>mono z u (hinv.self x r o ho e he z hz) u3
  ·obtain⟨rfl,ho⟩:=hfam x r o ho;obtain⟨rfl,ho'⟩:=hfam x' r' o' ho';exact hinv.inj _ r _ r' o o' b c c' ho ho' e1 e2
  ·obtain⟨rfl,ho⟩:=hfam x r o ho;have hlt:=hls x r o b c ho hr;rintro⟨_,h|h|h|h⟩
   ·exact(hinv.old x r o b c ho hr).2 h
   ·obtain⟨x',r',o',c',hne,k2,k3⟩:=hown b h;exact hne (hinv.inj x' r' x r o' o b c' c k2 ho k3 hr).1
   ·omega
   omega
  obtain⟨rfl,ho⟩:=hfam x r o ho;exact hinv.self x r o ho
 obtain⟨X1,ρ0,c1,c2,c3,c4,_⟩:=tQ (s:=⟨[],famH fa (s.H fa)⟩) (a:=⟨#[],[]⟩) (B:=(Ks R (p8 ρ s.H fa) tml H jump hnl hH ht).B) rfl rfl hinv2 (fun t x hx=>by simp at hx) (fun j hj=>⟨trivial,by
  rcases hj with hj|hj
  ·have:j=w.heap.size+1:=hj;omega
  exact⟨by grind,.inr (.inl hj)⟩⟩) hcon'.sR hcon'.sF hcon'.sF' hfa (by grind [famH])
 -- the rows that are lent
 have monoL: ∀x v (z:Nat),z≠fa->bJ z x/\jF x=true-> ∀(Y:Nat->Prop),AV.rel ρ s.H (Xo X ρ s.H) w x v->AV.rel (p8 ρ s.H fa) (aK s.H fa []) Y W1 x v:=fun x v z hz hs Y h=>by
  refine oz (c:=fun x=>bJ z x/\jF x=true) (g:=id) (fun _ _ _ _ _ _ h=>⟨h.1.1,rfl⟩) vu (fun x v hn hs h=>?_) x v hs h;cases x with
  |fn=>cases hn
  |p x=>
   have q0:bS (Xo X ρ s.H) W1 x v:=bS.later (w:=w) (fun _ _ h=>h) (by omega) (fun p v hp hno hc=>by grind [iX]) h;have q:AV.rel ρ s.H Y W1 (.p x) v:=B9 (x:= .p x) (Y:=Xo X ρ s.H) hs.2 (um _) q0;exact q
  |junk=>trivial
  |sl x r off len=>
   have hs1:x=z:=hs.1;subst hs1;obtain⟨o,k1,k2,k3⟩:=h;exact⟨o,by grind [aU],k2,by rw[vV hz k1];exact k3⟩
  |ptr x r i j=>
   have hs1:x=z:=hs.1;subst hs1;obtain⟨o,b,c,k1,k2⟩:=h;exact⟨o,b,c,by grind [aU],by grind [vV]⟩
 have hsafe:B8 (aK s.H fa []):=by grind
 have hupd: ∀(x r:Nat) (o:OObj),(aK s.H fa [] x)[r]?=some o->x≠fa/\(s.H x)[r]?=some o:=fun x r o h=>by
  by_cases hx:x=fa
  ·grind [be]
  grind [aU]
 have hinvL:Inv W1 (ownB (p8 ρ s.H fa)) (fun j=>j=R.l) (aK s.H fa []) (p8 ρ s.H fa) W1:=by
  refine⟨Keep.refl _,fun x r o ho=>?_,fun x r x' r' o o' b c c' ho ho' e1 e2=>?_,fun x r o b c ho hr=>⟨.inr ⟨x,r,c,hr⟩,fun hb=>?_⟩,fun j hj=>?_,fun x r o ho=>?_⟩
  ·have hso:=hsafe x o (adQ ho);obtain⟨hx,ho⟩:=hupd x r o ho;exact dV (hinv.objs x r o ho) (vV hx ho) (fun b c hr=>hold b (hls x r o b c ho hr)) fun e he z hz u u3=>monoL z u x hx ⟨hinv.self x r o ho e he z hz,hso e he z hz⟩ _ u3
  ·obtain⟨hx,ho⟩:=hupd x r o ho;obtain⟨hx',ho'⟩:=hupd x' r' o' ho';rw[vV hx ho]at e1;rw[vV hx' ho']at e2;exact hinv.inj x r x' r' o o' b c c' ho ho' e1 e2
  ·grind
  ·grind
  exact hinv.self x r o (hupd x r o ho).2
 have htmL: ∀(H':OH) (Y:Nat->Prop),H'=aK s.H fa []-> ∀(t:Nat) x,tml[t]?=some x-> ∃v:Value,a.tmps[t]?=some v/\x.rel (p8 ρ s.H fa) H' Y W1 v:=fun H' Y e t x hx=>by
  subst e;have hlt:t<a.tmps.size:=by grind
  rcases htl.2 t x hx with rfl|h
  ·exact⟨a.tmps[t],by simp,trivial⟩
  obtain⟨v,v1,v2⟩:=htm t x h;refine⟨v,v1,?_⟩;have h3:=ht;simp only[aeP]at h3 haw;have h3:=h3 x (adQ hx);have h4:=haw x (adQ hx);cases x with
  |one y=>
   have h3:jF y=true:=h3;have h4:Ap fa y=true:=h4;cases y with
   |p y=>exact monoL (.p y) v (fa+1) (by omega) ⟨trivial,h3⟩ Y v2
   |junk=>trivial
   |sl z r off len=>exact monoL (.sl z r off len) v z (by grind [Ap]) ⟨rfl,h3⟩ Y v2
   |ptr z r i j=>exact monoL (.ptr z r i j) v z (by grind [Ap]) ⟨rfl,h3⟩ Y v2
   |fn f z qs=>
    obtain⟨vs,e1,e2,e3,e4⟩:=v2;exact monoL (.fn f z qs) v z (by grind [Ap]) ⟨⟨rfl,agO e3⟩,h3⟩ Y ⟨vs,e1,e2,e3,e4⟩
  |_=>cases h3
 have hG0:(Ks R (p8 ρ s.H fa) tml H jump hnl hH ht).G g0 (fun _=>True) W1:=by
  refine⟨by grind,rfl,by grind,?_,fun t x hx=>htmL _ _ hH0 t x hx⟩;grind
 refine⟨w.heap.size+1,[{target:= .collected w.heap.size,args:= #[]}],W1,{target:= .fn (.func f) #[],args:=fs++ #[.func (.yield (w.heap.size+1)) #[] #[]]},W1,f,fs++ #[.func (.yield (w.heap.size+1)) #[] #[]],W1,?_,?_,fun _ _=>trivial,?_,fun h=>by simp[Fence.wide]at h,?_⟩
 ·rw[<- hW1];exact run_enterLoop_outer _ _ _ _ _
 ·simp only[resolve,hge,Deferred.ofValue];simp[go_sem]
 ·grind [invoke,Gd]
 have e1:{a with defers:=[({target:= .collected w.heap.size,args:= #[]}:Deferred)]++a.defers}={a with defers:=[{target:= .collected w.heap.size,args:= #[]}]}:=by rw[h1];rfl
 rw[e1];refine CallsIn.mono (callsIn_wide.2 (hcon'.calls X1 (fun _=>True) W1 _ ρ0 c1 c2 (fun _ _=>trivial) hG0 (by simp[hfs]) fun j t hj=>?_)) ?_
 ·by_cases hjl:j<targs.length
  ·rw[aff hjl]at hj;obtain⟨v,v1,y,y1,y2⟩:=hts j t hj;refine⟨v,by grind,c3 t v (hcon'.sA t (by grind)) ?_⟩;have hrel:=bE htm y _ y1;rw[y2]at hrel;have hst:selfTV 0 t:=hcon'.sA t (by grind);cases t with
   |one z=>exact mono _ v (gk fa z) hrel
   |agg cs=>
    obtain⟨vs,e1,e2,e3⟩:=hrel;refine⟨vs,e1,e2,fun j x hx=>?_⟩;obtain⟨u,u1,u2,u3⟩:=e3 j x hx;grind [gk]
   |fn g cs=>
    obtain⟨u0,⟨vs,e1,e2,e3⟩,e4⟩:=hrel;refine⟨u0,⟨vs,e1,e2,fun j x hx=>?_⟩,e4⟩;obtain⟨u,u1,u2,u3⟩:=e3 j x hx;grind [gk]
   |tup ts=>
    obtain⟨vs,e1,e2,e3⟩:=hrel;refine⟨vs,e1,e2,fun j b cs hx=>?_⟩;obtain⟨u,u1,u2⟩:=e3 j b cs hx;rw[aeG]at hx;obtain⟨z,_,hz⟩:=adT.1 hx;injection hz with hz1 hz2
    subst hz2;refine⟨u,u1,?_⟩;rcases u2 with⟨u2,vs2,k1,k2,k3⟩|⟨u2,x,e,u4⟩
    ·refine .inl ⟨u2,vs2,k1,k2,fun i x hi=>?_⟩;obtain⟨q,q1,q2,q3⟩:=k3 i x hi;grind [gk]
    refine .inr ⟨u2,x,e,mono _ u ?_ u4⟩;have:x∈List.map (dA fa) z.2:=by rw[e];simp
    obtain⟨z',_,rfl⟩:=aeL.1 this;exact gk fa z'
  have hj0:j=targs.length:=by
   grind
  subst hj0;rw[afs (aeJ _),afO]at hj;injection hj with hj
  subst hj;exact⟨.func (.yield (w.heap.size+1)) #[] #[],by rw[Array.getElem?_append_right (by omega),hfs,afO];rfl,dc rfl⟩
 rintro e w3 ⟨v,rfl,ρ',hi,⟨hG1,hG2⟩,_⟩;have hG1:w3.heap[w.heap.size+1]?=some (R.obj (jump g1)):=hG1;refine⟨jump g1,_,run_endLoop hG1 (by show(if(jump g1).isNone=true then LoopState.ready else LoopState.done)≠ .busy;split<;>simp),?_⟩;generalize hw4:w3.putObj _ _=w4;have hl3:w.heap.size+1<w3.heap.size:=(ae4.1 hG1).1;have same4: ∀j,j≠w.heap.size+1->w4.heap[j]?=w3.heap[j]?:=fun j hj=>by grind [World.putObj_heap_other]
 have hsz4:w4.heap.size=w3.heap.size:=by rw[<- hw4];simp
 have hb: ∀j,famB F ρ0 j\/(Ks R (p8 ρ s.H fa) tml H jump hnl hH ht).B j->j≠w.heap.size/\w0.heap.size<=j:=fun j hj=>by
  have hw0:=hinv.keep.size;rcases hj with hj|hj|hj
  ·obtain⟨y,o',c',k1,k2⟩:=c4 j hj;have k1:(s.H fa)[y]?=some o':=by grind
   have:=hls fa y o' j c' k1 k2;have:=(hinv.old fa y o' j c' k1 k2).1.resolve_right id;omega
  ·grind
  grind
 have hk:=hi.keep;have htail:Ym w0 (p8 ρ s.H fa) w.heap.size ⟨tml,H g1⟩ {a with defers:=[{target:= .collected w.heap.size,args:= #[]}]} w4:=by
  have hinv4:Inv w4 (ownB (p8 ρ s.H fa)) (fun j=>j<w0.heap.size\/j=w.heap.size) (H g1) (p8 ρ s.H fa) w4:=IJ (hH g1) hG2.2.2.1 (fun j hj=>same4 j (fun h=>by grind)) _ (fun j hj=>by
   have h1:=hinv.keep.size;omega) (fun j hj h=>by grind)
  refine⟨⟨rfl,by grind,hinv4,fun t x hx=>?_⟩,⟨?_,?_,?_,?_,fun j hj _=>?_⟩,fun j hj=>(hownlt j hj).2,?_,fun h=>by grind,hinv.keep.size⟩
  ·obtain⟨v,v1,v2⟩:=hG2.2.2.2 t x hx;have ht':=ht;simp only[aeP]at ht';exact⟨v,v1,Gh (ht' x (adQ hx)) (um _) v2⟩
  ·rw[<- hw4];show w3.os=_;rw[hk.os,<- hW1];exact hinv.keep.os
  ·rw[<- hw4];show w3.tape=_;rw[hk.tape,<- hW1];exact hinv.keep.tape
  ·rw[<- hw4];show w3.output=_;rw[hk.output,<- hW1];exact hinv.keep.output
  ·have:=hinv.keep.size;omega
  ·have hs0:=hinv.keep.size;rw[same4 j (by omega),hk.block j (by omega) (fun h=>by grind),hold j (by omega),hinv.keep.block j hj (fun h=>h)]
  rw[same4 _ (by omega),hk.block _ (by omega) (fun h=>(hb _ h).1 rfl)];exact hK1
 have:=hQ _ _ _ htail;cases hj:jump g1 with
 |none=>grind
 |some c=>rw[hj]at this;exact(wpIn_wide (n:=0)).2 this
end
end
section
section
variable {P:Program} {w0 w w':World} {O X:Nat->Prop} {s s':AS} {a:Act} {ρ:Rho} {γ:Type}
def GY (w0:World) (X:Nat->Prop) (r:TV) (e:Ending) (w':World):Prop:= ∃v,e= .returned v/\ ∃ρ:Rho,Inv w0 (fun _=>False) X (famH 0 []) ρ w'/\r.rel ρ (famH 0 []) (Xo X ρ (famH 0 [])) w' v
def nw (P:Program) (b:Func) (r:TV) (w0:World) (X:Nat->Prop):Exit->Act->World->Prop:=bodyPostM (FW none) 0 P b (GY w0 X r)
def GR (P:Program) (c:Code) (Post:World->(Nat->Prop)->Exit->Act->World->Prop) (s:AS):Prop:=
 ∀(w0:World) (X:Nat->Prop) (a:Act) (w:World),(∀b,X b->b<w0.heap.size)->dP w0 (fun _=>False) X s a w->c.wp P (Post w0 X) a w
def Db (P:Program) (b:Func) (r:TV) (s:AS):Prop:= ∃s',bN s s'/\uh P s' b.results.toList=some r/\noRefTV r=true
def Tb (P:Program) (b:Func) (r:TV) (Post:World->(Nat->Prop)->Exit->Act->World->Prop) (next:AS->Prop):Exit->AS->Prop
 | .normal,s=>next s
 | .ret,s=>Db P b r s/\Post=nw P b r
 |_,_=>False
theorem Oo {v:Value} {wB:World} {OB m:Nat->Prop} {g:Rho} (p: ∀b,X b->b<w0.heap.size) (n:Keep (fun _=>False) w0 w) (l: ∀j,X j->m j) (t:noRefTV h=true) (e:h.rel g s.H (Xo m g s.H) w v):GY w0 X h (.returned v) w:=by
 refine⟨v,rfl,fun _ _=>none,⟨n,fun x y o u=>?_,fun x y B C o A b c z _ _ e=>(by cases e),fun x y o b c _ e=>(by cases e),fun b q=>aeT (p b q) n.size,fun x y o u=>?_⟩,LQ (fun j _ f=>?_) t e⟩
 ·grind [famH]
 ·grind [famH]
 rcases f with f|⟨_,_,_,_,_,f⟩
 ·exact .inl (l j f)
 cases f
theorem RO {l:Func} (c:Db P l h s) (o: ∀b,X b->b<w0.heap.size) (t:dP w0 (fun _=>False) X s a w) {e:Exit} (p:e= .normal\/e= .ret):nw P l h w0 X e a w:=by
 obtain⟨y,x,j,q⟩:=c;obtain⟨n,u,m,f,g⟩:=x _ _ _ _ _ t;have g:bz X m y a w:=g;obtain⟨v,z,A⟩:=gU f g j;have key:LeavesInM (FW none) 0 P l a.tmps (GY w0 X h) a.defers .returning w:=by
  rw[n];exact⟨v,z,Oo (wB:=w) (OB:=fun _=>False) o f.keep (fun _ c=>c) q A⟩
 rcases p with rfl|rfl
 ·exact key
 exact key
theorem H4 {j:Func} {args:List TV} (p:P.funcs[g]?=some j) (o:j.body=some f) (q:callable P g=true) (b:GR P f (nw P j h) ⟨args++List.replicate (j.ntmps-args.length) .undef,fun _=>[]⟩):CallC P g args ⟨[],h⟩:=by
 refine⟨q,fun X w vs m l e=>?_⟩;refine(callsIn_wide (n:=0)).1 (callsIn_of_wp_marks (F:=FW none) (n:=0) (R:=GY w X h) p o trivial ((wpIn_wide (n:=0)).2 (b w X _ w m ?_)));exact xg m l e
variable {fn:Func} {r:TV} {Post:World->(Nat->Prop)->Exit->Act->World->Prop}
theorem NO {y:Code} (h:bv P f (Tb P fn r Post (GR P y Post)) s):GR P (.seq f y) Post s:=fun w0 X a w g l=>
 wp_seq (wp_mono (h _ _ _ _ _ l) fun e j w' ⟨s',b,c⟩=>by
  cases e with
  |normal=>exact b w0 X j w' g c
  |ret=>obtain⟨b,rfl⟩:=b;exact RO b g c (.inr rfl)
  |_=>exact b.elim)
theorem Ek (z: ∀b,X b->b<w0.heap.size) (c:Ym w0 ρ n s a w) {s':AS} {l:Act} {w':World} (A:RelR ρ [{target:= .collected n,args:= #[]}] w (ownB ρ) (fun j=>j<w0.heap.size\/j=n) s' l w') (F:Db P fn r s') {e:Exit} (E:e= .normal\/e= .ret):nw P fn r w0 X e l w':=by
 obtain⟨L,H,t,G⟩:=F;have B:n<w.heap.size:=(ae4.1 c.mark).1;have p:=A.2.2.1.keep;have C:w'.heap[n]?=some (.deferred (some [])):=by rw[p.block n B c.no.1];exact c.mark
 obtain⟨g,u⟩: ∃g,g=w'.putObj n (.deferred none):=⟨_,rfl⟩;have x:RelR ρ [{target:= .collected n,args:= #[]}] g (ownB ρ) (fun j=>j<w0.heap.size\/j=n) s' l g:=by
  subst u;exact A.turn (fun j q=>World.putObj_heap_other fun h=>q (.inr h)) (by simp)
 obtain⟨I,J,K,q4⟩:=x;obtain⟨_,_,y,m,f⟩:=H g (ownB ρ) _ {l with defers:=[]} g ⟨rfl,J,ρ,K,q4⟩;have f:bz _ y L {l with defers:=[]} g:=f;obtain⟨v,M,N⟩:=gU m f t;have o:Keep (fun _=>False) w0 g:=by
  subst u;refine⟨p.os.trans c.keep.os,p.tape.trans c.keep.tape,p.output.trans c.keep.output,?_,fun j q _=>?_⟩
  ·have:=c.keep.size;have:=p.size;simp;omega
  have:=c.no.2;have:=c.keep.size;rw[World.putObj_heap_other (by omega),p.block j (by omega) (fun h=>by have:=c.own j h;omega),c.keep.block j q (fun h=>h)]
 have key:LeavesInM (FW none) 0 P fn l.tmps (GY w0 X r) l.defers .returning w':=by
  rw[I];refine⟨by simp,.inl ⟨n,g,rfl,by grind [run_takeDeferred],v,M,Oo (wB:=g) (OB:=ownB ρ) z o (fun j q=> .inl (z j q)) G N⟩⟩
 rcases E with rfl|rfl
 ·exact key
 exact key
theorem WU {D:Nat} (j: ∀b,X b->b<w0.heap.size) (g:Ym w0 ρ D s a w) (h:Ah P none ρ [{target:= .collected D,args:= #[]}] f (fun e s'=>(e= .normal\/e= .ret)/\Db P fn r s') s):f.wp P (nw P fn r w0 X) a w:=
 (wpIn_wide (n:=0)).1 (wpIn_mono (h _ _ _ _ _ g.rel) fun _ _ _ ⟨_,⟨l,m⟩,o⟩=>Ek j g o m l)
end
end
section
section
variable {P:Program} {w0 w w':World} {O X:Nat->Prop} {s s':AS} {a:Act} {ρ:Rho} {γ:Type} {L:iz γ} {g g':γ}
theorem A6 (l:Inv w0 O X j ρ w) {d r:Nat} {o o':OObj} {c:Nat} {cells:Array Value} (R:(j d)[r]?=some o) (B:ρ d r=some (n,c)) (hh:w.heap[n]?=some (.cells cells o.ty (0,0))) (ab:o'.ty=o.ty) (aa:o'.es=o.es) (W:o'.elems.length=o.elems.length) (Q: ∀e∈o'.elems,e.length=o'.es) (u:selfO d o') (hc: ∀(i:Nat) e (f:Nat) x,o'.elems[i]?=some e->e[f]?=some x-> ∃v:Value,cells[i*o.es+f]?=some v/\v.oneCell'=true/\x.rel ρ j (Xo X ρ j) w v):
  Inv w0 O X (aK j d ((j d).set r o')) ρ w/\ ∀x v,AV.rel ρ j (Xo X ρ j) w x v->AV.rel ρ (aK j d ((j d).set r o')) (Xo X ρ (aK j d ((j d).set r o'))) w x v:=by
 have m: ∀(x y:Nat) q,(aK j d ((j d).set r o') x)[y]?=some q->(x=d/\y=r/\q=o')\/((x≠d\/y≠r)/\(j x)[y]?=some q):=fun x y q h=>by
  grind [be,aU]
 have S: ∀(x y:Nat) q,(j x)[y]?=some q-> ∃C,(aK j d ((j d).set r o') x)[y]?=some C/\C.es=q.es/\q.elems.length<=C.elems.length/\ρ x y=ρ x y:=fun x y q h=>by
  grind [be,aU]
 have t: ∀(x y:Nat) q E F,(aK j d ((j d).set r o') x)[y]?=some q->ρ x y=some (E,F)->E<w.heap.size->Xo X ρ j E:=fun x y q E F h1 V _=>by
  rcases m x y q h1 with⟨rfl,rfl,_⟩|⟨_,A⟩
  ·exact .inr ⟨_,_,o,F,R,V⟩
  exact .inr ⟨x,y,q,F,A,V⟩
 have mono: ∀x v,AV.rel ρ j (Xo X ρ j) w x v->AV.rel ρ (aK j d ((j d).set r o')) (Xo X ρ (aK j d ((j d).set r o'))) w x v:=fun x v h=>
  uU (b:=n) (.inr ⟨d,r,o,c,R,B⟩) ⟨rfl,rfl,rfl,aeJ _,fun _ _ _=>rfl⟩ S t h
 have p: ∀(x y:Nat) q,(aK j d ((j d).set r o') x)[y]?=some q-> ∃D,(j x)[y]?=some D:=fun x y q h=>by
  grind
 refine⟨⟨l.keep,fun x y q h=>?_,fun x y x' y' q C I J c2 h h' K e2=>?_,fun x y q I J h K=>?_,l.bar,fun x y q h=>?_⟩,mono⟩
 ·rcases m x y q h with⟨rfl,rfl,rfl⟩|⟨_,A⟩
  ·obtain⟨Y,Z,U⟩:=l.objs x y o R;rw[B]at U;obtain⟨G,z,p2,p3,p4,p5⟩:=U;rw[hh]at z;injection z with z
   injection z with z
   subst z;refine⟨Q,by omega,?_⟩;grind
  obtain⟨Y,Z,U⟩:=l.objs x y q A;refine⟨Y,Z,?_⟩;cases hr:ρ x y with
  |none=>grind
  |some bc=>
   grind
 ·obtain⟨D,M⟩:=p x y q h;obtain⟨T,N⟩:=p x' y' C h';exact l.inj x y x' y' D T I J c2 M N K e2
 ·obtain⟨D,M⟩:=p x y q h;exact l.old x y D I J M K
 rcases m x y q h with⟨rfl,rfl,rfl⟩|⟨_,A⟩
 ·exact u
 exact l.self x y q A
def abX (s:AS) (d c k:Nat) (e:TypeId) (b:List AV) (f:OObj) (len:Nat):AS:=
 ⟨(s.tmps.map (bi fun x _=>x==c)).set d (.one (.ptr d 0 0 0)),aK (aK s.H d [⟨e,b.length,[b.set k (.sl d 1 0 len)]⟩,f]) c []⟩
theorem RZ {o:Oper} {m:TypeId} {x:Operand} {d k len:Nat} {B:AS} (ho:o.op= .box m x) (ab:o.dst=some d) (hx:B.ev x=some (.agg e)) (hk:e[k]?=some (.sl n 0 0 len)) (hp: ∀(j:Nat) y,e[j]?=some y->j≠k->isPure y=true) (a6:B.H n=[b]) (a1: ∀m∈b.elems,∀x∈m,isPure x=true) (an:n<=4999) (hd:B.H d=[]):CR P o (dP w0 O X B) (dP w0 O X (abX B d n k m e b len)):=fun a w K Q hr hK=>by
 obtain⟨h1,a8,ρ,S,J⟩:=hr;have J:bz X ρ B a w:=J;have ae:n≠d:=by grind
 obtain⟨vs,hv,r1,r2⟩:=bE J x _ hx;have a7:k<e.length:=(aeI.1 hk).1;refine lj (.inl rfl) ?_;have Z:(execOp a.eval o).run P w= .ok (.value (.pointer (some ⟨w.heap.size,0,none⟩))) (w.alloc (.cells vs m)):=by
  unfold execOp;rw[ho];simp only;have:=gA (P:=P) (Pi (P:=P) (w:=w) m (a.eval x));rw[hv]at this⊢;exact this
 unfold Oper.wp;rw[Z];refine hK _ _ ?_;rw[ab]
 -- the box with the slice forgotten
 have R:fm w (w.alloc (.cells vs m)):=⟨rfl,rfl,rfl,by simp,fun j D=>Below.heap_alloc _ _ _ D⟩;have E:(w.alloc (.cells vs m)).heap[w.heap.size]?=some (.cells vs m (0,0)):=World.alloc_heap_new _ _
 let f:Nat->Option (Nat×Nat):=fun r=>if r=0 then some (w.heap.size,1)else none
 have hf: ∀r l c,f r=some (l,c)->r=0/\l=w.heap.size/\c=1:=fun r l c h=>by
  grind
 have T: ∀r l c,f r=some (l,c)->w.heap.size<=l:=fun r l c h=>by grind
 have N: ∀(j:Nat) y,(e.set k .junk)[j]?=some y->(j=k/\y= .junk)\/(j≠k/\e[j]?=some y):=fun j y h=>by
  grind
 obtain⟨ag,a3⟩:=FM (F:=[⟨m,e.length,[e.set k .junk]⟩]) S J R hd f T (fun r r' l c c' h h'=>by grind) (fun r q hq=>by
  cases r with
  |succ r=>simp at hq
  |zero=>
   simp at hq;subst hq;intro e' A y C;simp at A;subst A;obtain⟨j,D⟩:=afo.1 C;rcases N j y D with⟨_,rfl⟩|⟨ap,av⟩
   ·trivial
   grind [dj]) (fun r q hq=>by
  cases r with
  |succ r=>simp at hq
  |zero=>
   simp at hq;subst hq;refine⟨fun e' A=>by grind,by grind,?_⟩;rw[newρ_eq,show f 0=some (w.heap.size,1)from rfl];refine⟨vs,E,by grind,aeJ _,by decide,fun i e' j y A C=>?_⟩;cases i with
   |succ i=>simp at A
   |zero=>
    simp at A;subst A;rw[ahO,afm];rcases N j y C with⟨rfl,rfl⟩|⟨ap,av⟩
    ·obtain⟨u,u1,u2,_⟩:=r2 j _ hk;exact⟨u,u1,u2,trivial⟩
    grind [lN])
 -- the row joins the box
 have ac:aK B.H d [⟨m,e.length,[e.set k .junk]⟩] n=[b]:=by grind [aU]
 obtain⟨ah,I,a9⟩:=DJ ag (a:=d) (b:=n) an ae ac a1;have af:=Fr (s:=⟨B.tmps,_⟩) a3 I;generalize a5:(fun x y=>if x=d/\y=(aK B.H d [⟨m,e.length,[e.set k .junk]⟩] d).length then newρ ρ d f n 0 else newρ ρ d f x y:Rho)=ρ2 at*
 generalize Y:aK (aK (aK B.H d [⟨m,e.length,[e.set k .junk]⟩]) d (aK B.H d [⟨m,e.length,[e.set k .junk]⟩] d++[b])) n []=W at*
 have a4:W d=[⟨m,e.length,[e.set k .junk]⟩,b]:=by rw[<- Y,aU (agv ae),be,be];rfl
 have G:ρ2 d 0=some (w.heap.size,1):=by
  grind [be,newρ_eq]
 -- what the cell holds
 obtain⟨u,u1,u2,u3⟩:=r2 k _ hk;have ai:AV.rel ρ2 W (Xo X ρ2 W) (w.alloc (.cells vs m)) (.sl d 1 0 len) u:=by
  grind [lN,be]
 obtain⟨V,a2⟩:=A6 ah (d:=d) (r:=0) (o:=⟨m,e.length,[e.set k .junk]⟩) (o':=⟨m,e.length,[e.set k (.sl d 1 0 len)]⟩) (by grind) G E rfl rfl rfl (fun e' A=>by grind) (fun e' A y C=>by
   simp at A;subst A;obtain⟨j,D⟩:=afo.1 C;rw[afG]at D;split at D
   ·injection D with D;subst D;rfl
   grind [dj]) (fun i e' j y A C=>by
   cases i with
   |succ i=>simp at A
   |zero=>
    simp at A;subst A;rw[ahO,afm];rw[afG]at C;split at C
    ·grind
    rename_i D;obtain⟨u',q1,q2,q3⟩:=r2 j y C;refine⟨u',q1,q2,?_⟩;have a0:=hp j y C (fun m=>D m.symm);have:=I y u' (lN S R hd T q3);cases y with
    |p y=>exact this
    |_=>cases a0)
 have U:bz X ρ2 ⟨B.tmps.map (bi fun x _=>x==n),aK W d ((W d).set 0 ⟨m,e.length,[e.set k (.sl d 1 0 len)]⟩)⟩ a (w.alloc (.cells vs m)):=fun t y C=>by
  obtain⟨v,v1,v2⟩:=af t y C;grind [TV.rel_map]
 have ad:aK W d ((W d).set 0 ⟨m,e.length,[e.set k (.sl d 1 0 len)]⟩)=aK (aK B.H d [⟨m,e.length,[e.set k (.sl d 1 0 len)]⟩,b]) n []:=by
  funext z;by_cases M:z=d
  ·grind [be,aU]
  rw[aU M];by_cases aa:z=n
  ·subst aa;rw[<- Y,be,be]
  rw[<- Y,aU aa,aU M,aU M,aU aa,aU M]
 rw[ad]at V U;have:=fF (s:=⟨B.tmps.map (bi fun x _=>x==n),aK (aK B.H d [⟨m,e.length,[e.set k (.sl d 1 0 len)]⟩,b]) n []⟩) (d:=some d) (t:= .one (.ptr d 0 0 0)) (v:= .pointer (some ⟨w.heap.size,0,none⟩)) h1 (by grind) V U ⟨⟨m,e.length,[e.set k (.sl d 1 0 len)]⟩,w.heap.size,1,by
  grind [aU,be],G,by simp,by simp⟩
 exact this
/-! The forms that the macros use. -/
variable {Q:Exit->AS->γ->Prop}
theorem Kz (n:P.follows .mixedOrders=true) {f:FuncId} {args:List TV} {F p:List OObj} (j:uC P L f args F p g g' h) (l:Nat) (e:List (ar P)) (t:List Nat) {id:Nat} (m:l<=4999) (u:Lo c=true) (b: ∀K:AS->Prop,(∀o,(GW c (c.size-1) f args l F o/\Q .normal (TZ c (c.size-1) h l p o) g')->K o)->bM P (e.map ar.a) t (aV c (c.toList.take (c.size-1)) 0) (some s) K):wT P L (.region id c true) Q s g:=
 Qm n j l e t m u (b _ fun _ q=>q)
theorem Hh (f:P.follows .mixedOrders=true) {args:List Value} {b:Bool} (p:wY P L n args g g' b) (e:List (ar P)) (m:List Nat) {id:Nat} (o:Lo c=true) (h: ∀K:AS->Prop,(∀j,(yTs c (c.size-1) j=some (n,args)/\Q .normal (yS c (c.size-1) b j) g')->K j)->bM P (e.map ar.a) m (aV c (c.toList.take (c.size-1)) 0) (some s) K):wT P L (.region id c true) Q s g:=
 KA f p e m o (h _ fun _ q=>q)
variable {QA:Exit->AS->Prop}
structure aej (ops:Array Oper) (m d fa k:Nat) (e:TypeId) (cs:List AV) (ob:OObj) (len:Nat) (s:AS):Prop where
 x: ∃o x,ops[m]?=some o/\o.guard=none/\o.op= .box e x/\o.dst=some d/\s.ev x=some (.agg cs)
 k:cs[k]?=some (.sl fa 0 0 len)
 fam:s.H fa=[ob]
 new:s.H d=[]
theorem Qi (m d r k:Nat) {e:TypeId} {cs:List AV} {ob:OObj} {len:Nat} (b:List (ar P)) (p:List Nat) {id:Nat} (H: ∀(j:Nat) y,cs[j]?=some y->j≠k->isPure y=true) (v: ∀e∈ob.elems,∀x∈e,isPure x=true) (t:r<=4999) (F:m<c.toList.length) (h: ∀K:AS->Prop,(∀q,(aej c m d r k e cs ob len q/\ ∀K:AS->Prop,(∀s',QA .normal s'->K s')->bM P (b.map ar.a) p (aV c (c.toList.drop (m+1)) (m+1)) (some (abX q d r k e cs ob len)) K)->K q)->bM P (b.map ar.a) p (aV c (c.toList.take m) 0) (some s) K):bv P (.region id c false) QA s:=fun w0 O X a w M=>by
 obtain⟨q,z,⟨⟨o,x,G,D,u,f,I⟩,E,l,n⟩,A⟩:=aO P (b.map ar.a) p c _ 0 s _ (h _ fun _ h=>h);obtain⟨s',B,C⟩:=aO P (b.map ar.a) p c _ (m+1) _ _ (A _ fun _ h=>h);exact rO (ks:=[]) (R1:=dP w0 O X) (R2:=dP w0 O X) I3.k I3.k m b p rfl F z ⟨o,G,D,RZ u f I E H l v t n⟩ B M fun N w' J=>⟨s',C,J⟩
end
end
theorem ib (a r i j:Nat) (Y:TypeId) (M:Nat) (ad:0<M) (Z:(s.H a)[r]?=some b) (he:b.elems[i]?=some e) (hj:e[j]?=some (.raw (.slice none 0 0))):
  bN s ⟨s.tmps,aK s.H a ((s.H a).set r {b with elems:=b.elems.set i (e.set j (.sl a (s.H a).length 0 0))}++[⟨Y,M,[]⟩])⟩:=by
 rintro w0 O X aa w ⟨h1,ah,F,g,V⟩;have V:bz X F s aa w:=V;generalize hn:(s.H a).length=n;have av:r<n:=by grind
 generalize G:({b with elems:=b.elems.set i (e.set j (.sl a n 0 0))}:OObj)=o';have S:o'.es=b.es:=by rw[<- G]
 have ag:o'.elems.length=b.elems.length:=by grind
 have an:o'.ty=b.ty:=by rw[<- G]
 generalize Q:aK s.H a ((s.H a).set r o'++[⟨Y,M,[]⟩])=J
 let A:Rho:=fun x y=>if x=a/\y=n then none else F x y
 have ab:J a=(s.H a).set r o'++[⟨Y,M,[]⟩]:=by rw[<- Q,be]
 have ap: ∀x,x≠a->J x=s.H x:=fun x h=>by rw[<- Q,aU h]
 have T: ∀(x y:Nat) q,(s.H x)[y]?=some q-> ∃I,(J x)[y]?=some I/\I.es=q.es/\I.elems.length=q.elems.length/\A x y=F x y:=fun x y q h=>by
  grind
 have E: ∀(x y:Nat) q,(J x)[y]?=some q->(x=a/\y=r/\q=o'/\A x y=F x y)\/(x=a/\y=n/\q=⟨Y,M,[]⟩/\A x y=none)\/((s.H x)[y]?=some q/\A x y=F x y):=fun x y q h=>by
  by_cases hx:x=a
  ·subst hx;rw[ab]at h;by_cases hy:y<n
   ·grind
   grind
  grind
 have ac: ∀c,Xo X A J c->Xo X F s.H c:=fun c R=>by
  rcases R with R|⟨x,y,q,m,P,g2⟩
  ·exact .inl R
  rcases E x y q P with⟨rfl,rfl,rfl,C⟩|⟨_,_,_,C⟩|⟨L,C⟩
  ·exact .inr ⟨_,_,b,m,Z,by grind⟩
  ·grind
  exact .inr ⟨x,y,q,m,L,by grind⟩
 have mono: ∀x v,AV.rel F s.H (Xo X F s.H) w x v->AV.rel A J (Xo X A J) w x v:=uR fun x v hn h=>by
  cases x with
  |fn=>cases hn
  |p x=>exact bS.weaken (fun c _ R=>ac c R) h
  |junk=>trivial
  |sl x y a0 len=>
   obtain⟨q,P,g2,C⟩:=h;obtain⟨I,W,k2,k3,k4⟩:=T x y q P;exact⟨I,W,by omega,by grind⟩
  |ptr x y i j=>
   obtain⟨q,f,c,P,g2,C,L⟩:=h;obtain⟨I,W,k2,k3,k4⟩:=T x y q P;exact⟨I,f,c,W,by grind,by omega,by grind⟩
 refine⟨h1,ah,A,⟨g.keep,fun x y q h=>?_,fun x y x' y' q I f c1 c2 h h' e1 e2=>?_,fun x y q f c h e1=>?_,g.bar,fun x y q h=>?_⟩,fun t x hx=>?_⟩
 ·rcases E x y q h with⟨rfl,rfl,rfl,C⟩|⟨rfl,rfl,rfl,C⟩|⟨L,C⟩
  ·obtain⟨q1,q2,q3⟩:=g.objs x y b Z;refine⟨fun N B=>?_,by omega,?_⟩
   ·grind
   rw[C];cases hr:F x y with
   |none=>
    grind
   |some bc=>
    obtain⟨f,c⟩:=bc;rw[hr]at q3;obtain⟨cells,p1,p2,p3,p4,p5⟩:=q3;refine⟨cells,by grind,by grind,by omega,p4,fun i' N j' z l D=>?_⟩;rw[S];rw[<- G]at l;simp only at l;rw[afG]at l;split at l
    ·rename_i ae;subst ae;split at l
     ·injection l with l
      subst l;rw[afG]at D;split at D
      ·rename_i af;subst af;split at D
       ·injection D with D
        subst D;obtain⟨u,u1,u2,u3⟩:=p5 i e j _ he hj;refine⟨u,u1,u2,⟨Y,M,[]⟩,?_,by simp,.inl ⟨if_pos ⟨rfl,rfl⟩,?_,rfl,rfl⟩⟩
        ·grind
        exact(bo (ρ:=F) (H:=s.H) u3).1
       cases D
      grind
     cases l
    grind
  ·exact⟨fun N B=>(by cases B),ad,(by rw[C])⟩
  exact dV (g.objs x y q L) C (fun _ _ _=>rfl) fun _ _ z _ u u3=>by grind
 ·have K: ∀(x y:Nat) q f c,(J x)[y]?=some q->A x y=some (f,c)-> ∃q0,(s.H x)[y]?=some q0/\F x y=some (f,c):=fun x y q f c h e=>by
   grind
  obtain⟨q0,W,k2⟩:=K x y q f c1 h e1;obtain⟨ai,k3,k4⟩:=K x' y' I f c2 h' e2;exact g.inj x y x' y' q0 ai f c1 c2 W k3 k2 k4
 ·rcases E x y q h with⟨rfl,rfl,rfl,C⟩|⟨_,_,_,C⟩|⟨L,C⟩
  ·exact g.old _ _ b f c Z (by grind)
  ·grind
  exact g.old x y q f c L (by grind)
 ·rcases E x y q h with⟨rfl,rfl,rfl,C⟩|⟨rfl,rfl,rfl,C⟩|⟨L,C⟩
  ·have U:=g.self x y b Z;rw[<- G];intro N B z hz;rcases af5 B with B|rfl
   ·exact U N B z hz
   rcases af5 hz with hz|rfl
   ·exact U e (adQ he) z hz
   rfl
  ·exact fun N B=>by cases B
  exact g.self x y q L
 grind [TV.rel_map]
end Go.Proofs.YtalmoejhjceflaaGreat
