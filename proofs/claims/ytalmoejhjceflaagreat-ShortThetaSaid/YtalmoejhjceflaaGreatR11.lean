/-
  Part 12 of a proof (walks and plain facts).
-/
import Derived.Test.YtalmoejhjceflaaGreatR10
import Derived.RangeFuncRecord
import Derived.OrdersIn
import Derived.RangeFuncLeaves
set_option linter.all false
set_option maxRecDepth 100000
set_option maxHeartbeats 64000000
namespace Go.Proofs.YtalmoejhjceflaaGreat
open Go.RowKit
variable {b:Array Oper} {c e:Code} {n m:Nat} {f:Exit->Act->World->Prop} {g:AS->Act->World->Prop} {h j:List OObj} {l:Nat->Prop} {s:AS} {o:Operand} {p:FuncId} {q:List Nat} {r:Act->World->Prop} {t:Oper} {u:Value} {v:TV} {w:List Deferred} {x:OH} {y:Bool} {z:Func}
section
abbrev FW (b:Option Nat):Fence:={Fence.wide with round:=b}
section
variable {P:Program} {w0 w:World} {O X:Nat->Prop} {s s':AS} {a:Act} {ks:List Nat}
theorem j7 {b:Option Nat} {K:Act->World->Prop} (g:b=none\/ ∀c,t.op≠ .defer c) (h:t.wp P a w K f):t.wpIn (FW b) n P a w K f:=by
 refine⟨fun _ _=>trivial,?_⟩;have e:Oper.semAt (FW b).round a.eval t=execOp a.eval t:=by
  rcases g with rfl|g
  ·rfl
  exact Oper.semAt_eq _ _ _ g
 rw[e];unfold Oper.wp at h;generalize(execOp a.eval t).run P w=r at h⊢;have l:(FW b).depth.isSome=true->1<=n:=fun h=>by simp[Fence.wide]at h
 cases r with
 |ok x j=>
  cases x<;>simp only[Oper.upon,Oper.uponIn]at h⊢ <;>first
   |exact h
   |exact⟨l,CallsIn.mono (callsIn_wide.2 h) (fun e q p=>by cases e<;>exact p)⟩
   |exact⟨l,fun c m _=>let ⟨v,j,r,s⟩:=h c m;⟨v,j,r,stepsIn_wide.2 s⟩⟩
 |halt x j=>cases x<;>simp only[Oper.upon,Oper.uponIn]at h⊢ <;>exact h
theorem vH {c:List (ao P)} {i:Nat} {j:AS} (p:b[i]?=some t) (h:aS P (c.map ao.a) q b i t s=some j) (u:da w0 O X s a w) (m: ∀v l,da w0 O X j (a.put t.dst v) l->r (a.put t.dst v) l):wpOpIn (FW none) n P b f i r a w:=by
 have e:=iZ (Q:=f) (ao.ok c) u h m;unfold wpOpIn;rw[p];simp only;split at e
 ·rename_i g;rw[if_pos g];exact j7 (.inl rfl) e
 rename_i g;rw[if_neg g];exact⟨fun _ _=>trivial,e⟩
def vS (ks:List Nat) (a b:Act):Prop:= ∀k∈ks,b.tmps[k]?=a.tmps[k]?
def du (ks:List Nat) (b:Array Oper):Bool:=ks.all fun k=>eR k b
theorem l8 (h:du q b=true) (e:b[n]?=some t) (v:Value):vS q a (a.put t.dst v):=fun k c=>by
 unfold du at h;rw[aah]at h;exact mz v (jI (h k c) e)
theorem vS.trans {b c e:Act} (h:vS ks b c) (g:vS ks c e):vS ks b e:=fun k f=>(g k f).trans (h k f)
theorem rK {n:Nat} {c:List (ao P)} {A:List Nat} {b:Array Oper} (t:du ks b=true) {Q:Exit->Act->World->Prop} {suf:List Nat}: ∀(l:List Oper) (m:Nat) (s s':AS) (a:Act) (w:World),(∀(j:Nat) o,l[j]?=some o->b[m+j]?=some o)->
  f7 P (c.map ao.a) A b (l.zipIdx m) s=some s'->da w0 O X s a w->(∀f g,vS ks a f->da w0 O X s' f g->wpOpsIn (FW none) n P b Q suf f g)->wpOpsIn (FW none) n P b Q (List.range' m l.length++suf) a w
 |[],m,s,s',a,w,_,h,r,p=>by
  simp only[acw,f7]at h;injection h with h
  subst h;exact p a w (fun _ _=>rfl) r
 |o::l,m,s,s',a,w,u,h,r,p=>by
  simp only[abO,f7]at h;split at h
  ·rename_i C q;simp only[aaG,aa1,acq];rw[wpOpsIn_cons];have x:b[m]?=some o:=by have:=u 0 o rfl;simpa using this
   exact vH x q r fun v g z=>rK t l (m+1) C s' _ _ (fun j o y=>by have:=u (j+1) o (by simpa using y);rwa[show m+(j+1)=m+1+j by omega]at this) h z fun f g e B=>p f g ((l8 t x v).trans e) B
  cases h
theorem B5 {n:Nat} {c:List (ao P)} {suf:List Nat}: ∀(l:List Oper) (k:Nat) (s s':AS) (a:Act) (w:World),(∀(j:Nat) o,l[j]?=some o->b[k+j]?=some o)->
  f7 P (c.map ao.a) q b (l.zipIdx k) s=some s'->da w0 O X s a w->(∀e g,da w0 O X s' e g->wpOpsIn (FW none) n P b f suf e g)->wpOpsIn (FW none) n P b f (List.range' k l.length++suf) a w:=fun l k s s' a w p h r m=>
 rK (ks:=[]) rfl l k s s' a w p h r fun e g _ t=>m e g t
/-! Ways to say how a state and a world stand to one another. -/
def MP (R:AS->Act->World->Prop):Prop:= ∀s a w,R s a w-> ∃(g:World) (b c:Nat->Prop),da g b c s a w/\ ∀s' e f,da g b c s' e f->R s' e f
theorem D0:MP (da w0 O X):=fun _ _ _ h=>⟨w0,O,X,h,fun _ _ _ h=>h⟩
def AT (P:Program) (o:Oper) (c e:Act->World->Prop):Prop:= ∀(a:Act) (w:World) (K:Act->World->Prop) (Q:Exit->Act->World->Prop),c a w->(∀v b,e (a.put o.dst v) b->K (a.put o.dst v) b)->o.wpIn (FW none) 0 P a w K Q
def v7 (P:Program) (b:Array Oper) (m:Nat) (c e:Act->World->Prop):Prop:= ∃o,b[m]?=some o/\o.guard=none/\AT P o c e
def zc (ks:List Nat) (R:AS->Act->World->Prop):Prop:= ∀s a w,R s a w-> ∃(g:World) (c e:Nat->Prop),da g c e s a w/\ ∀s' b f,vS ks a b->da g c e s' b f->R s' b f
theorem MP.k (M:MP g):zc [] g:=fun s a w h=>
 have⟨w1,O1,X1,h1,h2⟩:=M s a w h
 ⟨w1,O1,X1,h1,fun s' b c _ r=>h2 s' b c r⟩
theorem r9 {R1 R2:AS->Act->World->Prop} (B:zc ks R1) (C:zc ks R2) (m:Nat) (c:List (ao P)) (A:List Nat) {id:Nat} (z:du ks b=true) (L:m<b.toList.length) {u x y:AS} (H:f7 P (c.map ao.a) A b ((b.toList.take m).zipIdx 0) s=some u) (r:v7 P b m (R1 u) (R2 x)) (I:f7 P (c.map ao.a) A b ((b.toList.drop (m+1)).zipIdx (m+1)) x=some y) (N:R1 s a w) (J: ∀g h,R2 y g h->f .normal g h):(Code.region id b false).wp P f a w:=by
 refine(wpIn_wide (n:=0)).1 (wpIn_region (F:=FW none) ?_);obtain⟨wa,Oa,Xa,V,R⟩:=B s a w N;obtain⟨o,M,K,q⟩:=r;have t:b.size=(b.toList.take m).length+(1+(b.toList.drop (m+1)).length):=by simp at L⊢;omega
 rw[t,aax,<- abf,aaO];have l:(b.toList.take m).length=m:=by rw[abc];omega
 refine rK z (b.toList.take m) 0 s u a w (fun j o e=>?_) H V fun g h E T=>?_
 ·rw[aaH]at e;split at e
  ·simpa using e
  cases e
 rw[l,abX 1,aa1,wpOpsIn_cons];unfold wpOpIn;rw[M];simp only;rw[if_pos (by simp[Region.wanted,K])];refine q g h _ _ (R _ _ _ E T) fun v Y p=>?_
 obtain⟨wb,Ob,Xb,W,S⟩:=C _ _ _ p;have:=rK (n:=0) (Q:=f) (suf:=[]) z (b.toList.drop (m+1)) (m+1) x y _ Y (fun j o e=>by
  rw[aaN]at e;simpa using e) I W (fun D Z G U=>J D Z (S _ _ _ G U))
 rwa[abd]at this
/-! A drawn region whose last operation comes behind all others. -/
def wX (o:Oper):Oper:={o with op:= .move (.const (.bool false))}
def yL:Nat->List Oper->List Oper
 |_,[]=>[]
 |0,o::l=>wX o::l
 |m+1,o::l=>o::yL m l
def kf (b:Array Oper) (m:Nat):Array Oper:=⟨yL m b.toList⟩
theorem Dm: ∀(m:Nat) (l:List Oper) (i:Nat),(yL m l)[i]?=if i=m then(l[i]?).map wX else l[i]?
 |m,[],i=>by simp[yL]
 |0,o::l,0=>rfl
 |0,o::l,i+1=>by simp[yL]
 |m+1,o::l,0=>by simp[yL]
 |m+1,o::l,i+1=>by simp[yL,Dm m l i]
theorem Dn: ∀(m:Nat) (l:List Oper),(yL m l).length=l.length
 |m,[]=>by simp[yL]
 |0,o::l=>rfl
 |m+1,o::l=>by simp[yL,Dn m l]
section
variable {ops:Array Oper} {m:Nat}
theorem iF (i:Nat):(kf ops m)[i]?=if i=m then(ops[i]?).map wX else ops[i]?:=by
 have:=Dm m ops.toList i;simpa[kf] using this
theorem fm:(kf ops m).size=ops.size:=by simp[kf,Dn]
theorem SG (g:Nat):((kf ops m)[g]?).bind (·.dst)=(ops[g]?).bind (·.dst):=by
 rw[iF];split
 ·cases ops[g]?<;>rfl
 rfl
theorem nR {b:List (cB P)} {i:Nat}:aS P b q (kf ops m) i t s=aS P b q ops i t s:=by
 unfold aS;simp only[SG]
theorem An {b:Array Bool} {i:Nat}:i∈Region.ready .any (kf ops m) b↔i∈Region.ready .any ops b:=by
 constructor
 ·intro h;obtain⟨f,o,c,g⟩:=mem_ready.1 h;rw[iF]at c;split at c
  ·obtain⟨l,j,rfl⟩:=u6.1 c;exact mem_ready.2 ⟨f,l,j,g⟩
  exact mem_ready.2 ⟨f,o,c,g⟩
 intro h;obtain⟨f,o,c,g⟩:=mem_ready.1 h;by_cases e:i=m
 ·exact mem_ready.2 ⟨f,wX o,by rw[iF,if_pos e,c];rfl,g⟩
 exact mem_ready.2 ⟨f,o,by rw[iF,if_neg e];exact c,g⟩
theorem C6 {Wp:Nat->(Act->World->Prop)->Act->World->Prop}: ∀f,pF (kf ops m) r Wp f=pF ops r Wp f:=by
 have c: ∀b,Region.ready .any (kf ops m) b=[]↔Region.ready .any ops b=[]:=fun b=>by
  simp only[adb,An]
 intro f
 induction f with
 |zero=>funext l a w;simp only[pF,c]
 |succ f e=>funext l a w;simp only[pF,c,An,e]
theorem uZ {n:Nat} {Q:Exit->Act->World->Prop}: ∀f,pF ops (Q .normal) (fun i K a w=>wpOpIn (FW none) n P ops Q i K a w) f=wpAnyIn (FW none) n P .any ops Q f
 |0=>rfl
 |f+1=>by
  funext l a w;simp only[pF,wpAnyIn,uZ f]
end
def Gk (b:Array Oper):Bool:=decide (0<b.size)&&(bX [] (kf b (b.size-1))&&(List.range (b.size-1)).all fun i=>((nB (kf b (b.size-1)).toList []).getD (b.size-1) 0).testBit i)
theorem wW {R1 R2:AS->Act->World->Prop} (V:zc ks R1) (ad:P.follows .mixedOrders=true) (c:List (ao P)) (u:List Nat) {id:Nat} (hk:du ks b=true) (hE:Gk b=true) {I T:AS} (h1:f7 P (c.map ao.a) u b ((b.toList.take (b.size-1)).zipIdx 0) s=some I) (ah:v7 P b (b.size-1) (R1 I) (R2 T)) (y:R1 s a w) (hQ: ∀a' J,R2 T a' J->f .normal a' J):(Code.region id b true).wp P f a w:=by
 simp only[Gk,aaF,decide_eq_true_eq,aah,aaK]at hE;obtain⟨al,hd,B⟩:=hE;obtain⟨o,U,hg,ag⟩:=ah;generalize hm:b.size-1=m at*
 have h:m<b.size:=by omega
 have ac:(b.toList.take m).length=m:=by rw[abc];simp;omega
 have C:cw P (c.map ao.a) u (kf b m) (List.range m) s=some I:=by
  have:=fA (P:=P) (items:=c.map ao.a) (ow:=u) (b.toList.take m) 0 s (fun j o t=>by
   rw[aaH]at t;split at t
   ·simpa using t
   cases t)
  rw[h1,ac,<- aax]at this;rw[this];have key: ∀(l:List Nat) (s:AS),(∀i∈l,i<m)->cw P (c.map ao.a) u (kf b m) l s=cw P (c.map ao.a) u b l s:=fun l=>by
   induction l with
   |nil=>intros;rfl
   |cons i l ih=>
    intro s hl;have hi:=hl i (by simp);have e:de P (c.map ao.a) u (kf b m) i s=de P (c.map ao.a) u b i s:=by
     unfold de;rw[iF,if_neg (by omega)];simp only[nR]
    simp only[cw,e];cases de P (c.map ao.a) u b i s with
    |none=>rfl
    |some T=>exact ih T fun j t=>hl j (by simp[t])
  exact key _ _ fun i hi=>aaK.1 hi
 have M:(kf b m)[m]?=some (wX o):=by rw[iF,if_pos rfl,U];rfl
 have D:aS P (c.map ao.a) u (kf b m) m (wX o) I=some (I.put o.dst (.raw (.bool false))):=by
  unfold aS;rw[show(wX o).guard=none from hg];rfl
 have S:cw P (c.map ao.a) u (kf b m) (List.range (kf b m).size) s=some (I.put o.dst (.raw (.bool false))):=by
  rw[fm,show b.size=m+1 by omega,abi,iq,C];simp only[aa8,cw];unfold de;rw[M];simp only;rw[D];rfl
 refine(wpIn_wide (n:=0)).1 (wpIn_region_any (F:=FW none) ad ?_);have ae:R1 s a {w with drawn:=w.drawn+1}:=by
  obtain⟨wa,Oa,Xa,⟨q1,q2,ρ,R,H⟩,ka⟩:=V s a w y;have e:Ext w {w with drawn:=w.drawn+1}:=⟨rfl,rfl,rfl,aaq _,fun _ _=>rfl⟩;have H:aX Xa ρ s a w:=H;exact ka _ _ _ (fun _ _=>rfl) ⟨q1,q2,ρ,R.grow e,H.grow e⟩
 have E:lT s:=by obtain⟨wa,Oa,Xa,r,_⟩:=V s a w y;exact d9 r
 rw[<- uZ,<- C6 (m:=m)];refine mB (sep:=[]) (kB hd (by simp)) hd (fun p s a w=>if p m then R2 T a w else R1 s a w) ⟨E,fun x hx=>by simp at hx⟩ S (fun p a w L y=>?_) (fun p i o' s' av a w K g G Y hs y hK=>?_) b.size (Array.replicate b.size false) s a _ (by simp[fm]) ?_ ?_ ?_ ?_
 ·rw[if_pos (L m (by rw[fm];exact h))]at y;exact hQ a w y
 ·obtain⟨hc,W,q⟩:=Y;have an:i<b.size:=by have:=(aan.1 g).1;rwa[fm]at this
  have A:cq p i i=true:=by simp[cq]
  by_cases N:i=m
  ·subst N;rw[M]at g;injection g with g
   subst g;have af:lw (kf b i).size p=List.range i:=rL (by rw[fm];omega) (fun j t=>by
    have:=iE W (i+1) i (by omega) (by rw[fm];exact h) A (B j t);have aa:(j==i)=false:=by simp;omega
    simpa[cq,aa] using this) (fun j Z ap=>by
    rw[fm]at Z;rw[show j=i by omega];exact G)
   rw[af,C]at q;injection q with q
   subst q;rw[G,if_neg (by decide)]at y;unfold wpOpIn;rw[U];simp only;rw[if_pos (by simp[Region.wanted,hg])];exact ag a w K f y fun v J h2=>hK v J (by rw[if_pos A];exact h2)
  have z:p m=false:=by
   cases z:p m with
   |false=>rfl
   |true=>
    have:=iE hc (m+1) m (by omega) (by rw[fm];exact h) z (B i (by omega));rw[G]at this;cases this
  rw[z,if_neg (by decide)]at y;rw[iF,if_neg N]at g;rw[nR]at hs;obtain⟨wa,Oa,Xa,ra,ka⟩:=V _ _ _ y;have ab:(m==i)=false:=by simp;omega
  exact vH g hs ra fun v J r'=>hK v J (by simpa[cq,z,ab] using ka _ _ _ (l8 hk g v) r')
 ·intro j o U hp;have t:j<b.size:=by have:=(aan.1 U).1;rwa[fm]at this
  simp[t]at hp
 ·exact aaj (abT _ _) (by simp[fm])
 ·have:lw (kf b m).size (fun j=>(Array.replicate b.size false).getD j true)=[]:=by
   unfold lw;rw[abN];intro j t;have:=aaK.1 t;rw[fm]at this;simp[this]
  rw[this];rfl
 rw[if_neg (by simp[h])];exact ae
end
end
section
structure iw (γ:Type) where
 B:Nat->Prop
 G:γ->(Nat->Prop)->World->Prop
 sp: ∀(g:γ) (Y:Nat->Prop) (w w':World),(∀j,B j->w'.heap[j]?=w.heap[j]?)->(∀j,¬Y j->w'.heap[j]?=w.heap[j]?)->G g Y w->G g Y w'
def Zu:iw Unit:=⟨fun _=>False,fun _ _ _=>True,fun _ _ _ _ _ _ h=>h⟩
section
variable {P:Program} {γ:Type} {L:iw γ} {g g':γ} {w0 w:World} {O X Y:Nat->Prop} {s s':AS} {a:Act}
def fD (L:iw γ) (Y:Nat->Prop) (w0:World) (O X:Nat->Prop) (g:γ) (s:AS) (a:Act) (w:World):Prop:=da w0 O X s a w/\(∀j,L.B j->O j/\X j)/\(∀j,O j\/w0.heap.size<=j->Y j)/\L.G g Y w
theorem fD.rebase (h:fD L Y w0 O X g s a w): ∃Own:Nat->Prop,da w Own X s a w/\ ∀D q p,da w Own X D q p->fD L Y w0 O X g D q p:=by
 obtain⟨⟨I,z,E,b,A⟩,v,y,J⟩:=h;refine⟨fun j=> ∃(x r:Nat) (o:OObj) (c:Nat),(s.H x)[r]?=some o/\E x r=some (j,c),⟨I,z,E,⟨Keep.refl w,b.objs,b.inj,fun x r o j c n l=>⟨.inr ⟨x,r,o,c,n,l⟩,(b.old x r o j c n l).2⟩,b.bar,b.self⟩,A⟩,?_⟩;rintro D q p ⟨M,B,F,e,C⟩;have f: ∀j,(∃(x r:Nat) (o:OObj) (c:Nat),(s.H x)[r]?=some o/\E x r=some (j,c))->(w0.heap.size<=j\/O j)/\ ¬X j:=fun j ⟨x,r,o,c,t,u⟩=>b.old x r o j c t u
 refine⟨⟨M,B,F,⟨⟨e.keep.os.trans b.keep.os,e.keep.tape.trans b.keep.tape,e.keep.output.trans b.keep.output,aaj b.keep.size e.keep.size,fun j l G=>?_⟩,e.objs,e.inj,fun x r o j c n l=>?_,e.bar,e.self⟩,C⟩,v,y,?_⟩
 ·rw[e.keep.block j (aas l b.keep.size) (fun m=>by
   rcases(f j m).1 with h|h
   ·omega
   exact G h)]
  exact b.keep.block j l G
 ·obtain⟨t,u⟩:=e.old x r o j c n l;refine⟨?_,u⟩;rcases t with g|g
  ·exact .inl (aaj b.keep.size g)
  exact(f j g).1
 refine L.sp g Y w p (fun j l=>e.keep.block j (b.bar j (v j l).2) (fun m=>(f j m).2 (v j l).2)) (fun j l=>?_) J;by_cases K:j<w.heap.size
 ·exact e.keep.block j K fun m=>l (y j (f j m).1.symm)
 exact absurd (y j (.inr (aaj b.keep.size (by omega)))) l
theorem tn:MP (fD L Y w0 O X g):=fun _ _ w h=>by
 obtain⟨Own,b,c⟩:=h.rebase;exact⟨w,Own,X,b,c⟩
def sO (P:Program) (L:iw γ) (c:Code) (Q:Exit->AS->γ->Prop) (s:AS) (g:γ):Prop:=
 ∀(Y:Nat->Prop) (w0:World) (O X:Nat->Prop) (a:Act) (w:World),fD L Y w0 O X g s a w->c.wp P (fun e b f=> ∃s' g',Q e s' g'/\fD L Y w0 O X g' s' b f) a w
def se (next:AS->γ->Prop) (Q:Exit->AS->γ->Prop):Exit->AS->γ->Prop
 | .normal,s,k=>next s k
 |e,s,k=>Q e s k
def FS (id:Nat) (Q:Exit->AS->γ->Prop):Exit->AS->γ->Prop
 | .exit b,s,k=>if b=id then Q .normal s k else Q (.exit b) s k
 |e,s,k=>Q e s k
variable {Q:Exit->AS->γ->Prop}
theorem VR (h:bo P c (fun e s'=>Q e s' g) s):sO P L c Q s g:=fun Y w0 O X a w r=>by
 obtain⟨Own,j,l⟩:=r.rebase;exact wp_mono (h _ _ _ _ _ j) fun e m n ⟨s',b,f⟩=>⟨s',g,b,l _ _ _ f⟩
theorem fD.weak (h:bD s s') (r:fD L Y w0 O X g s a w):fD L Y w0 O X g s' a w:=by
 obtain⟨Own,b,c⟩:=r.rebase;exact c _ _ _ (h _ _ _ _ _ b)
theorem sO.weak (h:bD s s') (k:sO P L c Q s' g):sO P L c Q s g:=fun _ _ _ _ _ _ r=>k _ _ _ _ _ _ (r.weak h)
theorem M9 (h:Q .normal s g):sO P L .skip Q s g:=fun _ _ _ _ _ _ r=>wp_skip ⟨s,g,h,r⟩
theorem R6 (h:Q .ret s g):sO P L .ret Q s g:=fun _ _ _ _ _ _ r=>wp_ret ⟨s,g,h,r⟩
theorem uY (h:sO P L c (se (sO P L e Q) Q) s g):sO P L (.seq c e) Q s g:=fun _ _ _ _ _ _ r=>
 wp_seq (wp_mono (h _ _ _ _ _ _ r) fun b a w ⟨s',g',f,j⟩=>by
  cases b with
  |normal=>exact f _ _ _ _ _ _ j
  |_=>exact⟨s',g',f,j⟩)
theorem CR (l:s.ev o=some (.raw (.bool y))) (p:y=true->sO P L c Q s g) (m:y=false->sO P L e Q s g):sO P L (.cond o c e) Q s g:=fun _ _ _ _ _ _ r=>by
 obtain⟨⟨q,n,t,f,b⟩,_⟩:=id r;have j:=(aV (be b o _ l)).1;exact wp_cond_split j (fun h=>p h _ _ _ _ _ _ r) (fun h=>m h _ _ _ _ _ _ r)
theorem VQ (b:s.ev o=some (.raw (.bool true))) (h:sO P L c Q s g):sO P L (.cond o c e) Q s g:=CR b (fun _=>h) (fun h=>by cases h)
theorem VP (b:s.ev o=some (.raw (.bool false))) (h:sO P L e Q s g):sO P L (.cond o c e) Q s g:=CR b (fun h=>by cases h) (fun _=>h)
theorem Na (e:List (ao P)) (f:List Nat) {id:Nat} (h: ∀K:AS->Prop,(∀s',sO P L c Q s' g->K s')->aT P (e.map ao.a) f (aJ b b.toList 0) (some s) K):sO P L (.seq (.region id b false) c) Q s g:=
 uY (VR (nL e f h))
theorem sP {id:Nat} (h: ∀K:AS->Prop,(∀s',sO P L c Q s' g->K s')->aT P [] [] (aJ b b.toList 0) (some s) K):sO P L (.seq (.region id b false) c) Q s g:=Na [] [] h
structure qt (P:Program) (L:iw γ) (f:FuncId) (args:List TV) (F F':List OObj) (g g':γ) (r:TV):Prop where
 able:callable P f=true
 sA: ∀t∈args,selfTV 0 t
 sR:selfTV 0 r
 sF: ∀o∈F,selfO 0 o
 sF': ∀o∈F',selfO 0 o
 calls: ∀(X Y:Nat->Prop) (w:World) (vs:Array Value) (ρ:Rho),Inv w (fun j=>famB F ρ j\/L.B j) X (famH 0 F) ρ w->(∀j,L.B j->X j)->(∀j,(famB F ρ j\/L.B j)\/w.heap.size<=j->Y j)->L.G g Y w->vs.size=args.length->
  (∀(j:Nat) t,args[j]?=some t-> ∃v:Value,vs[j]?=some v/\t.rel ρ (famH 0 F) (Xo X ρ (famH 0 F)) w v)->
  Calls P f vs w fun e w'=> ∃v,e= .returned v/\ ∃ρ':Rho,Inv w (fun j=>famB F ρ j\/L.B j) X (famH 0 F') ρ' w'/\L.G g' Y w'/\r.rel ρ' (famH 0 F') (Xo X ρ' (famH 0 F')) w' v
theorem NF {args:List TV} (hf:P.funcs[p]?=some z) (hb:z.body=some c) (hn:callable P p=true) (sA: ∀t∈args,selfTV 0 t) (sR:selfTV 0 v) (sF: ∀o∈h,selfO 0 o) (sF': ∀o∈j,selfO 0 o) (b:sO P L c (fun e s k=>(e= .normal\/e= .ret)/\k=g'/\ ∃s',bD s s'/\VI P z j v s') ⟨args++List.replicate (z.ntmps-args.length) .undef,famH 0 h⟩ g):qt P L p args h j g g' v:=by
 refine⟨hn,sA,sR,sF,sF',fun X Y w vs T A V Z W N y=>?_⟩;refine calls_of_wp hf hb ?_;have H:da w (fun l=>famB h T l\/L.B l) X ⟨args++List.replicate (z.ntmps-args.length) .undef,famH 0 h⟩ {tmps:=vs++Array.replicate (z.ntmps-vs.size) undef,defers:=[]} w:=by
  refine⟨rfl,by simp[N],T,A,fun t x q=>?_⟩;by_cases ht:t<args.length
  ·rw[aal ht]at q;obtain⟨m,J,I⟩:=y t x q;exact⟨m,by rw[aaz (by omega)];exact J,I⟩
  rw[aap (by omega),aaY]at q;split at q
  ·rename_i aa;injection q with q
   subst q;refine⟨undef,?_,dI⟩;rw[aaM (by omega),abo,if_pos (by omega)]
  cases q
 refine wp_mono (b Y _ _ _ _ _ ⟨H,fun l S=>⟨.inr S,V l S⟩,Z,W⟩) fun e U w' ⟨s1,k,⟨M,hk,s2,hw,u,K⟩,C,_,_,G⟩=>?_
 subst hk;obtain⟨R,ab,E,n,D⟩:=hw _ _ _ _ _ C;have D:aX X E s2 U w':=D;rw[u]at n;obtain⟨m,J,I⟩:=eA (by rw[u];exact n) D K;rw[u]at I;rcases M with rfl|rfl
 ·exact⟨R,m,J,m,rfl,E,n,G,I⟩
 exact⟨R,m,J,m,rfl,E,n,G,I⟩
def pL (o:Oper) (s:AS):Option (FuncId×List TV):=match o.op with
 | .call c=>match c.callee with
  | .value (.func f)=>(eK s.ev c.args.toList).map fun e=>(f,e)
  | .value (.tmp k)=>match FU (s.ev (.tmp k)),eK s.ev c.args.toList with
   |some (f,b),some e=>some (f,e++b)
   |_,_=>none
  |_=>none
 |_=>none
def cxTs (b:Array Oper) (m:Nat) (s:AS):Option (FuncId×List TV):=match b[m]? with
 |some o=>if o.guard.isNone then pL o s else none
 |none=>none
structure Cy (ops:Array Oper) (m:Nat) (f:FuncId) (args:List TV) (fa:Nat) (F:List OObj) (s:AS):Prop where
 ts:cxTs ops m s=some (f,args.map (renTV fa))
 fam:s.H fa=F.map (renO fa)
theorem L2 {args:List TV} (q:qt P L p args h j g g' v) (ad:n<=4999) (u:pL t s=some (p,args.map (renTV n))) (S:s.H n=h.map (renO n)):
  AT P t (fD L Y w0 O X g s) (fD L Y w0 O X g' (AS.put ⟨s.tmps.map (aP (kF n)),aw s.H n (j.map (renO n))⟩ t.dst (renTV n v))):=fun a w K Q ⟨⟨h1,af,ρ,A,x⟩,hB,hY,hG⟩ hK=>by
 have x:aX X ρ s a w:=x;obtain⟨X1,W,g1,g2,g3,gF,g4⟩:=pS (B:=L.B) h1 af A x hB q.sR q.sF q.sF' ad S;refine j7 (.inl rfl) ?_;have key: ∀vs:Array Value,(execOp a.eval t).run P w= .ok (.enter p vs) w->vs.size=args.length->(∀(b:Nat) l,args[b]?=some l-> ∃m:Value,vs[b]?=some m/\(renTV n l).rel ρ s.H (Xo X ρ s.H) w m)->t.wp P a w K Q:=fun vs V ah I=>by
  unfold Oper.wp;rw[V];simp only[Oper.upon];have ab: ∀b,(famB h W b\/L.B b)\/w.heap.size<=b->Y b:=fun b C=>hY b (by
   rcases C with(C|C)|C
   ·obtain⟨y,t,c,k1,k2⟩:=gF b C;exact(A.old n y t b c k1 k2).1.symm
   ·exact .inl (hB b C).1
   exact .inr (aaj A.keep.size C))
  refine(q.calls X1 Y w vs W g1 g2 ab hG ah fun b l R=>?_).mono ?_
  ·obtain⟨m,v1,v2⟩:=I b l R;exact⟨m,v1,g3 l m (q.sA l (u5 R)) v2⟩
  rintro e w1 ⟨m,rfl,al,hi,aa,ae⟩;exact hK m w1 ⟨g4 m w1 al hi ae t.dst,hB,hY,aa⟩
 unfold pL at u;split at u
 ·rename_i c U;split at u
  ·rename_i f' z;obtain⟨ts,J,e⟩:=u6.1 u;injection e with e Z
   subst e Z;obtain⟨E,e2⟩:=bP J;have M:c.args.size=args.length:=by simpa using E.symm
   refine key _ (f9 U z rfl q.able) (by simp[M]) fun b l R=>?_
   obtain⟨y,hy,N⟩:=e2 b (renTV n l) (by rw[u9,R];rfl);refine⟨a.eval y,?_,be x y _ N⟩;rw[aaS];have:c.args[b]?=some y:=by simpa using hy
   rw[this];rfl
  ·rename_i k z;split at u
   ·rename_i f' G ts ac J;injection u with u
    injection u with e Z
    subst e;obtain⟨E,e2⟩:=bP J;obtain⟨us,k1,k2,k3⟩:=j8 (v:=a.eval (.tmp k)) (fun t0 ag=>be x (.tmp k) t0 ag) ac;have T:args.length=c.args.size+us.size:=by
     have:=congrArg List.length Z;simp[E,<- k2]at this;omega
    refine key _ (km U z k1 q.able) (by simp[T]) fun b l R=>?_
    have D:(ts++G)[b]?=some (renTV n l):=by rw[Z,u9,R];rfl
    by_cases C:b<ts.length
    ·rw[aal C]at D;obtain⟨y,hy,N⟩:=e2 b _ D;refine⟨a.eval y,?_,be x y _ N⟩;rw[aaz (by simp at E⊢;omega),aaS];have:c.args[b]?=some y:=by simpa using hy
     rw[this];rfl
    rw[aap (by omega)]at D;obtain⟨m,v1,v2⟩:=k3 _ _ D;refine⟨m,?_,v2⟩;rw[aaM (by simp at E⊢;omega)];simp at E⊢;rw[<- E];exact v1
   cases u
  cases u
 cases u
theorem LZ {args:List TV} (l:qt P L p args h j g g' v) (q:n<=4999) (c:Cy b m p args n h s):
  v7 P b m (fD L Y w0 O X g s) (fD L Y w0 O X g' (Rx b m v n j s)):=by
 obtain⟨e,u⟩:=c;unfold cxTs at e;split at e
 ·rename_i o t;split at e
  ·rename_i x;refine⟨o,t,by simpa using x,?_⟩;unfold Rx cwD;rw[t];exact L2 l q e u
  cases e
 cases e
theorem Kq (o:P.follows .mixedOrders=true) {args:List TV} (l:qt P L p args h j g g' v) (m:Nat) (e:List (ao P)) (t:List Nat) {id:Nat} (n:m<=4999) (z:Gk b=true) (c:aT P (e.map ao.a) t (aJ b (b.toList.take (b.size-1)) 0) (some s) (fun u=>Cy b (b.size-1) p args m h u/\Q .normal (Rx b (b.size-1) v m j u) g')):sO P L (.region id b true) Q s g:=fun Y w0 O X a w B=>by
 obtain⟨u,x,q,y⟩:=aO P (e.map ao.a) t b _ 0 s _ c;exact wW (ks:=[]) (R1:=fD L Y w0 O X g) (R2:=fD L Y w0 O X g') tn.k o e t rfl z x (LZ l n q) B fun C D A=>⟨_,g',y,A⟩
theorem TG:fD Zu (fun _=>True) w0 O X () s a w↔da w0 O X s a w:=⟨fun h=>h.1,fun h=>⟨h,fun _ h=>h.elim,fun _ _=>trivial,trivial⟩⟩
end
end
section
section
variable {P:Program} {γ:Type} {L:iw γ} {g g':γ} {w0 w w':World} {O X Y:Nat->Prop} {s s':AS} {a:Act}
theorem da.turn {B:Nat->Prop} (h:da w0 O X s a w) (C: ∀j,B j->O j/\X j) (k:Keep B w w'):da w0 O X s a w':=by
 obtain⟨N,F,l,f,G⟩:=h;have n: ∀(x r:Nat) (o:OObj) (b c:Nat),(s.H x)[r]?=some o->l x r=some (b,c)->w'.heap[b]?=w.heap[b]?:=fun x r o b c I J=>
  k.block b (bf (f.objs x r o I) J) fun m=>(f.old x r o b c I J).2 (C b m).2
 have mono: ∀x v,AV.rel l s.H (Xo X l s.H) w x v->AV.rel l s.H (Xo X l s.H) w' x v:=qH fun x v y h=>by
  cases x with
  |fn=>cases y
  |p x=>exact bQ.later (fun _ _ h=>h) k.size (fun p v S D Q=>by rw[<- Q];exact gm (k.block p.block S fun m=>D (.inl (C _ m).2))) h
  |sl x r V len=>exact h
  |ptr x r i j=>exact h
  |junk=>trivial
 refine⟨N,F,l,⟨⟨k.os.trans f.keep.os,k.tape.trans f.keep.tape,k.output.trans f.keep.output,aaj f.keep.size k.size,fun j q y=>?_⟩,fun x r o K=>?_,f.inj,f.old,fun j q=>aas (f.bar j q) k.size,f.self⟩,fun t x T=>?_⟩
 ·rw[k.block j (aas q f.keep.size) fun m=>y (C j m).1];exact f.keep.block j q y
 ·obtain⟨q1,q2,A⟩:=f.objs x r o K;refine⟨q1,q2,?_⟩;cases E:l x r with
  |none=>rw[E]at A;exact A
  |some M=>
   obtain⟨b,c⟩:=M;rw[E]at A;obtain⟨cells,W,Z,p3,p4,p5⟩:=A;refine⟨cells,by rw[n x r o b c K E];exact W,Z,p3,p4,fun i e j z R U=>?_⟩;obtain⟨u,u1,u2,u3⟩:=p5 i e j z R U;exact⟨u,u1,u2,mono z u u3⟩
 obtain⟨v,v1,v2⟩:=G t x T;refine⟨v,v1,TV.rel_map v2 mono⟩
def sW (P:Program) (L:iw γ) (l:Nat) (args:List Value) (g g':γ) (b:Bool):Prop:=
 ∀(Y:Nat->Prop) (w:World),L.G g Y w-> ∃c tmps assign body,(Instr.yield l args.toArray).run P w= .ok (.round l c tmps assign body) w/\
  RoundIn (FW none) 0 P l c tmps assign body w fun e w'=>e= .returned (.bool b)/\Keep L.B w w'/\L.G g' Y w'
def xV:List TV->Option (List Value)
 |[]=>some []
 | .one (.p (.raw v))::l=>(xV l).map (v:: ·)
 |_=>none
theorem uC: ∀{b:List TV} {vs:List Value},xV b=some vs->b=vs.map TV.raw
 |[],vs,h=>by simp only[xV]at h;injection h with h;subst h;rfl
 |t::b,vs,h=>by
  unfold xV at h;split at h
  ·rename_i e;cases e
  ·rename_i v l e;injection e with c f
   subst c f;obtain⟨m,j,rfl⟩:=u6.1 h;rw[uC j];rfl
  cases h
def Yf (e:Array Oper) (m:Nat) (s:AS):Option (Nat×List Value):=match e[m]? with
 |some o=>match o.guard,o.op with
  |none,.call c=>match c.callee with
   | .value (.tmp k)=>match s.ev (.tmp k),(eK s.ev c.args.toList).bind xV with
    |some (.one (.p (.raw (.func (.yield l) first b)))),some vs=>if first.isEmpty&&b.isEmpty then some (l,vs)else none
    |_,_=>none
   |_=>none
  |_,_=>none
 |none=>none
def yS (c:Array Oper) (m:Nat) (b:Bool) (s:AS):AS:=s.put (cwD c m) (.raw (.bool b))
theorem yq {args:List Value} (hy:sW P L n args g g' y) (h:Yf b m s=some (n,args)):
  v7 P b m (fD L Y w0 O X g s) (fD L Y w0 O X g' (yS b m y s)):=by
 unfold Yf at h;split at h
 case h_2=>cases h
 rename_i o V;split at h
 case h_2=>cases h
 rename_i c hg F;split at h
 case h_2=>cases h
 rename_i k x;split at h
 case h_2=>cases h
 rename_i l' first R vs hk H
 split at h
 case isFalse=>cases h
 rename_i T;injection h with h
 injection h with e1 e2
 subst e1 e2;simp only[aaF,adE]at T;obtain⟨rfl,rfl⟩:=T;obtain⟨ts,G,p⟩:=aaw.1 H;have p:=uC p;subst p;refine⟨o,V,hg,fun a w K Q ⟨W,S,hY,hG⟩ hK=>?_⟩;obtain⟨h1,aa,ρ,U,r⟩:=id W;have r:aX X ρ s a w:=r;have E:=(aV (be r (.tmp k) _ hk)).1;obtain⟨q1,q2⟩:=bP G;have t:c.args.map a.eval=vs.toArray:=by
  apply Array.ext';apply aay;intro j;simp only[Array.toList_map,u9];cases C:vs[j]? with
  |none=>
   have:c.args.toList[j]?=none:=by
    rw[adA]at C⊢;simp at q1 C⊢;omega
   rw[this];rfl
  |some v=>
   obtain⟨f,I,J⟩:=q2 j (.raw v) (by rw[u9,C];rfl);rw[I];exact congrArg some (aV (be r f _ J)).1
 obtain⟨fn,tmps,assign,body,z,q⟩:=hy Y w hG;have u:(execOp a.eval o).run P w= .ok (.round l' fn tmps assign body) w:=by
  unfold execOp;simp only[F,resolve,x,E,Deferred.ofValue,aak,aaJ,aag,invoke,t,Array.append_empty];have Z:(#[]:Array Value)++vs.toArray=vs.toArray:=by simp
  rw[Z];exact z
 refine⟨fun _ _=>trivial,?_⟩;show o.uponIn (FW none) 0 P a K Q ((execOp a.eval o).run P w);rw[u,Oper.uponIn_round];refine⟨fun h=>by simp[Fence.wide]at h,q.mono ?_⟩;rintro e w1 ⟨rfl,D,B⟩;refine hK _ w1 ⟨?_,S,hY,B⟩;obtain⟨n1,M,ab,A,N⟩:=W.turn S D;have:cwD b m=o.dst:=by unfold cwD;rw[V];rfl
 unfold yS;rw[this];exact eJ n1 M A N (bZ rfl)
variable {Q:Exit->AS->γ->Prop}
theorem Fz (e:P.follows .mixedOrders=true) {args:List Value} (r:sW P L n args g g' y) (c:List (ao P)) (f:List Nat) {id:Nat} (p:Gk b=true) (h:aT P (c.map ao.a) f (aJ b (b.toList.take (b.size-1)) 0) (some s) (fun j=>Yf b (b.size-1) j=some (n,args)/\Q .normal (yS b (b.size-1) y j) g')):sO P L (.region id b true) Q s g:=fun Y w0 O X a w u=>by
 obtain⟨j,m,q,o⟩:=aO P (c.map ao.a) f b _ 0 s _ h;exact wW (ks:=[]) (R1:=fD L Y w0 O X g) (R2:=fD L Y w0 O X g') tn.k e c f rfl p m (yq r q) u fun v w' t=>⟨_,g',o,t⟩
end
end
section
section
variable {P:Program} {w0 w w':World} {O X:Nat->Prop} {s s':AS} {a:Act} {ρ:Rho}
def RelR (ρ:Rho) (b:List Deferred) (w0:World) (O X:Nat->Prop) (s:AS) (a:Act) (w:World):Prop:=a.defers=b/\a.tmps.size=s.tmps.length/\Inv w0 O X s.H ρ w/\aX X ρ s a w
theorem RelR.put {b:List Deferred} (h:RelR ρ b w0 O X s a w) {d:Option Tmp} {t:TV} {v:Value} (c:t.rel ρ s.H (Xo X ρ s.H) w v):RelR ρ b w0 O X (s.put d t) (a.put d v) w:=
 ⟨by rw[f5];exact h.1,by rw[jL,fg];exact h.2.1,by rw[fK];exact h.2.2.1,oy h.2.1 h.2.2.2 c⟩
noncomputable def qB (P:Program) (o:Oper) (s:AS):Option AS:=
 if nH o.op then(i7 P s.ev o.op).map (s.put o.dst)
 else if yD o.op then(bU P s.ev s.H o.op).map (s.put o.dst)
 else match o.op with
  | .store t h x=>match s.ev h,ir P t with
   |some (.one (.ptr a r i j)),some n=>match(s.H a)[r]? with
    |some b=>match b.elems[i]? with
     |some e=>match s.ev x with
      |some (.one (.sl g l f len))=>if g=a/\n=1/\j<e.length then some (AS.put ⟨s.tmps,aw s.H a ((s.H a).set r {b with elems:=b.elems.set i (putCells e j [.sl g l f len])})⟩ o.dst .undef)else none
      |some v=>match cellsOf v with
       |some c=>if c.length=n/\j+n<=e.length/\c.all isPure then some (AS.put ⟨s.tmps,aw s.H a ((s.H a).set r {b with elems:=b.elems.set i (putCells e j c)})⟩ o.dst .undef)else none
       |none=>none
      |none=>none
     |none=>none
    |none=>none
   |_,_=>none
  |_=>none
theorem AA {T:List Deferred} (h:RelR ρ T w0 O X s a w) {g:TypeId} {x:Operand} (ho:t.op= .store g o x) {i j f:Nat} {z:OObj} {e cs:List AV} (J:s.ev o=some (.one (.ptr n m i j))) (hn:ir P g=some f) (C:(s.H n)[m]?=some z) (he:z.elems[i]?=some e) (K:cs.length=f) (hj:j+f<=e.length) (hx:mD ρ s.H (Xo X ρ s.H) w cs (a.eval x).cells) (q: ∀y∈cs,bs n y): ∃w',(execOp a.eval t).run P w= .ok .skip w'/\RelR ρ T w0 O X (AS.put ⟨s.tmps,aw s.H n ((s.H n).set m {z with elems:=z.elems.set i (putCells e j cs)})⟩ t.dst .undef) (a.put t.dst undef) w':=by
 obtain⟨h1,F,B,p⟩:=h;have p:aX X ρ s a w:=p;obtain⟨aa,b,c,G,g2,g3,g4⟩:=be p o _ J;rw[C]at G;injection G with G
 subst G;obtain⟨S,V⟩:=hx;have M:(a.eval x).cells.toList.length=cs.length:=by simpa using S
 obtain⟨cells,W,Y,Z,I⟩:=Az (act:={a with defers:=[]}) rfl F B p (vs:=(a.eval x).cells.toList) (j:=j) C g2 he (by omega) M (fun k y N=>by
  obtain⟨u,A,Q⟩:=V k y N;exact⟨u,by simpa using A,Q⟩) q
 have D: ∀u∈(a.eval x).cells,u.oneCell'=true:=fun u hu=>by
  obtain⟨k,U,rfl⟩:=ad9 hu;obtain⟨y,N⟩:=getElem?_of_lt (l:=cs) (k:=k) (by rw[<- S];exact U);obtain⟨u,A,Q,_⟩:=V k y N;rw[acZ U]at A;injection A with A
  rw[A];exact Q
 have E:=uD (P:=P) (t:=g) (v:=a.eval x) (by rw[hn,S,K]) W (by simpa using Y) D;have I:aX X ρ _ a _:=I;have L: ∀R,(Instr.storeAt g (.pointer (some ⟨b,i*z.es+j,none⟩)) (a.eval x)).run P w= .ok () R->(execOp a.eval t).run P w= .ok .skip R:=fun R hr=>by
  unfold execOp;simp only[ho,g4];exact Vi hr
 exact⟨_,L _ E,RelR.put (s:=⟨s.tmps,aw s.H n ((s.H n).set m {z with elems:=z.elems.set i (putCells e j cs)})⟩) ⟨h1,F,by simpa using Z,by simpa using I⟩ dI⟩
theorem Sa {Q:List Deferred} {W:AS} (f:qB P t s=some W) (h:RelR ρ Q w0 O X s a w):(∀c,t.op≠ .defer c)/\ ∃x v w',(execOp a.eval t).run P w= .ok x w'/\(x= .value v\/(x= .skip/\v=undef))/\RelR ρ Q w0 O X W (a.put t.dst v) w':=by
 obtain⟨h1,ac,u,g⟩:=id h;have g:aX X ρ s a w:=g;unfold qB at f;split at f
 ·rename_i R;obtain⟨b,G,rfl⟩:=u6.1 f;obtain⟨v,C,D⟩:=wZ (be g) G;exact⟨fun c e=>(by rw[e]at R;cases R),_,v,w,C,.inl rfl,h.put D⟩
 split at f
 ·rename_i S;obtain⟨b,G,rfl⟩:=u6.1 f;obtain⟨v,C,D⟩:=xa (be g) u.objs G;exact⟨fun c e=>(by rw[e]at S;cases S),_,v,w,C,.inl rfl,h.put D⟩
 split at f
 case h_2=>cases f
 rename_i b ad x m;refine⟨fun c e=>(by rw[e]at m;cases m),?_⟩;split at f
 case h_2=>cases f
 rename_i fa r i j n q U;split at f
 case h_2=>cases f
 rename_i ob z;split at f
 case h_2=>cases f
 rename_i e T;split at f
 ·rename_i M V B len I;split at f
  case isFalse=>cases f
  rename_i E;obtain⟨rfl,aa,ab⟩:=E;injection f with f
  subst f;have A:=be g x _ I;have l:(a.eval x).oneCell'=true:=FQ (ρ:=ρ) (H:=s.H) (X:=Xo X ρ s.H) (w:=w) (x:= .sl M V B len) (by simp) A;obtain⟨L,J,K⟩:=AA (P:=P) h m q U z T (cs:=[.sl M V B len]) (by simp;omega) (by omega) ⟨by rw[fw l];rfl,fun k y p=>by
   cases k with
   |succ k=>simp at p
   |zero=>simp at p;subst p;exact⟨a.eval x,by rw[fw l];rfl,l,A⟩⟩ (fun y p=>by simp at p;subst p;rfl)
  exact⟨_,undef,L,J,.inr ⟨rfl,rfl⟩,K⟩
 ·rename_i v hv I;split at f
  case h_2=>cases f
  rename_i cs F;split at f
  case isFalse=>cases f
  rename_i E;obtain⟨Y,Z,N⟩:=E;injection f with f
  subst f;simp only[aah]at N;obtain⟨L,J,K⟩:=AA (P:=P) h m q U z T Y Z (jw F (be g x _ I)) (fun y p=>cG (N y p));exact⟨_,undef,L,J,.inr ⟨rfl,rfl⟩,K⟩
 cases f
noncomputable def mZ (P:Program):List Oper->Option AS->(AS->Prop)->Prop
 |_,none,_=>False
 |[],some s,K=>K s
 |o::l,some s,K=>mZ P l (if o.guard.isNone then qB P o s else none) K
theorem As (l:List Oper) (K:AS->Prop):mZ P l none K=False:=by cases l<;>rfl
theorem JG {ro:Option Nat} {n:Nat} {f:List Deferred} {ops:Array Oper} {Q:Exit->Act->World->Prop} {Ka:AS->Prop} (g: ∀s a w,Ka s->RelR ρ f w0 O X s a w->Q .normal a w): ∀(l:List Oper) (k:Nat) (s:AS) (a:Act) (w:World),(∀(j:Nat) o,l[j]?=some o->ops[k+j]?=some o)->
  mZ P l (some s) Ka->RelR ρ f w0 O X s a w->wpOpsIn (FW ro) n P ops Q (List.range' k l.length) a w
 |[],k,s,a,w,_,h,r=>g s a w h r
 |o::l,k,s,a,w,m,h,r=>by
  simp only[aaG,aa1];rw[wpOpsIn_cons];have u:ops[k]?=some o:=by have:=m 0 o rfl;simpa using this
  unfold wpOpIn;rw[u];simp only[mZ]at h;split at h
  case isFalse=>rw[As]at h;exact h.elim
  rename_i q;cases e:qB P o s with
  |none=>rw[e,As]at h;exact h.elim
  |some A=>
   rw[e]at h;obtain⟨c,x,v,B,b,z,y⟩:=Sa e r;simp only;rw[if_pos (by simp[Region.wanted,Option.isNone_iff_eq_none.1 q])];refine⟨fun _ _=>trivial,?_⟩;rw[Oper.semAt_eq _ _ _ c,b];have p:=JG (ro:=ro) (n:=n) g l (k+1) A _ B (fun j o t=>by have:=m (j+1) o (by simpa using t);rwa[show k+(j+1)=k+1+j by omega]at this) h y;rcases z with rfl|⟨rfl,rfl⟩
   ·exact p
   exact p
def ws (P:Program) (g:Option Nat) (ρ:Rho) (b:List Deferred) (c:Code) (Q:Exit->AS->Prop) (s:AS):Prop:=
 ∀(w0:World) (O X:Nat->Prop) (a:Act) (w:World),RelR ρ b w0 O X s a w->c.wpIn (FW g) 0 P (fun e f w'=> ∃s',Q e s'/\RelR ρ b w0 O X s' f w') a w
variable {ro:Option Nat} {ds:List Deferred} {Q:Exit->AS->Prop}
theorem Iz {id:Nat} (h:mZ P b.toList (some s) (Q .normal)):ws P ro ρ ds (.region id b false) Q s:=fun w0 O X a w r=>by
 refine wpIn_region ?_;have:=JG (ro:=ro) (n:=0) (ops:=b) (Q:=fun e c w'=> ∃s',Q e s'/\RelR ρ ds w0 O X s' c w') (fun s a w k r=>⟨s,k,r⟩) b.toList 0 s a w (fun j o f=>by simpa using f) h r;rwa[<- aax,acF]at this
theorem AU (h:ws P ro ρ ds c (iP (ws P ro ρ ds e Q) Q) s):ws P ro ρ ds (.seq c e) Q s:=fun _ _ _ _ _ r=>
 wpIn_seq (wpIn_mono (h _ _ _ _ _ r) fun b a w ⟨s',f,g⟩=>by
  cases b with
  |normal=>exact f _ _ _ _ _ g
  |_=>exact⟨s',f,g⟩)
theorem Ng {id:Nat} (h: ∀K:AS->Prop,(∀s',ws P ro ρ ds c Q s'->K s')->mZ P b.toList (some s) K):ws P ro ρ ds (.seq (.region id b false) c) Q s:=
 AU (Iz (h _ fun _ h=>h))
theorem Nd {id:Nat} (h: ∀K:AS->Prop,(∀s',Q .normal s'->K s')->mZ P b.toList (some s) K):ws P ro ρ ds (.region id b false) Q s:=Iz (h _ fun _ h=>h)
theorem Nf (h:Q .normal s):ws P ro ρ ds .skip Q s:=fun _ _ _ _ _ r=>wpIn_skip ⟨s,h,r⟩
theorem IA (h:Q .ret s):ws P ro ρ ds .ret Q s:=fun _ _ _ _ _ r=>wpIn_ret ⟨s,h,r⟩
theorem zp {id:Nat} (h:ws P ro ρ ds c (mG id Q) s):ws P ro ρ ds (.block id c) Q s:=fun _ _ _ _ _ r=>
 wpIn_block (wpIn_mono (h _ _ _ _ _ r) fun e a w ⟨s',b,f⟩=>by
  cases e with
  |exit g=>
   simp only[mG]at b;simp only[Exit.inBlock];split at b
   ·rename_i hid;rw[if_pos hid];exact⟨s',b,f⟩
   rename_i hid;rw[if_neg hid];exact⟨s',b,f⟩
  |_=>exact⟨s',b,f⟩)
theorem CW (j:s.ev o=some (.raw (.bool y))) (n:y=true->ws P ro ρ ds c Q s) (l:y=false->ws P ro ρ ds e Q s):ws P ro ρ ds (.cond o c e) Q s:=fun _ _ _ _ _ r=>by
 obtain⟨p,m,f,b⟩:=id r;have g:=(aV (be b o _ j)).1;exact wpIn_cond_split g (fun h=>n h _ _ _ _ _ r) (fun h=>l h _ _ _ _ _ r)
end
end
section
def ownB (b:Rho):Nat->Prop:=fun j=> ∃(x r c:Nat),b x r=some (j,c)
structure AQ where
 l:Nat
 D:Nat
 fn:FuncId
 tm:Array Value
 ps:Array Tmp
 asg:Code
 bd:Code
def AQ.loop (R:AQ) (c:LoopState) (b:Option Code):Loop:={state:=c,pending:=b,fn:=R.fn,tmps:=R.tm,params:=R.ps,assign:=R.asg,body:=R.bd,defers:=R.D}
def AQ.obj (R:AQ) (b:Option Code):Obj:= .loop (R.loop (if b.isNone then .ready else .done) b)
def rr:TV->Bool
 | .one x=>ig x
 |_=>false
def x9 (H:OH):Prop:= ∀a,∀o∈H a,∀e∈o.elems,∀x∈e,ig x=true
section
variable {P:Program} {w0 w w':World} {O X:Nat->Prop} {s s':AS} {a:Act} {ρ:Rho} {ds:List Deferred} {γ:Type}
theorem yb {H A:OH} {Y:Nat->Prop} {x:AV} (z:ig x=true) (G: ∀(x r:Nat) (o:OObj),(H x)[r]?=some o-> ∃n:OObj,(A x)[r]?=some n/\n.es=o.es/\n.elems.length=o.elems.length) (h:AV.rel ρ H Y w x u):AV.rel ρ A l w' x u:=by
 have key: ∀x u,D3 x=true->ig x=true->AV.rel ρ H Y w x u->AV.rel ρ A l w' x u:=fun x u S z h=>by
  cases x with
  |fn=>cases S
  |p x=>
   cases x with
   |raw m=>
    obtain⟨rfl,q⟩:=aV (ρ:=ρ) (H:=H) h;exact bQ.raw _ q
   |sl D=>
    cases D with
    |nil=>
     have h:bQ Y w (.sl []) u:=h;generalize t:PV.sl []=x at h;cases h with
     |raw u h=>cases t
     |ptr b y K f M N Q T=>cases t
     |nil a c=>exact bQ.nil _ _
     |sl b y V cap D f M N R I W Q T=>
      injection t with t
      subst t;exact bQ.nil _ _
    |cons e D=>cases z
   |ptr K=>cases z
  |sl b r y len=>
   obtain⟨o,q,E,F⟩:=h;obtain⟨n,B,C,U⟩:=G b r o q;exact⟨n,B,by omega,by rw[C];exact F⟩
  |ptr b r i j=>
   obtain⟨o,J,c,q,E,F,L⟩:=h;obtain⟨n,B,C,U⟩:=G b r o q;exact⟨n,J,c,B,E,by omega,by rw[C];exact L⟩
  |junk=>trivial
 exact jt (c:=fun x=>ig x=true) (g:=id) (fun _ _ _ _ _ _ _=>rfl) rc key x u z h
theorem B7 {e:OH} {g:Nat->Prop} (f:rr v=true) (j: ∀(b r:Nat) (o:OObj),(x b)[r]?=some o-> ∃c:OObj,(e b)[r]?=some c/\c.es=o.es/\c.elems.length=o.elems.length) (h:v.rel ρ x l w u):v.rel ρ e g w' u:=by
 cases v with
 |one b=>exact yb f j h
 |_=>cases f
theorem m0 (H:OH): ∀(x r:Nat) (o:OObj),(H x)[r]?=some o-> ∃b:OObj,(H x)[r]?=some b/\b.es=o.es/\b.elems.length=o.elems.length:=fun _ _ o h=>⟨o,h,rfl,rfl⟩
theorem DF (y:x9 x) (h:Inv w0 O X x ρ w) (k: ∀j,ownB ρ j->w'.heap[j]?=w.heap[j]?) (g:Nat->Prop) (A: ∀j,g j->j<w'.heap.size) (n: ∀j,ownB ρ j-> ¬g j):Inv w' (ownB ρ) g x ρ w':=by
 refine⟨Keep.refl _,fun f r o p=>?_,h.inj,fun f r o b c p l=>⟨.inr ⟨f,r,c,l⟩,n b ⟨f,r,c,l⟩⟩,A,h.self⟩;obtain⟨G,I,m⟩:=h.objs f r o p;refine⟨G,I,?_⟩;cases l:ρ f r with
 |none=>rw[l]at m;exact m
 |some v=>
  obtain⟨b,c⟩:=v;rw[l]at m;obtain⟨cells,B,C,D,E,F⟩:=m;refine⟨cells,by rw[k b ⟨f,r,c,l⟩];exact B,C,D,E,fun i e j z q t=>?_⟩;obtain⟨u,J,K,L⟩:=F i e j z q t;exact⟨u,J,K,yb (y f o (u5 p) e (u5 q) z (u5 t)) (m0 x) L⟩
theorem RelR.turn (h:RelR ρ ds w0 O X s a w) (k: ∀j,¬X j->w'.heap[j]?=w.heap[j]?) (l:w.heap.size<=w'.heap.size):RelR ρ ds w' (ownB ρ) X s a w':=by
 obtain⟨B,C,f,y⟩:=h;have mono: ∀x v,AV.rel ρ s.H (Xo X ρ s.H) w x v->AV.rel ρ s.H (Xo X ρ s.H) w' x v:=qH fun x v I h=>by
  cases x with
  |fn=>cases I
  |p x=>exact bQ.later (fun _ _ h=>h) l (fun p v hp q E=>by rw[<- E];exact gm (k p.block fun D=>q (.inl D))) h
  |sl x r L len=>exact h
  |ptr x r i j=>exact h
  |junk=>trivial
 refine⟨B,C,⟨Keep.refl _,fun x r o m=>?_,f.inj,fun x r o b c m g=>⟨.inr ⟨x,r,c,g⟩,(f.old x r o b c m g).2⟩,fun j G=>aas (f.bar j G) l,f.self⟩,fun t x J=>?_⟩
 ·obtain⟨T,U,n⟩:=f.objs x r o m;refine⟨T,U,?_⟩;cases g:ρ x r with
  |none=>rw[g]at n;exact n
  |some A=>
   obtain⟨b,c⟩:=A;rw[g]at n;obtain⟨cells,M,N,Q,R,S⟩:=n;refine⟨cells,by rw[k b (f.old x r o b c m g).2];exact M,N,Q,R,fun i e j z F K=>?_⟩;obtain⟨u,V,W,Y⟩:=S i e j z F K;exact⟨u,V,W,mono z u Y⟩
 obtain⟨v,Z,v2⟩:=y t x J;exact⟨v,Z,TV.rel_map v2 mono⟩
def Fi (R:AQ) (ρ:Rho) (f:List TV) (H:γ->OH) (b:γ->Option Code) (A: ∀x r c,ρ x r≠some (R.l,c)) (z: ∀g,x9 (H g)) (m:f.all rr=true):iw γ where
 B:=fun j=>j=R.l\/ownB ρ j
 G:=fun g _ w=>w.heap[R.l]?=some (R.obj (b g))/\RelR ρ [] w (ownB ρ) (fun j=>j=R.l) ⟨f,H g⟩ ⟨R.tm,[]⟩ w
 sp:=fun g _ w w' k _ ⟨o,p,q,u,y⟩=>by
  have h:w'.heap[R.l]?=some (R.obj (b g)):=by rw[k R.l (.inl rfl)];exact o
  refine⟨h,p,q,DF (z g) u (fun j e=>k j (.inr e)) _ (fun j e=>by subst e;exact(aan.1 h).1) (fun j ⟨x,r,c,C⟩ e=>by subst e;exact A x r c C),fun t x n=>?_⟩;obtain⟨v,D,E⟩:=y t x n;simp only[aah]at m;exact⟨v,D,B7 (m x (u5 n)) (m0 _) E⟩
variable {R:AQ} {tml:List TV} {H:γ->OH} {jump:γ->Option Code} {hl: ∀x r c,ρ x r≠some (R.l,c)} {hH: ∀g,x9 (H g)} {ht:tml.all rr=true}
theorem Ij {g z:γ} {p:Value} (N:R.ps= #[n,m]) (hv1:u.oneCell'=true) (hv2:p.oneCell'=true) (D:jump g=none) (ac: ∀(x r:Nat) (o:OObj),(H g x)[r]?=some o-> ∃o':OObj,(H z x)[r]?=some o'/\o'.es=o.es/\o'.elems.length=o.elems.length) (hw:ws P (some R.l) ρ [] R.asg (fun e s1=>e= .normal/\ws P (some R.l) ρ [] R.bd (fun e s2=>s2.H=H z/\((e= .normal/\y=true/\jump z=none)\/(e= .ret/\y=false/\jump z=some .ret))) s1) ((AS.put ⟨tml,H g⟩ (some n) (.raw u)).put (some m) (.raw p))):
  sW P (Fi R ρ tml H jump hl hH ht) R.l [u,p] g z y:=fun Y w ⟨T,V⟩=>by
 have aa:R.l<w.heap.size:=(aan.1 T).1;have M: ¬ownB ρ R.l:=fun⟨x,r,c,hr⟩=>hl x r c hr
 rw[D]at T;refine⟨R.fn,(R.tm.setIfInBounds n u).setIfInBounds m p,R.asg,R.bd,?_,?_⟩
 ·have:=run_yield (P:=P) (args:= #[u,p]) T (by show(#[u,p]:Array Value).size=R.ps.size;rw[N];rfl);rw[show([u,p]:List Value).toArray= #[u,p]from rfl,this];show Result.ok (Next.round R.l R.fn ((R.ps.zip #[u,p]).foldl _ R.tm) R.asg R.bd) w=_;rw[N];simp
 refine roundIn_of_wpIn (F:=FW none) trivial ?_;have r0:RelR ρ [] w (ownB ρ) (fun j=>j=R.l) ((AS.put ⟨tml,H g⟩ (some n) (.raw u)).put (some m) (.raw p)) {tmps:=(R.tm.setIfInBounds n u).setIfInBounds m p,defers:=[]} w:=
  (V.put (d:=some n) (v:=u) (bZ hv1)).put (d:=some m) (v:=p) (bZ hv2)
 refine wpIn_mono (hw _ _ _ _ _ r0) fun e a1 w1 ⟨s1,⟨W,hb⟩,r1⟩=>?_
 subst W;have k1:w1.heap[R.l]?=some (R.obj none):=by rw[r1.2.2.1.keep.block _ aa M];exact T
 refine⟨_,run_beginRound k1 rfl,?_⟩;generalize A:w1.putObj R.l _=w2;have L:R.l<w1.heap.size:=(aan.1 k1).1;have r2:RelR ρ [] w2 (ownB ρ) (fun j=>j=R.l) s1 a1 w2:=by
  subst A;exact r1.turn (fun j D=>World.putObj_heap_other D) (by simp)
 have k2:w2.heap[R.l]?=some (.loop (R.loop .busy none)):=by subst A;exact World.putObj_heap_same L
 refine wpIn_mono (hb _ _ _ _ _ r2) fun e a3 S ⟨s3,⟨ab,W⟩,r3⟩=>?_
 have k3:S.heap[R.l]?=some (.loop (R.loop .busy none)):=by
  rw[r3.2.2.1.keep.block _ (by subst A;simpa using L) M];exact k2
 have Z:R.l<S.heap.size:=(aan.1 k3).1;have U: ∀C,C=S.putObj R.l (R.obj (jump z))->Keep (fun j=>j=R.l\/ownB ρ j) w C/\C.heap[R.l]?=some (R.obj (jump z))/\RelR ρ [] C (ownB ρ) (fun j=>j=R.l) ⟨tml,H z⟩ ⟨R.tm,[]⟩ C:=fun C I=>by
  have r4:RelR ρ [] C (ownB ρ) (fun j=>j=R.l) s3 a3 C:=by
   subst I;exact r3.turn (fun j D=>World.putObj_heap_other D) (by simp)
  have f:=r1.2.2.1.keep;have q:=r3.2.2.1.keep;refine⟨?_,by subst I;exact World.putObj_heap_same Z,rfl,V.2.1,by have:=r4.2.2.1;rwa[ab]at this,fun t x hx=>?_⟩
  ·subst I A;refine⟨q.os.trans f.os,q.tape.trans f.tape,q.output.trans f.output,?_,fun j D hn=>?_⟩
   ·have:=f.size;have:=q.size;simp at this⊢;omega
   have J:j≠R.l:=fun h=>hn (.inl h)
   have K: ¬ownB ρ j:=fun h=>hn (.inr h)
   rw[World.putObj_heap_other J,q.block j (by have:=f.size;simp;omega) K,World.putObj_heap_other J,f.block j D K]
  obtain⟨v,u1,u2⟩:=V.2.2.2 t x hx;have Q:=ht;simp only[aah]at Q;exact⟨v,u1,B7 (Q x (u5 hx)) ac u2⟩
 have B: ∀o,o=R.obj (jump z)->Keep (fun j=>j=R.l\/ownB ρ j) w (S.putObj R.l o)/\(Fi R ρ tml H jump hl hH ht).G z Y (S.putObj R.l o):=fun o ho=>by subst ho;exact U _ rfl
 rcases W with⟨rfl,rfl,E⟩|⟨rfl,rfl,E⟩
 ·refine⟨_,_,run_endRound none k3,rfl,?_⟩;exact B _ (by rw[E];rfl)
 refine⟨_,_,run_endRound (some .ret) k3,rfl,?_⟩;exact B _ (by rw[E];rfl)
end
end
section
theorem B4 {P:Program} (g:callable P p=true) (args:Array Value) (w:World):(callFunc p args).run P w= .ok (.enter p args) w:=by
 obtain⟨h,b,c,e⟩:=lF g;unfold callFunc;simp only[aak];show Result.andThen (.ok P w) _=_;rw[aag,b];simp only[e,c,aa5,if_false]
 simp
def wD (b:Nat):AV->Bool
 | .sl x _ _ _=>x !=b
 | .ptr x _ _ _=>x !=b
 | .fn _ x _=>x !=b
 |_=>true
def Nu (b:Nat):TV->Bool
 | .one x=>wD b x
 |_=>false
section
variable {P:Program} {w0 w w':World} {O X:Nat->Prop} {s s':AS} {a:Act} {ρ:Rho} {γ:Type}
open Classical in
noncomputable def mX (ρ:Rho) (H:OH) (b:Nat):Rho:=fun x r=>if x=b\/(H x)[r]?=none then none else ρ x r
theorem Ap {r:Nat} {b:Nat×Nat} (h:mX ρ x n m r=some b):m≠n/\ ∃o,(x m)[r]?=some o/\ρ m r=some b:=by
 unfold mX at h;split at h
 ·cases h
 rename_i c;have f:(x m)[r]?≠none:=fun e=>c (.inr e)
 obtain⟨o,g⟩:=Option.ne_none_iff_exists'.1 f;exact⟨fun e=>c (.inl e),o,g,h⟩
theorem o9 {r:Nat} {o:OObj} (c:m≠n) (b:(x m)[r]?=some o):mX ρ x n m r=ρ m r:=by
 unfold mX;rw[if_neg];rintro(h|h)
 ·exact c h
 rw[b]at h;cases h
structure RS (w0:World) (ρ:Rho) (D:Nat) (s:AS) (a:Act) (w:World):Prop where
 rel:RelR ρ [{target:= .collected D,args:= #[]}] w (ownB ρ) (fun j=>j<w0.heap.size\/j=D) s a w
 keep:Keep (fun _=>False) w0 w
 own: ∀j,ownB ρ j->w0.heap.size<=j
 mark:w.heap[D]?=some (.deferred (some []))
 no: ¬ownB ρ D/\w0.heap.size<=D
theorem Rn {gs:Tmp} {ps:Array Tmp} {asg bd:Code} {f:FuncId} {fs:Array Value} {targs:List TV} {fa:Nat} {F F':List OObj} {tml:List TV} {H:γ->OH} {jump:γ->Option Code} {hH: ∀g,x9 (H g)} {ht:tml.all rr=true} {g0 g1:γ} {r:TV} {Q:Exit->Act->World->Prop}
  (hr:da w0 (fun _=>False) X s a w) (hX: ∀j,X j->j<w0.heap.size) (hg:a.tmps[gs]?=some (.func (.func f) fs #[])) (hfs:fs.size=targs.length) (hts: ∀(j:Nat) t,targs[j]?=some t-> ∃v:Value,fs[j]?=some v/\ ∃y,s.ev y=some (renTV fa t)/\a.eval y=v)
  (hfa:fa<=4999) (hF:s.H fa=F.map (renO fa)) (hH0:H g0=aw s.H fa []) (hj0:jump g0=none) (htl:tml.length=s.tmps.length/\ ∀(t:Nat) x,tml[t]?=some x->x= .one .junk\/s.tmps[t]?=some x) (haw:tml.all (Nu fa)=true)
  (hcon: ∀(R:AQ) (ρ:Rho) (hl: ∀x r c,ρ x r≠some (R.l,c)),R.ps=ps->R.asg=asg->R.bd=bd->qt P (Fi R ρ tml H jump hl hH ht) f (targs++[.raw (.func (.yield R.l) #[] #[])]) F F' g0 g1 r)
  (hQ: ∀(ρ:Rho) (D:Nat) (w3:World),RS w0 ρ D ⟨tml,H g1⟩ {a with defers:=[{target:= .collected D,args:= #[]}]} w3->match jump g1 with
   |none=>Q .normal {a with defers:=[{target:= .collected D,args:= #[]}]} w3
   |some c=>c.wp P Q {a with defers:=[{target:= .collected D,args:= #[]}]} w3):(Code.rangeFunc (.tmp gs) ps asg bd).wp P Q a w:=by
 obtain⟨h1,hsz,ρ,hinv,htm⟩:=hr;have htm:aX X ρ s a w:=htm;refine(wpIn_wide (n:=0)).1 (wpIn_rangeFunc (F:=FW none) fun fn _=>?_)
 let R:AQ:=⟨w.heap.size+1,w.heap.size,fn,a.tmps,ps,asg,bd⟩
 obtain⟨W1,hW1⟩: ∃W1,(w.alloc (.deferred (some []))).alloc (R.obj none)=W1:=⟨_,rfl⟩;have hsz1:W1.heap.size=w.heap.size+2:=by rw[<- hW1];simp
 have hL1:W1.heap[w.heap.size+1]?=some (R.obj none):=by
  rw[<- hW1];have:=World.alloc_heap_new (w.alloc (.deferred (some []))) (R.obj none);rwa[World.size_alloc]at this
 have hK1:W1.heap[w.heap.size]?=some (.deferred (some [])):=by
  rw[<- hW1];exact(acW _ _ _ (by simp)).trans (World.alloc_heap_new w _)
 have hold: ∀j,j<w.heap.size->W1.heap[j]?=w.heap[j]?:=fun j hj=>by
  rw[<- hW1];exact(acW _ _ _ (by simp;omega)).trans (acW _ _ _ hj)
 have hge:a.eval (.tmp gs)= .func (.func f) fs #[]:=by
  show a.tmps.getD gs undef=_;rw[abI,hg];rfl
 have hls: ∀(x r:Nat) (o:OObj) (b c:Nat),(s.H x)[r]?=some o->ρ x r=some (b,c)->b<w.heap.size:=fun x r o b c g1 g2=>bf (hinv.objs x r o g1) g2
 have hnl: ∀x r c,mX ρ s.H fa x r≠some (R.l,c):=fun x r c h=>by
  obtain⟨_,o,h2,h3⟩:=Ap h;have:=hls x r o _ c h2 h3;have:R.l=w.heap.size+1:=rfl;omega
 have hown: ∀j,ownB (mX ρ s.H fa) j->(∃(x r:Nat) (o:OObj) (c:Nat),x≠fa/\(s.H x)[r]?=some o/\ρ x r=some (j,c)):=fun j ⟨x,r,c,h⟩=>by
  obtain⟨h1,o,h2,h3⟩:=Ap h;exact⟨x,r,o,c,h1,h2,h3⟩
 have hownlt: ∀j,ownB (mX ρ s.H fa) j->j<w.heap.size/\w0.heap.size<=j:=fun j h=>by
  obtain⟨x,r,o,c,_,h2,h3⟩:=hown j h;exact⟨hls x r o j c h2 h3,(hinv.old x r o j c h2 h3).1.resolve_right id⟩
 have hcon':=hcon R (mX ρ s.H fa) hnl rfl rfl rfl;have hab:=hcon'.able
 -- the state that the function is handed
 let X2:Nat->Prop:=fun j=>j<W1.heap.size/\(X j\/ownB (mX ρ s.H fa) j\/j=w.heap.size\/j=w.heap.size+1)
 have hXo: ∀j,j<w.heap.size->Xo X2 ρ (famH fa (s.H fa)) j->Xo X ρ s.H j:=fun j hj h=>by
  rcases h with⟨_,h|h|h|h⟩|⟨x,r,o,c,g1,g2⟩
  ·exact .inl h
  ·obtain⟨x,r,o,c,_,h2,h3⟩:=hown j h;exact .inr ⟨x,r,o,c,h2,h3⟩
  ·omega
  ·omega
  unfold famH at g1;split at g1
  ·rename_i hx;subst hx;exact .inr ⟨x,r,o,c,g1,g2⟩
  simp at g1
 have mono: ∀x v,bs fa x->AV.rel ρ s.H (Xo X ρ s.H) w x v->AV.rel ρ (famH fa (s.H fa)) (Xo X2 ρ (famH fa (s.H fa))) W1 x v:=jt (c:=bs fa) (g:=id) (fun _ _ _ _ _ _ h=>h.1) rc fun x v hn hs h=>by
  cases x with
  |fn=>cases hn
  |p x=>exact bQ.later hXo (by omega) (fun p v hp hno hc=>by rw[<- hc];exact gm (hold p.block hp)) h
  |junk=>trivial
  |sl x r off len=>
   have hs:x=fa:=hs;subst hs;obtain⟨o,k1,k2,k3⟩:=h;exact⟨o,by simpa[famH] using k1,k2,k3⟩
  |ptr x r i j=>
   have hs:x=fa:=hs;subst hs;obtain⟨o,b,c,k1,k2⟩:=h;exact⟨o,b,c,by simpa[famH] using k1,k2⟩
 have hfam: ∀(x r:Nat) (o:OObj),(famH fa (s.H fa) x)[r]?=some o->x=fa/\(s.H fa)[r]?=some o:=fun x r o h=>by
  unfold famH at h;split at h
  ·rename_i hx;exact⟨hx,h⟩
  simp at h
 have hinv2:Inv W1 (fun _=>True) X2 (famH fa (s.H fa)) ρ W1:=by
  refine⟨Keep.refl _,fun x r o ho=>?_,fun x r x' r' o o' b c c' ho ho' e1 e2=>?_,fun x r o b c ho hr=>⟨.inr trivial,?_⟩,fun j hj=>hj.1,fun x r o ho=>?_⟩
  ·obtain⟨rfl,ho⟩:=hfam x r o ho;obtain⟨q1,q2,q3⟩:=hinv.objs x r o ho;refine⟨q1,q2,?_⟩;cases hr:ρ x r with
   |none=>rw[hr]at q3;exact q3
   |some bc=>
    obtain⟨b,c⟩:=bc;rw[hr]at q3;obtain⟨cells,p1,p2,p3,p4,p5⟩:=q3;refine⟨cells,by rw[hold b (hls x r o b c ho hr)];exact p1,p2,p3,p4,fun i e j z he hz=>?_⟩;obtain⟨u,u1,u2,u3⟩:=p5 i e j z he hz;exact⟨u,u1,u2,mono z u (hinv.self x r o ho e (u5 he) z (u5 hz)) u3⟩
  ·obtain⟨rfl,ho⟩:=hfam x r o ho;obtain⟨rfl,ho'⟩:=hfam x' r' o' ho';exact hinv.inj _ r _ r' o o' b c c' ho ho' e1 e2
  ·obtain⟨rfl,ho⟩:=hfam x r o ho;have hlt:=hls x r o b c ho hr;rintro⟨_,h|h|h|h⟩
   ·exact(hinv.old x r o b c ho hr).2 h
   ·obtain⟨x',r',o',c',hne,k2,k3⟩:=hown b h;exact hne (hinv.inj x' r' x r o' o b c' c k2 ho k3 hr).1
   ·omega
   omega
  obtain⟨rfl,ho⟩:=hfam x r o ho;exact hinv.self x r o ho
 obtain⟨X1,ρ0,c1,c2,c3,c4,_⟩:=pS (s:=⟨[],famH fa (s.H fa)⟩) (a:=⟨#[],[]⟩) (B:=(Fi R (mX ρ s.H fa) tml H jump hnl hH ht).B) rfl rfl hinv2 (fun t x hx=>by simp at hx) (fun j hj=>⟨trivial,by
  rcases hj with hj|hj
  ·have:j=w.heap.size+1:=hj;exact⟨by omega,.inr (.inr (.inr this))⟩
  exact⟨by have:=(hownlt j hj).1;omega,.inr (.inl hj)⟩⟩) hcon'.sR hcon'.sF hcon'.sF' hfa (by show(famH fa (s.H fa)) fa=_;simp[famH,hF])
 -- the rows that are lent
 have monoL: ∀x v (z:Nat),z≠fa->bs z x/\ig x=true-> ∀(Y:Nat->Prop),AV.rel ρ s.H (Xo X ρ s.H) w x v->AV.rel (mX ρ s.H fa) (aw s.H fa []) Y W1 x v:=fun x v z hz hs Y h=>by
  refine jt (c:=fun x=>bs z x/\ig x=true) (g:=id) (fun _ _ _ _ _ _ h=>⟨h.1.1,rfl⟩) rc (fun x v hn hs h=>?_) x v hs h;cases x with
  |fn=>cases hn
  |p x=>
   have q0:bQ (Xo X ρ s.H) W1 x v:=bQ.later (w:=w) (fun _ _ h=>h) (by omega) (fun p v hp hno hc=>by rw[<- hc];exact gm (hold p.block hp)) h;have q:AV.rel ρ s.H Y W1 (.p x) v:=yb (x:= .p x) (Y:=Xo X ρ s.H) hs.2 (m0 _) q0;exact q
  |junk=>trivial
  |sl x r off len=>
   have hs1:x=z:=hs.1;subst hs1;obtain⟨o,k1,k2,k3⟩:=h;exact⟨o,by rw[aD hz];exact k1,k2,by rw[o9 hz k1];exact k3⟩
  |ptr x r i j=>
   have hs1:x=z:=hs.1;subst hs1;obtain⟨o,b,c,k1,k2⟩:=h;exact⟨o,b,c,by rw[aD hz];exact k1,by rw[o9 hz k1];exact k2⟩
 have hsafe:x9 (aw s.H fa []):=by rw[<- hH0];exact hH g0
 have hupd: ∀(x r:Nat) (o:OObj),(aw s.H fa [] x)[r]?=some o->x≠fa/\(s.H x)[r]?=some o:=fun x r o h=>by
  by_cases hx:x=fa
  ·subst hx;rw[aM]at h;simp at h
  rw[aD hx]at h;exact⟨hx,h⟩
 have hinvL:Inv W1 (ownB (mX ρ s.H fa)) (fun j=>j=R.l) (aw s.H fa []) (mX ρ s.H fa) W1:=by
  refine⟨Keep.refl _,fun x r o ho=>?_,fun x r x' r' o o' b c c' ho ho' e1 e2=>?_,fun x r o b c ho hr=>⟨.inr ⟨x,r,c,hr⟩,fun hb=>?_⟩,fun j hj=>?_,fun x r o ho=>?_⟩
  ·have hso:=hsafe x o (u5 ho);obtain⟨hx,ho⟩:=hupd x r o ho;obtain⟨q1,q2,q3⟩:=hinv.objs x r o ho;refine⟨q1,q2,?_⟩;rw[o9 hx ho];cases hr:ρ x r with
   |none=>rw[hr]at q3;exact q3
   |some bc=>
    obtain⟨b,c⟩:=bc;rw[hr]at q3;obtain⟨cells,p1,p2,p3,p4,p5⟩:=q3;refine⟨cells,by rw[hold b (hls x r o b c ho hr)];exact p1,p2,p3,p4,fun i e j z he hz=>?_⟩;obtain⟨u,u1,u2,u3⟩:=p5 i e j z he hz;exact⟨u,u1,u2,monoL z u x hx ⟨hinv.self x r o ho e (u5 he) z (u5 hz),hso e (u5 he) z (u5 hz)⟩ _ u3⟩
  ·obtain⟨hx,ho⟩:=hupd x r o ho;obtain⟨hx',ho'⟩:=hupd x' r' o' ho';rw[o9 hx ho]at e1;rw[o9 hx' ho']at e2;exact hinv.inj x r x' r' o o' b c c' ho ho' e1 e2
  ·obtain⟨hx,ho⟩:=hupd x r o ho;rw[o9 hx ho]at hr;have:=hls x r o b c ho hr;have:R.l=w.heap.size+1:=rfl;omega
  ·have:R.l=w.heap.size+1:=rfl;omega
  exact hinv.self x r o (hupd x r o ho).2
 have htmL: ∀(H':OH) (Y:Nat->Prop),H'=aw s.H fa []-> ∀(t:Nat) x,tml[t]?=some x-> ∃v:Value,a.tmps[t]?=some v/\x.rel (mX ρ s.H fa) H' Y W1 v:=fun H' Y e t x hx=>by
  subst e;have hlt:t<a.tmps.size:=by rw[hsz,<- htl.1];exact(aaf.1 hx).1
  rcases htl.2 t x hx with rfl|h
  ·exact⟨a.tmps[t],by simp,trivial⟩
  obtain⟨v,v1,v2⟩:=htm t x h;refine⟨v,v1,?_⟩;have h3:=ht;simp only[aah]at h3 haw;have h3:=h3 x (u5 hx);have h4:=haw x (u5 hx);cases x with
  |one y=>
   have h3:ig y=true:=h3;have h4:wD fa y=true:=h4;cases y with
   |p y=>exact monoL (.p y) v (fa+1) (by omega) ⟨trivial,h3⟩ Y v2
   |junk=>trivial
   |sl z r off len=>exact monoL (.sl z r off len) v z (by simpa[wD] using h4) ⟨rfl,h3⟩ Y v2
   |ptr z r i j=>exact monoL (.ptr z r i j) v z (by simpa[wD] using h4) ⟨rfl,h3⟩ Y v2
   |fn f z qs=>
    obtain⟨vs,e1,e2,e3,e4⟩:=v2;exact monoL (.fn f z qs) v z (by simpa[wD] using h4) ⟨⟨rfl,acv e3⟩,h3⟩ Y ⟨vs,e1,e2,e3,e4⟩
  |_=>cases h3
 have hG0:(Fi R (mX ρ s.H fa) tml H jump hnl hH ht).G g0 (fun _=>True) W1:=by
  refine⟨by rw[hj0];exact hL1,rfl,by show a.tmps.size=_;rw[hsz,<- htl.1],?_,fun t x hx=>htmL _ _ hH0 t x hx⟩;show Inv W1 _ _ (H g0) _ W1;rw[hH0];exact hinvL
 refine⟨w.heap.size+1,[{target:= .collected w.heap.size,args:= #[]}],W1,{target:= .fn (.func f) #[],args:=fs++ #[.func (.yield (w.heap.size+1)) #[] #[]]},W1,f,fs++ #[.func (.yield (w.heap.size+1)) #[] #[]],W1,?_,?_,fun _ _=>trivial,?_,fun h=>by simp[Fence.wide]at h,?_⟩
 ·rw[<- hW1];exact run_enterLoop_outer _ _ _ _ _
 ·simp only[resolve,hge,Deferred.ofValue];simp[go_sem]
 ·simp only[invoke];rw[B4 hab]
  simp
 have e1:{a with defers:=[({target:= .collected w.heap.size,args:= #[]}:Deferred)]++a.defers}={a with defers:=[{target:= .collected w.heap.size,args:= #[]}]}:=by rw[h1];rfl
 rw[e1];refine CallsIn.mono (callsIn_wide.2 (hcon'.calls X1 (fun _=>True) W1 _ ρ0 c1 c2 (fun _ _=>trivial) hG0 (by simp[hfs]) fun j t hj=>?_)) ?_
 ·by_cases hjl:j<targs.length
  ·rw[aal hjl]at hj;obtain⟨v,v1,y,y1,y2⟩:=hts j t hj;refine⟨v,by rw[aaz (by omega)];exact v1,c3 t v (hcon'.sA t (by rw[abe];exact .inl (u5 hj))) ?_⟩;have hrel:=be htm y _ y1;rw[y2]at hrel;have hst:selfTV 0 t:=hcon'.sA t (by rw[abe];exact .inl (u5 hj));cases t with
   |one z=>exact mono _ v (dv fa z) hrel
   |agg cs=>
    obtain⟨vs,e1,e2,e3⟩:=hrel;refine⟨vs,e1,e2,fun j x hx=>?_⟩;obtain⟨u,u1,u2,u3⟩:=e3 j x hx;rw[u9]at hx;obtain⟨z,_,rfl⟩:=u6.1 hx;exact⟨u,u1,u2,mono _ u (dv fa z) u3⟩
   |fn g cs=>
    obtain⟨u0,⟨vs,e1,e2,e3⟩,e4⟩:=hrel;refine⟨u0,⟨vs,e1,e2,fun j x hx=>?_⟩,e4⟩;obtain⟨u,u1,u2,u3⟩:=e3 j x hx;rw[u9]at hx;obtain⟨z,_,rfl⟩:=u6.1 hx;exact⟨u,u1,u2,mono _ u (dv fa z) u3⟩
   |tup ts=>
    obtain⟨vs,e1,e2,e3⟩:=hrel;refine⟨vs,e1,e2,fun j b cs hx=>?_⟩;obtain⟨u,u1,u2⟩:=e3 j b cs hx;rw[u9]at hx;obtain⟨z,_,hz⟩:=u6.1 hx;injection hz with hz1 hz2
    subst hz2;refine⟨u,u1,?_⟩;rcases u2 with⟨u2,vs2,k1,k2,k3⟩|⟨u2,x,e,u4⟩
    ·refine .inl ⟨u2,vs2,k1,k2,fun i x hi=>?_⟩;obtain⟨q,q1,q2,q3⟩:=k3 i x hi;rw[u9]at hi;obtain⟨z',_,rfl⟩:=u6.1 hi;exact⟨q,q1,q2,mono _ q (dv fa z') q3⟩
    refine .inr ⟨u2,x,e,mono _ u ?_ u4⟩;have:x∈List.map (bY fa) z.2:=by rw[e];simp
    obtain⟨z',_,rfl⟩:=aai.1 this;exact dv fa z'
  have hj0:j=targs.length:=by
   have:=(aaf.1 hj).1;simp at this;omega
  subst hj0;rw[aap (aaq _),abQ]at hj;injection hj with hj
  subst hj;exact⟨.func (.yield (w.heap.size+1)) #[] #[],by rw[aaM (by omega),hfs,abQ];rfl,bZ rfl⟩
 rintro e w3 ⟨v,rfl,ρ',hi,⟨hG1,hG2⟩,_⟩;have hG1:w3.heap[w.heap.size+1]?=some (R.obj (jump g1)):=hG1;refine⟨jump g1,_,run_endLoop hG1 (by show(if(jump g1).isNone=true then LoopState.ready else LoopState.done)≠ .busy;split<;>simp),?_⟩;generalize hw4:w3.putObj _ _=w4;have hl3:w.heap.size+1<w3.heap.size:=(aan.1 hG1).1;have same4: ∀j,j≠w.heap.size+1->w4.heap[j]?=w3.heap[j]?:=fun j hj=>by rw[<- hw4];exact World.putObj_heap_other hj
 have hsz4:w4.heap.size=w3.heap.size:=by rw[<- hw4];simp
 have hb: ∀j,famB F ρ0 j\/(Fi R (mX ρ s.H fa) tml H jump hnl hH ht).B j->j≠w.heap.size/\w0.heap.size<=j:=fun j hj=>by
  have hw0:=hinv.keep.size;rcases hj with hj|hj|hj
  ·obtain⟨y,o',c',k1,k2⟩:=c4 j hj;have k1:(s.H fa)[y]?=some o':=by simpa[famH] using k1
   have:=hls fa y o' j c' k1 k2;have:=(hinv.old fa y o' j c' k1 k2).1.resolve_right id;omega
  ·have:j=w.heap.size+1:=hj;omega
  have:=hownlt j hj;omega
 have hk:=hi.keep;have htail:RS w0 (mX ρ s.H fa) w.heap.size ⟨tml,H g1⟩ {a with defers:=[{target:= .collected w.heap.size,args:= #[]}]} w4:=by
  have hinv4:Inv w4 (ownB (mX ρ s.H fa)) (fun j=>j<w0.heap.size\/j=w.heap.size) (H g1) (mX ρ s.H fa) w4:=DF (hH g1) hG2.2.2.1 (fun j hj=>same4 j (fun h=>by have:=(hownlt j hj).1;omega)) _ (fun j hj=>by
   have h1:=hinv.keep.size;have h2:=hk.size;omega) (fun j hj h=>by have:=hownlt j hj;omega)
  refine⟨⟨rfl,by show a.tmps.size=_;rw[hsz,<- htl.1],hinv4,fun t x hx=>?_⟩,⟨?_,?_,?_,?_,fun j hj _=>?_⟩,fun j hj=>(hownlt j hj).2,?_,fun h=>by have:=(hownlt _ h).1;omega,hinv.keep.size⟩
  ·obtain⟨v,v1,v2⟩:=hG2.2.2.2 t x hx;have ht':=ht;simp only[aah]at ht';exact⟨v,v1,B7 (ht' x (u5 hx)) (m0 _) v2⟩
  ·rw[<- hw4];show w3.os=_;rw[hk.os,<- hW1];exact hinv.keep.os
  ·rw[<- hw4];show w3.tape=_;rw[hk.tape,<- hW1];exact hinv.keep.tape
  ·rw[<- hw4];show w3.output=_;rw[hk.output,<- hW1];exact hinv.keep.output
  ·have:=hinv.keep.size;have:=hk.size;omega
  ·have hs0:=hinv.keep.size;rw[same4 j (by omega),hk.block j (by omega) (fun h=>by have:=(hb j h).2;omega),hold j (by omega),hinv.keep.block j hj (fun h=>h)]
  rw[same4 _ (by omega),hk.block _ (by omega) (fun h=>(hb _ h).1 rfl)];exact hK1
 have:=hQ _ _ _ htail;cases hj:jump g1 with
 |none=>rw[hj]at this;exact this
 |some c=>rw[hj]at this;exact(wpIn_wide (n:=0)).2 this
end
end
section
section
variable {P:Program} {w0 w w':World} {O X:Nat->Prop} {s s':AS} {a:Act} {ρ:Rho} {γ:Type}
def CA (w0:World) (X:Nat->Prop) (r:TV) (e:Ending) (w':World):Prop:= ∃v,e= .returned v/\ ∃ρ:Rho,Inv w0 (fun _=>False) X (famH 0 []) ρ w'/\r.rel ρ (famH 0 []) (Xo X ρ (famH 0 [])) w' v
def kO (P:Program) (b:Func) (r:TV) (w0:World) (X:Nat->Prop):Exit->Act->World->Prop:=bodyPostM (FW none) 0 P b (CA w0 X r)
def Ct (P:Program) (c:Code) (Post:World->(Nat->Prop)->Exit->Act->World->Prop) (s:AS):Prop:=
 ∀(w0:World) (X:Nat->Prop) (a:Act) (w:World),(∀b,X b->b<w0.heap.size)->da w0 (fun _=>False) X s a w->c.wp P (Post w0 X) a w
def zg (P:Program) (b:Func) (r:TV) (s:AS):Prop:= ∃s',bD s s'/\pj P s' b.results.toList=some r/\noRefTV r=true
def MS (P:Program) (b:Func) (r:TV) (Post:World->(Nat->Prop)->Exit->Act->World->Prop) (next:AS->Prop):Exit->AS->Prop
 | .normal,s=>next s
 | .ret,s=>zg P b r s/\Post=kO P b r
 |_,_=>False
theorem I3 {wB:World} {OB:Nat->Prop} {g:Rho} (p: ∀b,X b->b<w0.heap.size) (n:Keep (fun _=>False) w0 w) (m: ∀j,X j->l j) (t:noRefTV v=true) (h:v.rel g s.H (Xo l g s.H) w u):CA w0 X v (.returned u) w:=by
 refine⟨u,rfl,fun _ _=>none,⟨n,fun x y o e=>?_,fun x y B C o A b c z _ _ h=>(by cases h),fun x y o b c _ h=>(by cases h),fun b q=>aas (p b q) n.size,fun x y o e=>?_⟩,xE (fun j _ f=>?_) t h⟩
 ·unfold famH at e;split at e<;>simp at e
 ·unfold famH at e;split at e<;>simp at e
 rcases f with f|⟨_,_,_,_,_,f⟩
 ·exact .inl (m j f)
 cases f
theorem LN (h:zg P z v s) (n: ∀b,X b->b<w0.heap.size) (q:da w0 (fun _=>False) X s a w) {e:Exit} (o:e= .normal\/e= .ret):kO P z v w0 X e a w:=by
 obtain⟨x,u,j,p⟩:=h;obtain⟨m,t,l,f,g⟩:=u _ _ _ _ _ q;have g:aX X l x a w:=g;obtain⟨c,y,A⟩:=eA f g j;have key:LeavesInM (FW none) 0 P z a.tmps (CA w0 X v) a.defers .returning w:=by
  rw[m];exact⟨c,y,I3 (wB:=w) (OB:=fun _=>False) n f.keep (fun _ h=>h) p A⟩
 rcases o with rfl|rfl
 ·exact key
 exact key
theorem Da {f:FuncId} {fn:Func} {args:List TV} (G:P.funcs[f]?=some fn) (E:fn.body=some c) (I:callable P f=true) (h:Ct P c (kO P fn v) ⟨args++List.replicate (fn.ntmps-args.length) .undef,fun _=>[]⟩):CallC P f args ⟨[],v⟩:=by
 refine⟨I,fun X w vs C B l=>?_⟩;refine(callsIn_wide (n:=0)).1 (callsIn_of_wp_marks (F:=FW none) (n:=0) (R:=CA w X v) G E trivial ((wpIn_wide (n:=0)).2 (h w X _ w C ?_)));refine⟨rfl,by simp[B],fun _ _=>none,⟨Keep.refl w,fun a v o m=>by simp at m,fun a v N U o S b c Q m=>by simp at m,fun a v o b c m=>by simp at m,C,fun a v o m=>by simp at m⟩,fun t x g=>?_⟩;have A: ∀b,b<w.heap.size->Xo X (fun _ _=>none) (fun _=>[]) b->X b:=fun b _ h=>by
  rcases h with h|⟨a,v,o,c,q,D⟩
  ·exact h
  cases D
 by_cases J:t<args.length
 ·rw[aal J]at g;obtain⟨e,L,M⟩:=l t x g;refine⟨e,by rw[aaz (by omega)];exact L,TV.rel_map M (fun y u z=>?_)⟩;cases y with
  |p y=>exact bQ.weaken A z
  |sl a v K len=>obtain⟨o,q,_⟩:=z;simp at q
  |ptr a v i j=>obtain⟨o,_,_,q,_⟩:=z;simp at q
  |fn f a T=>exact(oQ (fun _=>rfl) z).elim
  |junk=>trivial
 rw[aap (by omega),aaY]at g;split at g
 ·rename_i H;injection g with g
  subst g;refine⟨undef,?_,dI⟩;rw[aaM (by omega),abo,if_pos (by omega)]
 cases g
variable {fn:Func} {r:TV} {Post:World->(Nat->Prop)->Exit->Act->World->Prop}
theorem IB (h:bo P c (MS P fn r Post (Ct P e Post)) s):Ct P (.seq c e) Post s:=fun w0 X a w j m=>
 wp_seq (wp_mono (h _ _ _ _ _ m) fun b l w' ⟨s',f,g⟩=>by
  cases b with
  |normal=>exact f w0 X l w' j g
  |ret=>obtain⟨f,rfl⟩:=f;exact LN f j g (.inr rfl)
  |_=>exact f.elim)
theorem AD (A: ∀b,X b->b<w0.heap.size) (c:RS w0 ρ n s a w) {s':AS} {l:Act} {w':World} (B:RelR ρ [{target:= .collected n,args:= #[]}] w (ownB ρ) (fun j=>j<w0.heap.size\/j=n) s' l w') (F:zg P fn r s') {e:Exit} (E:e= .normal\/e= .ret):kO P fn r w0 X e l w':=by
 obtain⟨M,H,u,G⟩:=F;have C:n<w.heap.size:=(aan.1 c.mark).1;have q:=B.2.2.1.keep;have x:w'.heap[n]?=some (.deferred (some [])):=by rw[q.block n C c.no.1];exact c.mark
 obtain⟨g,p⟩: ∃g,g=w'.putObj n (.deferred none):=⟨_,rfl⟩;have y:RelR ρ [{target:= .collected n,args:= #[]}] g (ownB ρ) (fun j=>j<w0.heap.size\/j=n) s' l g:=by
  subst p;exact B.turn (fun j t=>World.putObj_heap_other fun h=>t (.inr h)) (by simp)
 obtain⟨I,J,K,L⟩:=y;obtain⟨_,_,z,m,f⟩:=H g (ownB ρ) _ {l with defers:=[]} g ⟨rfl,J,ρ,K,L⟩;have f:aX _ z M {l with defers:=[]} g:=f;obtain⟨v,N,Q⟩:=eA m f u;have o:Keep (fun _=>False) w0 g:=by
  subst p;refine⟨q.os.trans c.keep.os,q.tape.trans c.keep.tape,q.output.trans c.keep.output,?_,fun j t _=>?_⟩
  ·have:=c.keep.size;have:=q.size;simp;omega
  have:=c.no.2;have:=c.keep.size;rw[World.putObj_heap_other (by omega),q.block j (by omega) (fun h=>by have:=c.own j h;omega),c.keep.block j t (fun h=>h)]
 have key:LeavesInM (FW none) 0 P fn l.tmps (CA w0 X r) l.defers .returning w':=by
  rw[I];refine⟨by simp,.inl ⟨n,g,rfl,by rw[p];exact run_takeDeferred x,v,N,I3 (wB:=g) (OB:=ownB ρ) A o (fun j t=> .inl (A j t)) G Q⟩⟩
 rcases E with rfl|rfl
 ·exact key
 exact key
theorem QC (g: ∀b,X b->b<w0.heap.size) (f:RS w0 ρ m s a w) (h:ws P none ρ [{target:= .collected m,args:= #[]}] c (fun e s'=>(e= .normal\/e= .ret)/\zg P fn r s') s):c.wp P (kO P fn r w0 X) a w:=
 (wpIn_wide (n:=0)).1 (wpIn_mono (h _ _ _ _ _ f.rel) fun _ _ _ ⟨_,⟨j,l⟩,o⟩=>AD g f o l j)
end
end
end Go.Proofs.YtalmoejhjceflaaGreat
