/-
  Part 12 of a proof (walks and plain facts).
-/
import Derived.Test.YtalmoejhjceflaaGreatV10
import Derived.RangeFuncRecord
import Derived.OrdersIn
import Derived.RangeFuncLeaves
set_option linter.all false
set_option maxRecDepth 100000
set_option maxHeartbeats 64000000
namespace Go.Proofs.YtalmoejhjceflaaGreat
open Go.RowKit
variable {b:Array Oper} {c e:Code} {f:Exit->Act->World->Prop} {g:AS->Act->World->Prop} {n m:Nat} {h j:List OObj} {s:AS} {l:Operand} {o:Nat->Prop} {p:Oper} {q:Act->World->Prop} {r:List Nat} {t:List Deferred} {u:FuncId} {v:Value} {w:Bool} {x:TV} {y:OH}
section
abbrev FW (b:Option Nat):Fence:={Fence.wide with round:=b}
section
variable {P:Program} {w0 w:World} {O X:Nat->Prop} {s s':AS} {a:Act} {ks:List Nat}
theorem lj {b:Option Nat} (j:b=none\/ ∀c,p.op≠ .defer c) (h:p.wp P a w q f):p.wpIn (FW b) n P a w q f:=by
 refine⟨fun _ _=>trivial,?_⟩;have e:Oper.semAt (FW b).round a.eval p=execOp a.eval p:=by
  rcases j with rfl|j
  ·rfl
  grind [Oper.semAt_eq]
 rw[e];unfold Oper.wp at h;generalize(execOp a.eval p).run P w=r at h⊢;have l:(FW b).depth.isSome=true->1<=n:=fun h=>by simp[Fence.wide]at h
 cases r with
 |ok x g=>
  cases x<;>simp only[Oper.upon,Oper.uponIn]at h⊢ <;>first
   |exact h
   |exact⟨l,CallsIn.mono (callsIn_wide.2 h) (fun e t u=>by omega)⟩
   |exact⟨l,fun c m _=>let ⟨v,g,r,s⟩:=h c m;⟨v,g,r,stepsIn_wide.2 s⟩⟩
 |halt x g=>cases x<;>simp only[Oper.upon,Oper.uponIn]at h⊢ <;>exact h
theorem zz {c:List (ar P)} {i:Nat} {g:AS} (m:b[i]?=some p) (h:bs P (c.map ar.a) r b i p s=some g) (t:dP w0 O X s a w) (l: ∀v j,dP w0 O X g (a.put p.dst v) j->q (a.put p.dst v) j):wpOpIn (FW none) n P b f i q a w:=by
 have e:=jA (Q:=f) (ar.ok c) t h l;unfold wpOpIn;rw[m];simp only;split at e
 ·grind [lj]
 rename_i u;rw[if_neg u];exact⟨fun _ _=>trivial,e⟩
def zS (ks:List Nat) (a b:Act):Prop:= ∀k∈ks,b.tmps[k]?=a.tmps[k]?
def cY (ks:List Nat) (b:Array Oper):Bool:=ks.all fun k=>VG k b
theorem i6 (h:cY r b=true) (e:b[n]?=some p) (v:Value):zS r a (a.put p.dst v):=fun k c=>by
 grind [cY,KK,VH]
theorem zS.trans {b c e:Act} (h:zS ks b c) (g:zS ks c e):zS ks b e:=fun k f=>(g k f).trans (h k f)
theorem qc {n:Nat} {c:List (ar P)} {z:List Nat} {b:Array Oper} (t:cY ks b=true) {Q:Exit->Act->World->Prop} {suf:List Nat}: ∀(l:List Oper) (m:Nat) (s s':AS) (a:Act) (w:World),(∀(j:Nat) o,l[j]?=some o->b[m+j]?=some o)->
  ja P (c.map ar.a) z b (l.zipIdx m) s=some s'->dP w0 O X s a w->(∀f g,zS ks a f->dP w0 O X s' f g->wpOpsIn (FW none) n P b Q suf f g)->wpOpsIn (FW none) n P b Q (List.range' m l.length++suf) a w
 |[],m,s,s',a,w,_,h,r,p=>by
  simp only[ag8,ja]at h;injection h with h
  subst h;exact p a w (fun _ _=>rfl) r
 |o::l,m,s,s',a,w,u,h,r,p=>by
  simp only[agt,ja]at h;split at h
  ·rename_i B q;simp only[ae6,afj,agr];rw[wpOpsIn_cons];have x:b[m]?=some o:=by have:=u 0 o rfl;omega
   exact zz x q r fun v g y=>qc t l (m+1) B s' _ _ (fun j o C=>by have:=u (j+1) o (by grind);grind) h y fun f g e A=>p f g ((i6 t x v).trans e) A
  cases h
theorem Ge {n:Nat} {e:List (ar P)} {suf:List Nat}: ∀(l:List Oper) (k:Nat) (s s':AS) (a:Act) (w:World),(∀(j:Nat) o,l[j]?=some o->b[k+j]?=some o)->
  ja P (e.map ar.a) r b (l.zipIdx k) s=some s'->dP w0 O X s a w->(∀g m,dP w0 O X s' g m->wpOpsIn (FW none) n P b f suf g m)->wpOpsIn (FW none) n P b f (List.range' k l.length++suf) a w:=fun l k s s' a w q h c p=>
 qc (ks:=[]) rfl l k s s' a w q h c fun g m _ t=>p g m t
/-! Ways to say how a state and a world stand to one another. -/
def S6 (R:AS->Act->World->Prop):Prop:= ∀s a w,R s a w-> ∃(g:World) (b c:Nat->Prop),dP g b c s a w/\ ∀s' e f,dP g b c s' e f->R s' e f
theorem I3:S6 (dP w0 O X):=fun _ _ _ h=>⟨w0,O,X,h,fun _ _ _ h=>h⟩
def CR (P:Program) (o:Oper) (c e:Act->World->Prop):Prop:= ∀(a:Act) (w:World) (K:Act->World->Prop) (Q:Exit->Act->World->Prop),c a w->(∀v b,e (a.put o.dst v) b->K (a.put o.dst v) b)->o.wpIn (FW none) 0 P a w K Q
def yO (P:Program) (b:Array Oper) (m:Nat) (c e:Act->World->Prop):Prop:= ∃o,b[m]?=some o/\o.guard=none/\CR P o c e
def yc (ks:List Nat) (R:AS->Act->World->Prop):Prop:= ∀s a w,R s a w-> ∃(g:World) (c e:Nat->Prop),dP g c e s a w/\ ∀s' b f,zS ks a b->dP g c e s' b f->R s' b f
theorem S6.k (M:S6 g):yc [] g:=fun s a w h=>
 have⟨w1,O1,X1,h1,h2⟩:=M s a w h
 ⟨w1,O1,X1,h1,fun s' b c _ r=>h2 s' b c r⟩
theorem rO {R1 R2:AS->Act->World->Prop} (A:yc ks R1) (B:yc ks R2) (m:Nat) (c:List (ar P)) (z:List Nat) {id:Nat} (y:cY ks b=true) (Z:m<b.toList.length) {t u x:AS} (G:ja P (c.map ar.a) z b ((b.toList.take m).zipIdx 0) s=some t) (q:yO P b m (R1 t) (R2 u)) (H:ja P (c.map ar.a) z b ((b.toList.drop (m+1)).zipIdx (m+1)) u=some x) (M:R1 s a w) (I: ∀e g,R2 x e g->f .normal e g):(Code.region id b false).wp P f a w:=by
 refine(wpIn_wide (n:=0)).1 (wpIn_region (F:=FW none) ?_);obtain⟨wa,Oa,Xa,U,N⟩:=A s a w M;obtain⟨o,L,J,p⟩:=q;have r:b.size=(b.toList.take m).length+(1+(b.toList.drop (m+1)).length):=by grind
 rw[r,afi,<- afk,afm];have h:(b.toList.take m).length=m:=by grind
 refine qc y (b.toList.take m) 0 s t a w (fun j o K=>?_) G U fun e g D S=>?_
 ·grind
 rw[h,agn 1,afj,wpOpsIn_cons];unfold wpOpIn;rw[L];simp only;rw[if_pos (by simp[Region.wanted,J])];refine p e g _ _ (N _ _ _ D S) fun v W l=>?_
 obtain⟨wb,Ob,Xb,V,R⟩:=B _ _ _ l;have:=qc (n:=0) (Q:=f) (suf:=[]) y (b.toList.drop (m+1)) (m+1) u x _ W (fun j o K=>by
  grind) H V (fun C Y E T=>I C Y (R _ _ _ E T))
 grind
/-! A drawn region whose last operation comes behind all others. -/
def AK (o:Oper):Oper:={o with op:= .move (.const (.bool false))}
def CW:Nat->List Oper->List Oper
 |_,[]=>[]
 |0,o::l=>AK o::l
 |m+1,o::l=>o::CW m l
def mz (b:Array Oper) (m:Nat):Array Oper:=⟨CW m b.toList⟩
theorem Iq: ∀(m:Nat) (l:List Oper) (i:Nat),(CW m l)[i]?=if i=m then(l[i]?).map AK else l[i]?
 |m,[],i=>by simp[CW]
 |0,o::l,0=>rfl
 |0,o::l,i+1=>by simp[CW]
 |m+1,o::l,0=>by simp[CW]
 |m+1,o::l,i+1=>by simp[CW,Iq m l i]
theorem Ir: ∀(m:Nat) (l:List Oper),(CW m l).length=l.length
 |m,[]=>by simp[CW]
 |0,o::l=>rfl
 |m+1,o::l=>by simp[CW,Ir m l]
section
variable {ops:Array Oper} {m:Nat}
theorem me (i:Nat):(mz ops m)[i]?=if i=m then(ops[i]?).map AK else ops[i]?:=by
 grind [Iq,mz]
theorem lD:(mz ops m).size=ops.size:=by simp[mz,Ir]
theorem YV (g:Nat):((mz ops m)[g]?).bind (·.dst)=(ops[g]?).bind (·.dst):=by
 rw[me];split
 ·cases ops[g]?<;>rfl
 rfl
theorem qM {b:List (dD P)} {i:Nat}:bs P b r (mz ops m) i p s=bs P b r ops i p s:=by
 grind [bs,YV]
theorem D0 {b:Array Bool} {i:Nat}:i∈Region.ready .any (mz ops m) b↔i∈Region.ready .any ops b:=by
 grind [mem_ready,me,AK]
theorem HD {Wp:Nat->(Act->World->Prop)->Act->World->Prop}: ∀f,uO (mz ops m) q Wp f=uO ops q Wp f:=by
 have c: ∀b,Region.ready .any (mz ops m) b=[]↔Region.ready .any ops b=[]:=fun b=>by
  simp only[ahy,D0]
 intro f
 induction f with
 |zero=>grind [uO]
 |succ f e=>simp_all[uO,D0]
theorem zc {n:Nat} {Q:Exit->Act->World->Prop}: ∀f,uO ops (Q .normal) (fun i K a w=>wpOpIn (FW none) n P ops Q i K a w) f=wpAnyIn (FW none) n P .any ops Q f
 |0=>rfl
 |f+1=>by
  funext l a w;simp only[uO,wpAnyIn,zc f]
end
def Lo (b:Array Oper):Bool:=decide (0<b.size)&&(cz [] (mz b (b.size-1))&&(List.range (b.size-1)).all fun i=>((qv (mz b (b.size-1)).toList []).getD (b.size-1) 0).testBit i)
theorem AJ {R1 R2:AS->Act->World->Prop} (N:yc ks R1) (V:P.follows .mixedOrders=true) (c:List (ar P)) (q:List Nat) {id:Nat} (hk:cY ks b=true) (hE:Lo b=true) {C L:AS} (h1:ja P (c.map ar.a) q b ((b.toList.take (b.size-1)).zipIdx 0) s=some C) (aa:yO P b (b.size-1) (R1 C) (R2 L)) (t:R1 s a w) (hQ: ∀a' M,R2 L a' M->f .normal a' M):(Code.region id b true).wp P f a w:=by
 simp only[Lo,afb,decide_eq_true_eq,aeP,afE]at hE;obtain⟨ac,hd,G⟩:=hE;obtain⟨o,ho,hg,Z⟩:=aa;generalize hm:b.size-1=m at*
 have ab:m<b.size:=by omega
 have U:(b.toList.take m).length=m:=by grind
 have u:dS P (c.map ar.a) q (mz b m) (List.range m) s=some C:=by
  have:=jb (P:=P) (items:=c.map ar.a) (ow:=q) (b.toList.take m) 0 s (fun j o B=>by
   rw[ag3]at B;split at B
   ·simpa using B
   cases B)
  rw[h1,U,<- afi]at this;rw[this];have key: ∀(l:List Nat) (s:AS),(∀i∈l,i<m)->dS P (c.map ar.a) q (mz b m) l s=dS P (c.map ar.a) q b l s:=fun l=>by
   induction l with
   |nil=>intros;rfl
   |cons i l ih=>
    intro s hl;have hi:=hl i (by simp);have e:eK P (c.map ar.a) q (mz b m) i s=eK P (c.map ar.a) q b i s:=by
     grind [eK,me,qM]
    simp only[dS,e];cases eK P (c.map ar.a) q b i s with
    |none=>rfl
    |some L=>grind
  grind
 have S:(mz b m)[m]?=some (AK o):=by grind [me]
 have T:bs P (c.map ar.a) q (mz b m) m (AK o) C=some (C.put o.dst (.raw (.bool false))):=by
  unfold bs;rw[show(AK o).guard=none from hg];rfl
 have J:dS P (c.map ar.a) q (mz b m) (List.range (mz b m).size) s=some (C.put o.dst (.raw (.bool false))):=by
  rw[lD,show b.size=m+1 by omega,afH,jO,u];grind [dS,eK]
 refine(wpIn_wide (n:=0)).1 (wpIn_region_any (F:=FW none) V ?_);have ah:R1 s a {w with drawn:=w.drawn+1}:=by
  obtain⟨wa,Oa,Xa,⟨q1,q2,ρ,I,A⟩,ka⟩:=N s a w t;have e:fm w {w with drawn:=w.drawn+1}:=⟨rfl,rfl,rfl,aeJ _,fun _ _=>rfl⟩;have A:bz Xa ρ s a w:=A;exact ka _ _ _ (fun _ _=>rfl) ⟨q1,q2,ρ,I.grow e,A.grow e⟩
 have y:nl s:=by obtain⟨wa,Oa,Xa,r,_⟩:=N s a w t;exact gL r
 rw[<- zc,<- HD (m:=m)];refine pA (sep:=[]) (oE hd (by simp)) hd (fun p s a w=>if p m then R2 L a w else R1 s a w) ⟨y,fun x hx=>by simp at hx⟩ J (fun p a w E t=>?_) (fun p i o' s' ai a w K h W R hs t hK=>?_) b.size (Array.replicate b.size false) s a _ (by simp[lD]) ?_ ?_ ?_ ?_
 ·rw[if_pos (E m (by grind))]at t;exact hQ a w t
 ·obtain⟨hc,ad,g⟩:=R;have ae:i<b.size:=by grind [lD]
  have D:fc p i i=true:=by simp[fc]
  by_cases H:i=m
  ·subst H;rw[S]at h;injection h with h
   subst h;have Y:oX (mz b i).size p=List.range i:=vZ (by grind) (fun j B=>by
    grind [jY,fc]) (fun j af ag=>by
    grind [lD])
   rw[Y,u]at g;injection g with g
   subst g;rw[W,if_neg (by decide)]at t;unfold wpOpIn;rw[ho];simp only;rw[if_pos (by simp[Region.wanted,hg])];exact Z a w K f t fun v M h2=>hK v M (by rw[if_pos D];exact h2)
  have z:p m=false:=by
   cases z:p m with
   |false=>rfl
   |true=>
    have:=jY hc (m+1) m (by omega) (by grind) z (G i (by omega));grind
  rw[z,if_neg (by decide)]at t;rw[me,if_neg H]at h;rw[qM]at hs;obtain⟨wa,Oa,Xa,ra,ka⟩:=N _ _ _ t;grind [zz,fc,i6]
 ·intro j o ho hp;have B:j<b.size:=by grind [lD]
  simp_all
 ·grind [lD]
 ·have:oX (mz b m).size (fun j=>(Array.replicate b.size false).getD j true)=[]:=by
   simp_all[oX,lD]
  rw[this];rfl
 simp_all
end
end
section
structure iz (γ:Type) where
 B:Nat->Prop
 G:γ->(Nat->Prop)->World->Prop
 sp: ∀(g:γ) (Y:Nat->Prop) (w w':World),(∀j,B j->w'.heap[j]?=w.heap[j]?)->(∀j,¬Y j->w'.heap[j]?=w.heap[j]?)->G g Y w->G g Y w'
def VI:iz Unit:=⟨fun _=>False,fun _ _ _=>True,fun _ _ _ _ _ _ h=>h⟩
section
variable {P:Program} {γ:Type} {L:iz γ} {g g':γ} {w0 w:World} {O X Y:Nat->Prop} {s s':AS} {a:Act}
def ik (L:iz γ) (Y:Nat->Prop) (w0:World) (O X:Nat->Prop) (g:γ) (s:AS) (a:Act) (w:World):Prop:=dP w0 O X s a w/\(∀j,L.B j->O j/\X j)/\(∀j,O j\/w0.heap.size<=j->Y j)/\L.G g Y w
theorem ik.rebase (h:ik L Y w0 O X g s a w): ∃Own:Nat->Prop,dP w Own X s a w/\ ∀D q p,dP w Own X D q p->ik L Y w0 O X g D q p:=by
 obtain⟨⟨G,z,E,b,A⟩,v,y,I⟩:=h;refine⟨fun j=> ∃(x r:Nat) (o:OObj) (c:Nat),(s.H x)[r]?=some o/\E x r=some (j,c),⟨G,z,E,⟨Keep.refl w,b.objs,b.inj,fun x r o j c n f=>⟨.inr ⟨x,r,o,c,n,f⟩,(b.old x r o j c n f).2⟩,b.bar,b.self⟩,A⟩,?_⟩;rintro D q p ⟨M,B,F,e,C⟩;have l: ∀j,(∃(x r:Nat) (o:OObj) (c:Nat),(s.H x)[r]?=some o/\E x r=some (j,c))->(w0.heap.size<=j\/O j)/\ ¬X j:=fun j ⟨x,r,o,c,t,u⟩=>b.old x r o j c t u
 refine⟨⟨M,B,F,⟨⟨e.keep.os.trans b.keep.os,e.keep.tape.trans b.keep.tape,e.keep.output.trans b.keep.output,aeN b.keep.size e.keep.size,fun j f K=>?_⟩,e.objs,e.inj,fun x r o j c n f=>?_,e.bar,e.self⟩,C⟩,v,y,?_⟩
 ·rw[e.keep.block j (aeT f b.keep.size) (fun m=>by
   grind)]
  exact b.keep.block j f K
 ·obtain⟨t,u⟩:=e.old x r o j c n f;refine⟨?_,u⟩;rcases t with g|g
  ·exact .inl (aeN b.keep.size g)
  grind
 refine L.sp g Y w p (fun j f=>e.keep.block j (b.bar j (v j f).2) (fun m=>(l j m).2 (v j f).2)) (fun j f=>?_) I;by_cases J:j<w.heap.size
 ·exact e.keep.block j J fun m=>f (y j (l j m).1.symm)
 exact absurd (y j (.inr (aeN b.keep.size (by omega)))) f
theorem t8:S6 (ik L Y w0 O X g):=fun _ _ w h=>by
 obtain⟨Own,b,c⟩:=h.rebase;grind
def wT (P:Program) (L:iz γ) (c:Code) (Q:Exit->AS->γ->Prop) (s:AS) (g:γ):Prop:=
 ∀(Y:Nat->Prop) (w0:World) (O X:Nat->Prop) (a:Act) (w:World),ik L Y w0 O X g s a w->c.wp P (fun e b f=> ∃s' g',Q e s' g'/\ik L Y w0 O X g' s' b f) a w
def wC (next:AS->γ->Prop) (Q:Exit->AS->γ->Prop):Exit->AS->γ->Prop
 | .normal,s,k=>next s k
 |e,s,k=>Q e s k
def KQ (id:Nat) (Q:Exit->AS->γ->Prop):Exit->AS->γ->Prop
 | .exit b,s,k=>if b=id then Q .normal s k else Q (.exit b) s k
 |e,s,k=>Q e s k
variable {Q:Exit->AS->γ->Prop}
theorem abK (h:bv P c (fun e s'=>Q e s' g) s):wT P L c Q s g:=fun Y w0 O X a w r=>by
 obtain⟨Own,j,l⟩:=r.rebase;exact wp_mono (h _ _ _ _ _ j) fun e m n ⟨s',b,f⟩=>⟨s',g,b,l _ _ _ f⟩
theorem ik.weak (h:bN s s') (r:ik L Y w0 O X g s a w):ik L Y w0 O X g s' a w:=by
 obtain⟨Own,b,c⟩:=r.rebase;exact c _ _ _ (h _ _ _ _ _ b)
theorem wT.weak (h:bN s s') (k:wT P L c Q s' g):wT P L c Q s g:=fun _ _ _ _ _ _ r=>k _ _ _ _ _ _ (r.weak h)
theorem To (h:Q .normal s g):wT P L .skip Q s g:=fun _ _ _ _ _ _ r=>wp_skip ⟨s,g,h,r⟩
theorem Ys (h:Q .ret s g):wT P L .ret Q s g:=fun _ _ _ _ _ _ r=>wp_ret ⟨s,g,h,r⟩
theorem y8 (h:wT P L c (wC (wT P L e Q) Q) s g):wT P L (.seq c e) Q s g:=fun _ _ _ _ _ _ r=>
 wp_seq (wp_mono (h _ _ _ _ _ _ r) fun b a w ⟨s',g',f,j⟩=>by
  cases b with
  |normal=>exact f _ _ _ _ _ _ j
  |_=>exact⟨s',g',f,j⟩)
theorem Hg {v:Bool} (m:s.ev l=some (.raw (.bool v))) (p:v=true->wT P L c Q s g) (n:v=false->wT P L e Q s g):wT P L (.cond l c e) Q s g:=fun _ _ _ _ _ _ r=>by
 obtain⟨⟨q,o,t,f,b⟩,_⟩:=id r;have j:=(bo (bE b l _ m)).1;exact wp_cond_split j (fun h=>p h _ _ _ _ _ _ r) (fun h=>n h _ _ _ _ _ _ r)
theorem abJ (b:s.ev l=some (.raw (.bool true))) (h:wT P L c Q s g):wT P L (.cond l c e) Q s g:=Hg b (fun _=>h) (fun h=>by cases h)
theorem abI (b:s.ev l=some (.raw (.bool false))) (h:wT P L e Q s g):wT P L (.cond l c e) Q s g:=Hg b (fun h=>by cases h) (fun _=>h)
theorem Tp (e:List (ar P)) (f:List Nat) {id:Nat} (h: ∀K:AS->Prop,(∀s',wT P L c Q s' g->K s')->bM P (e.map ar.a) f (aV b b.toList 0) (some s) K):wT P L (.seq (.region id b false) c) Q s g:=
 y8 (abK (qJ e f h))
theorem wU {id:Nat} (h: ∀K:AS->Prop,(∀s',wT P L c Q s' g->K s')->bM P [] [] (aV b b.toList 0) (some s) K):wT P L (.seq (.region id b false) c) Q s g:=Tp [] [] h
structure uC (P:Program) (L:iz γ) (f:FuncId) (args:List TV) (F F':List OObj) (g g':γ) (r:TV):Prop where
 able:callable P f=true
 sA: ∀t∈args,selfTV 0 t
 sR:selfTV 0 r
 sF: ∀o∈F,selfO 0 o
 sF': ∀o∈F',selfO 0 o
 calls: ∀(X Y:Nat->Prop) (w:World) (vs:Array Value) (ρ:Rho),Inv w (fun j=>famB F ρ j\/L.B j) X (famH 0 F) ρ w->(∀j,L.B j->X j)->(∀j,(famB F ρ j\/L.B j)\/w.heap.size<=j->Y j)->L.G g Y w->vs.size=args.length->
  (∀(j:Nat) t,args[j]?=some t-> ∃v:Value,vs[j]?=some v/\t.rel ρ (famH 0 F) (Xo X ρ (famH 0 F)) w v)->
  Calls P f vs w fun e w'=> ∃v,e= .returned v/\ ∃ρ':Rho,Inv w (fun j=>famB F ρ j\/L.B j) X (famH 0 F') ρ' w'/\L.G g' Y w'/\r.rel ρ' (famH 0 F') (Xo X ρ' (famH 0 F')) w' v
theorem TW {C:Func} {args:List TV} (Z:P.funcs[u]?=some C) (W:C.body=some c) (hn:callable P u=true) (sA: ∀t∈args,selfTV 0 t) (sR:selfTV 0 x) (sF: ∀o∈h,selfO 0 o) (sF': ∀o∈j,selfO 0 o) (b:wT P L c (fun e s k=>(e= .normal\/e= .ret)/\k=g'/\ ∃s',bN s s'/\abB P C j x s') ⟨args++List.replicate (C.ntmps-args.length) .undef,famH 0 h⟩ g):uC P L u args h j g g' x:=by
 refine⟨hn,sA,sR,sF,sF',fun X Y w vs R q T V U G p=>?_⟩;refine calls_of_wp Z W ?_;have E:dP w (fun l=>famB h R l\/L.B l) X ⟨args++List.replicate (C.ntmps-args.length) .undef,famH 0 h⟩ {tmps:=vs++Array.replicate (C.ntmps-vs.size) undef,defers:=[]} w:=⟨rfl,by simp[G],R,q,r6 G p⟩;refine wp_mono (b Y _ _ _ _ _ ⟨E,fun l M=>⟨.inr M,T l M⟩,V,U⟩) fun e S w' ⟨s1,k,⟨I,hk,s2,hw,n,H⟩,y,_,_,D⟩=>?_
 subst hk;obtain⟨K,aa,A,m,z⟩:=hw _ _ _ _ _ y;have z:bz X A s2 S w':=z;rw[n]at m;obtain⟨v,N,J⟩:=gU (by rw[n];exact m) z H;rw[n]at J;rcases I with rfl|rfl
 ·exact⟨K,v,N,v,rfl,A,m,D,J⟩
 exact⟨K,v,N,v,rfl,A,m,D,J⟩
def cfTs (o:Oper) (s:AS):Option (FuncId×List TV):=match o.op with
 | .call c=>match c.callee with
  | .value (.func f)=>(gy s.ev c.args.toList).map fun e=>(f,e)
  | .value (.tmp k)=>match KS (s.ev (.tmp k)),gy s.ev c.args.toList with
   |some (f,b),some e=>some (f,e++b)
   |_,_=>none
  |_=>none
 |_=>none
def cxTs (b:Array Oper) (m:Nat) (s:AS):Option (FuncId×List TV):=match b[m]? with
 |some o=>if o.guard.isNone then cfTs o s else none
 |none=>none
structure GW (ops:Array Oper) (m:Nat) (f:FuncId) (args:List TV) (fa:Nat) (F:List OObj) (s:AS):Prop where
 ts:cxTs ops m s=some (f,args.map (renTV fa))
 fam:s.H fa=F.map (renO fa)
theorem EU {F:Rho} {x:List TV} (b:cfTs p s=some (u,x)) (m:bz X F s a w) (able:callable P u=true):
  ∃vs:Array Value,(execOp a.eval p).run P w= .ok (.enter u vs) w/\vs.size=x.length/\ ∀(j:Nat) t,x[j]?=some t-> ∃v:Value,vs[j]?=some v/\t.rel F s.H (Xo X F s.H) w v:=by
 unfold cfTs at b;split at b
 ·rename_i c q;split at b
  ·rename_i I h;obtain⟨G,l,e⟩:=adT.1 b;injection e with e z
   subst e z;obtain⟨A,B⟩:=co l;refine⟨_,gY q h rfl able,by simp[A],fun j t r=>?_⟩;obtain⟨y,K,n⟩:=B j t r;refine⟨a.eval y,?_,bE m y _ n⟩;grind
  ·rename_i k h;split at b
   ·rename_i I C G D l;injection b with b
    injection b with e z
    subst e z;obtain⟨A,B⟩:=co l;obtain⟨x,M,N,R⟩:=w8 (v:=a.eval (.tmp k)) (fun t0 E=>bE m (.tmp k) t0 E) D;refine⟨_,xQ q h M able,by simp[A,N],fun j t r=>?_⟩;by_cases J:j<G.length
    ·rw[aff J]at r;obtain⟨y,K,n⟩:=B j _ r;refine⟨a.eval y,?_,bE m y _ n⟩;grind
    grind
   cases b
  cases b
 cases b
theorem R4 {args:List TV} (l:uC P L u args h j g g' x) (J:n<=4999) (R:cfTs p s=some (u,args.map (renTV n))) (C:s.H n=h.map (renO n)):
  CR P p (ik L Y w0 O X g s) (ik L Y w0 O X g' (AS.put ⟨s.tmps.map (bi (kF n)),aK s.H n (j.map (renO n))⟩ p.dst (renTV n x))):=fun a w K Q ⟨⟨h1,N,ρ,m,q⟩,U,V,hG⟩ hK=>by
 have q:bz X ρ s a w:=q;obtain⟨X1,E,g1,g2,g3,gF,g4⟩:=tQ (B:=L.B) h1 N m q U l.sR l.sF l.sF' J C;refine lj (.inl rfl) ?_;obtain⟨vs,D,S,z⟩:=EU R q l.able;unfold Oper.wp;rw[D];simp only[Oper.upon];have I: ∀b,(famB h E b\/L.B b)\/w.heap.size<=b->Y b:=fun b A=>V b (by
  rcases A with(A|A)|A
  ·obtain⟨y,p,c,k1,k2⟩:=gF b A;exact(m.old n y p b c k1 k2).1.symm
  ·grind
  exact .inr (aeN m.keep.size A))
 refine(l.calls X1 Y w vs E g1 g2 I hG (by simpa using S) fun b t W=>?_).mono ?_
 ·obtain⟨v,v1,v2⟩:=z b (renTV n t) (by simp[W]);exact⟨v,v1,g3 t v (l.sA t (adQ W)) v2⟩
 rintro e Z ⟨v,rfl,T,hi,G,M⟩;exact hK v Z ⟨g4 v Z T hi M p.dst,U,V,G⟩
theorem RY {args:List TV} (l:uC P L u args h j g g' x) (p:n<=4999) (c:GW b m u args n h s):
  yO P b m (ik L Y w0 O X g s) (ik L Y w0 O X g' (TZ b m x n j s)):=by
 obtain⟨e,t⟩:=c;unfold cxTs at e;split at e
 ·rename_i o q;split at e
  ·rename_i v;refine⟨o,q,by simp_all,?_⟩;grind [TZ,cwD,R4]
  cases e
 cases e
theorem Qm (o:P.follows .mixedOrders=true) {args:List TV} (l:uC P L u args h j g g' x) (m:Nat) (e:List (ar P)) (p:List Nat) {id:Nat} (n:m<=4999) (z:Lo b=true) (c:bM P (e.map ar.a) p (aV b (b.toList.take (b.size-1)) 0) (some s) (fun t=>GW b (b.size-1) u args m h t/\Q .normal (TZ b (b.size-1) x m j t) g')):wT P L (.region id b true) Q s g:=fun Y w0 O X a w B=>by
 obtain⟨t,v,q,y⟩:=aO P (e.map ar.a) p b _ 0 s _ c;exact AJ (ks:=[]) (R1:=ik L Y w0 O X g) (R2:=ik L Y w0 O X g') t8.k o e p rfl z v (RY l n q) B fun C D A=>⟨_,g',y,A⟩
theorem vS:ik VI (fun _=>True) w0 O X () s a w↔dP w0 O X s a w:=⟨fun h=>h.1,fun h=>⟨h,fun _ h=>h.elim,fun _ _=>trivial,trivial⟩⟩
end
end
section
section
variable {P:Program} {γ:Type} {L:iz γ} {g g':γ} {w0 w w':World} {O X Y:Nat->Prop} {s s':AS} {a:Act}
theorem dP.turn {B:Nat->Prop} (h:dP w0 O X s a w) (q: ∀j,B j->O j/\X j) (k:Keep B w w'):dP w0 O X s a w':=by
 obtain⟨D,y,f,e,I⟩:=h;have C: ∀(x r:Nat) (o:OObj) (b c:Nat),(s.H x)[r]?=some o->f x r=some (b,c)->w'.heap[b]?=w.heap[b]?:=fun x r o b c z A=>
  k.block b (bI (e.objs x r o z) A) fun l=>(e.old x r o b c z A).2 (q b l).2
 have mono: ∀x v,AV.rel f s.H (Xo X f s.H) w x v->AV.rel f s.H (Xo X f s.H) w' x v:=uR fun x v n h=>by
  cases x with
  |fn=>cases n
  |p x=>exact bS.later (fun _ _ h=>h) k.size (fun p v G u E=>by rw[<- E];exact iX (k.block p.block G fun l=>u (.inl (q _ l).2))) h
  |sl x r J len=>exact h
  |ptr x r i j=>exact h
  |junk=>trivial
 refine⟨D,y,f,⟨⟨k.os.trans e.keep.os,k.tape.trans e.keep.tape,k.output.trans e.keep.output,aeN e.keep.size k.size,fun j m n=>?_⟩,fun x r o F=>?_,e.inj,e.old,fun j m=>aeT (e.bar j m) k.size,e.self⟩,fun t x R=>?_⟩
 ·rw[k.block j (aeT m e.keep.size) fun l=>n (q j l).1];exact e.keep.block j m n
 ·obtain⟨K,M,S⟩:=e.objs x r o F;refine⟨K,M,?_⟩;cases Q:f x r with
  |none=>grind
  |some N=>
   grind
 grind [TV.rel_map]
def wY (P:Program) (L:iz γ) (l:Nat) (args:List Value) (g g':γ) (b:Bool):Prop:=
 ∀(Y:Nat->Prop) (w:World),L.G g Y w-> ∃c tmps assign body,(Instr.yield l args.toArray).run P w= .ok (.round l c tmps assign body) w/\
  RoundIn (FW none) 0 P l c tmps assign body w fun e w'=>e= .returned (.bool b)/\Keep L.B w w'/\L.G g' Y w'
def BN:List TV->Option (List Value)
 |[]=>some []
 | .one (.p (.raw v))::l=>(BN l).map (v:: ·)
 |_=>none
theorem yC: ∀{b:List TV} {vs:List Value},BN b=some vs->b=vs.map TV.raw
 |[],vs,h=>by grind [BN]
 |t::b,vs,h=>by
  unfold BN at h;split at h
  ·grind
  ·rename_i v l e;injection e with c f
   subst c f;obtain⟨m,j,rfl⟩:=adT.1 h;rw[yC j];rfl
  cases h
def yTs (e:Array Oper) (m:Nat) (s:AS):Option (Nat×List Value):=match e[m]? with
 |some o=>match o.guard,o.op with
  |none,.call c=>match c.callee with
   | .value (.tmp k)=>match s.ev (.tmp k),(gy s.ev c.args.toList).bind BN with
    |some (.one (.p (.raw (.func (.yield l) first b)))),some vs=>if first.isEmpty&&b.isEmpty then some (l,vs)else none
    |_,_=>none
   |_=>none
  |_,_=>none
 |none=>none
def yS (c:Array Oper) (m:Nat) (b:Bool) (s:AS):AS:=s.put (cwD c m) (.raw (.bool b))
theorem Co {args:List Value} {f:Bool} (hy:wY P L n args g g' f) (h:yTs b m s=some (n,args)):
  yO P b m (ik L Y w0 O X g s) (ik L Y w0 O X g' (yS b m f s)):=by
 unfold yTs at h;split at h
 case h_2=>cases h
 rename_i o ho;split at h
 case h_2=>cases h
 rename_i c hg ab;split at h
 case h_2=>cases h
 rename_i k M;split at h
 case h_2=>cases h
 rename_i l' first H vs hk C
 split at h
 case isFalse=>cases h
 rename_i J;injection h with h
 injection h with T U
 subst T U;simp only[afb,Array.isEmpty_iff]at J;obtain⟨rfl,rfl⟩:=J;obtain⟨ts,B,p⟩:=aeZ.1 C;have p:=yC p;subst p;refine⟨o,ho,hg,fun a w K Q ⟨R,I,hY,W⟩ Z=>?_⟩;obtain⟨h1,ac,ρ,N,r⟩:=id R;have r:bz X ρ s a w:=r;have aa:=(bo (bE r (.tmp k) _ hk)).1;obtain⟨q1,q2⟩:=co B;have z:c.args.map a.eval=vs.toArray:=by
  apply Array.ext';apply aeW;intro j;simp only[Array.toList_map,aeG];cases hj:vs[j]? with
  |none=>
   grind
  |some v=>
   obtain⟨y,D,E⟩:=q2 j (.raw v) (by grind);rw[D];exact congrArg some (bo (bE r y _ E)).1
 obtain⟨V,tmps,assign,body,S,q⟩:=hy Y w W;have t:(execOp a.eval o).run P w= .ok (.round l' V tmps assign body) w:=by
  grind [execOp,resolve,Deferred.ofValue,invoke]
 refine⟨fun _ _=>trivial,?_⟩;show o.uponIn (FW none) 0 P a K Q ((execOp a.eval o).run P w);rw[t,Oper.uponIn_round];refine⟨fun h=>by simp[Fence.wide]at h,q.mono ?_⟩;rintro e w1 ⟨rfl,A,x⟩;refine Z _ w1 ⟨?_,I,hY,x⟩;obtain⟨n1,F,ad,u,G⟩:=R.turn I A;have:cwD b m=o.dst:=by grind [cwD]
 unfold yS;rw[this];exact fF n1 F u G (dc rfl)
variable {Q:Exit->AS->γ->Prop}
theorem KA (f:P.follows .mixedOrders=true) {args:List Value} {c:Bool} (t:wY P L n args g g' c) (e:List (ar P)) (j:List Nat) {id:Nat} (r:Lo b=true) (h:bM P (e.map ar.a) j (aV b (b.toList.take (b.size-1)) 0) (some s) (fun m=>yTs b (b.size-1) m=some (n,args)/\Q .normal (yS b (b.size-1) c m) g')):wT P L (.region id b true) Q s g:=fun Y w0 O X a w v=>by
 obtain⟨m,o,q,p⟩:=aO P (e.map ar.a) j b _ 0 s _ h;exact AJ (ks:=[]) (R1:=ik L Y w0 O X g) (R2:=ik L Y w0 O X g') t8.k f e j rfl r o (Co t q) v fun x w' u=>⟨_,g',p,u⟩
end
end
section
section
variable {P:Program} {w0 w w':World} {O X:Nat->Prop} {s s':AS} {a:Act} {ρ:Rho}
def RelR (ρ:Rho) (b:List Deferred) (w0:World) (O X:Nat->Prop) (s:AS) (a:Act) (w:World):Prop:=a.defers=b/\a.tmps.size=s.tmps.length/\Inv w0 O X s.H ρ w/\bz X ρ s a w
theorem RelR.put (h:RelR ρ t w0 O X s a w) {d:Option Tmp} {v:Value} (b:x.rel ρ s.H (Xo X ρ s.H) w v):RelR ρ t w0 O X (s.put d x) (a.put d v) w:=
 ⟨by rw[kR];exact h.1,by rw[oU,nL];exact h.2.1,by rw[js];exact h.2.2.1,xI h.2.1 h.2.2.2 b⟩
noncomputable def uM (P:Program) (o:Oper) (s:AS):Option AS:=
 if qp o.op then(kH P s.ev o.op).map (s.put o.dst)
 else if A7 o.op then(b9 P s.ev s.H o.op).map (s.put o.dst)
 else match o.op with
  | .store t h x=>match s.ev h,szO P t with
   |some (.one (.ptr a r i j)),some n=>match(s.H a)[r]? with
    |some b=>match b.elems[i]? with
     |some e=>match s.ev x with
      |some (.one (.sl g l f len))=>if g=a/\n=1/\j<e.length then some (AS.put ⟨s.tmps,aK s.H a ((s.H a).set r {b with elems:=b.elems.set i (putCells e j [.sl g l f len])})⟩ o.dst .undef)else none
      |some v=>match cellsOf v with
       |some c=>if c.length=n/\j+n<=e.length/\c.all isPure then some (AS.put ⟨s.tmps,aK s.H a ((s.H a).set r {b with elems:=b.elems.set i (putCells e j c)})⟩ o.dst .undef)else none
       |none=>none
      |none=>none
     |none=>none
    |none=>none
   |_,_=>none
  |_=>none
theorem Eh (h:RelR ρ t w0 O X s a w) {g:TypeId} {I x:Operand} (ho:p.op= .store g I x) {i j f:Nat} {A:OObj} {e cs:List AV} (J:s.ev I=some (.one (.ptr n m i j))) (hn:szO P g=some f) (C:(s.H n)[m]?=some A) (V:A.elems[i]?=some e) (U:cs.length=f) (hj:j+f<=e.length) (Y:pC ρ s.H (Xo X ρ s.H) w cs (a.eval x).cells) (z: ∀y∈cs,bJ n y): ∃w',(execOp a.eval p).run P w= .ok .skip w'/\RelR ρ t w0 O X (AS.put ⟨s.tmps,aK s.H n ((s.H n).set m {A with elems:=A.elems.set i (putCells e j cs)})⟩ p.dst .undef) (a.put p.dst undef) w':=by
 obtain⟨T,F,B,q⟩:=h;have q:bz X ρ s a w:=q;obtain⟨aa,b,c,G,S,g3,g4⟩:=bE q I _ J;rw[C]at G;injection G with G
 subst G;obtain⟨x1,x2⟩:=Y;have L:(a.eval x).cells.toList.length=cs.length:=by omega
 obtain⟨cells,Q,R,c3,N⟩:=Eg (act:={a with defers:=[]}) rfl F B q (vs:=(a.eval x).cells.toList) (j:=j) C S V (by omega) L (fun k y Z=>by
  grind) z
 have D: ∀u∈(a.eval x).cells,u.oneCell'=true:=fun u W=>by
  obtain⟨k,hk,rfl⟩:=aip W;obtain⟨y,Z⟩:=getElem?_of_lt (l:=cs) (k:=k) (by omega);grind
 have E:=yD (P:=P) (t:=g) (v:=a.eval x) (by grind) Q (by simpa using R) D;have N:bz X ρ _ a _:=N;have K: ∀M,(Instr.storeAt g (.pointer (some ⟨b,i*A.es+j,none⟩)) (a.eval x)).run P w= .ok () M->(execOp a.eval p).run P w= .ok .skip M:=fun M hr=>by
  grind [execOp,abi]
 exact⟨_,K _ E,RelR.put (s:=⟨s.tmps,aK s.H n ((s.H n).set m {A with elems:=A.elems.set i (putCells e j cs)})⟩) ⟨T,F,by omega,by omega⟩ mI⟩
theorem Yu {T:AS} (f:uM P p s=some T) (h:RelR ρ t w0 O X s a w):(∀c,p.op≠ .defer c)/\ ∃x v w',(execOp a.eval p).run P w= .ok x w'/\(x= .value v\/(x= .skip/\v=undef))/\RelR ρ t w0 O X T (a.put p.dst v) w':=by
 obtain⟨h1,aa,q,g⟩:=id h;have g:bz X ρ s a w:=g;unfold uM at f;split at f
 ·rename_i M;obtain⟨b,I,rfl⟩:=adT.1 f;obtain⟨v,D,E⟩:=AN (bE g) I;exact⟨fun c e=>(by rw[e]at M;cases M),_,v,w,D,.inl rfl,h.put E⟩
 split at f
 ·rename_i N;obtain⟨b,I,rfl⟩:=adT.1 f;obtain⟨v,D,E⟩:=AR (bE g) q.objs I;exact⟨fun c e=>(by rw[e]at N;cases N),_,v,w,D,.inl rfl,h.put E⟩
 split at f
 case h_2=>cases f
 rename_i b ad x A;refine⟨fun c e=>(by grind),?_⟩;split at f
 case h_2=>cases f
 rename_i fa r i j n m R;split at f
 case h_2=>cases f
 rename_i ob u;split at f
 case h_2=>cases f
 rename_i e Q;split at f
 ·rename_i K S C len J;split at f
  case isFalse=>cases f
  rename_i F;obtain⟨rfl,Y,Z⟩:=F;injection f with f
  subst f;have B:=bE g x _ J;have z:(a.eval x).oneCell'=true:=KP (ρ:=ρ) (H:=s.H) (X:=Xo X ρ s.H) (w:=w) (x:= .sl K S C len) (by simp) B;obtain⟨w1,k1,k2⟩:=Eh (P:=P) h A m R u Q (cs:=[.sl K S C len]) (by simp;omega) (by omega) ⟨by grind [ic],fun k y l=>by
   cases k with
   |succ k=>simp at l
   |zero=>simp at l;subst l;exact⟨a.eval x,by grind [ic],z,B⟩⟩ (fun y l=>by simp at l;subst l;rfl)
  grind
 ·rename_i v hv J;split at f
  case h_2=>cases f
  rename_i W G;split at f
  case isFalse=>cases f
  rename_i F;obtain⟨U,V,L⟩:=F;injection f with f
  subst f;simp only[aeP]at L;obtain⟨w1,k1,k2⟩:=Eh (P:=P) h A m R u Q U V (lC G (bE g x _ J)) (fun y l=>dj (L y l));grind
 cases f
noncomputable def qb (P:Program):List Oper->Option AS->(AS->Prop)->Prop
 |_,none,_=>False
 |[],some s,K=>K s
 |o::l,some s,K=>qb P l (if o.guard.isNone then uM P o s else none) K
theorem D7 (l:List Oper) (K:AS->Prop):qb P l none K=False:=by cases l<;>rfl
theorem Ph {ro:Option Nat} {n:Nat} {e:List Deferred} {ops:Array Oper} {Q:Exit->Act->World->Prop} {Ka:AS->Prop} (f: ∀s a w,Ka s->RelR ρ e w0 O X s a w->Q .normal a w): ∀(l:List Oper) (k:Nat) (s:AS) (a:Act) (w:World),(∀(j:Nat) o,l[j]?=some o->ops[k+j]?=some o)->
  qb P l (some s) Ka->RelR ρ e w0 O X s a w->wpOpsIn (FW ro) n P ops Q (List.range' k l.length) a w
 |[],k,s,a,w,_,h,r=>f s a w h r
 |o::l,k,s,a,w,g,h,r=>by
  simp only[ae6,afj];rw[wpOpsIn_cons];have q:ops[k]?=some o:=by have:=g 0 o rfl;omega
  unfold wpOpIn;rw[q];simp only[qb]at h;split at h
  case isFalse=>grind [D7]
  rename_i A;cases m:uM P o s with
  |none=>grind [D7]
  |some y=>
   rw[m]at h;obtain⟨c,x,v,z,b,u,t⟩:=Yu m r;simp only;rw[if_pos (by simp_all[Region.wanted])];refine⟨fun _ _=>trivial,?_⟩;rw[Oper.semAt_eq _ _ _ c,b];have p:=Ph (ro:=ro) (n:=n) f l (k+1) y _ z (fun j o B=>by have:=g (j+1) o (by grind);rwa[show k+(j+1)=k+1+j by omega]at this) h t;rcases u with rfl|⟨rfl,rfl⟩
   ·exact p
   exact p
def Ah (P:Program) (g:Option Nat) (ρ:Rho) (b:List Deferred) (c:Code) (Q:Exit->AS->Prop) (s:AS):Prop:=
 ∀(w0:World) (O X:Nat->Prop) (a:Act) (w:World),RelR ρ b w0 O X s a w->c.wpIn (FW g) 0 P (fun e f w'=> ∃s',Q e s'/\RelR ρ b w0 O X s' f w') a w
variable {ro:Option Nat} {ds:List Deferred} {Q:Exit->AS->Prop}
theorem NM {id:Nat} (h:qb P b.toList (some s) (Q .normal)):Ah P ro ρ ds (.region id b false) Q s:=fun w0 O X a w r=>by
 refine wpIn_region ?_;have:=Ph (ro:=ro) (n:=0) (ops:=b) (Q:=fun e c w'=> ∃s',Q e s'/\RelR ρ ds w0 O X s' c w') (fun s a w k r=>⟨s,k,r⟩) b.toList 0 s a w (fun j o f=>by grind) h r;grind [List.range_eq_range']
theorem EI (h:Ah P ro ρ ds c (l8 (Ah P ro ρ ds e Q) Q) s):Ah P ro ρ ds (.seq c e) Q s:=fun _ _ _ _ _ r=>
 wpIn_seq (wpIn_mono (h _ _ _ _ _ r) fun b a w ⟨s',f,g⟩=>by
  cases b with
  |normal=>exact f _ _ _ _ _ g
  |_=>exact⟨s',f,g⟩)
theorem Tt {id:Nat} (h: ∀K:AS->Prop,(∀s',Ah P ro ρ ds c Q s'->K s')->qb P b.toList (some s) K):Ah P ro ρ ds (.seq (.region id b false) c) Q s:=
 EI (NM (h _ fun _ h=>h))
theorem Tr {id:Nat} (h: ∀K:AS->Prop,(∀s',Q .normal s'->K s')->qb P b.toList (some s) K):Ah P ro ρ ds (.region id b false) Q s:=NM (h _ fun _ h=>h)
theorem Ts (h:Q .normal s):Ah P ro ρ ds .skip Q s:=fun _ _ _ _ _ r=>wpIn_skip ⟨s,h,r⟩
theorem NN (h:Q .ret s):Ah P ro ρ ds .ret Q s:=fun _ _ _ _ _ r=>wpIn_ret ⟨s,h,r⟩
theorem Dg {id:Nat} (h:Ah P ro ρ ds c (w7 id Q) s):Ah P ro ρ ds (.block id c) Q s:=fun _ _ _ _ _ r=>
 wpIn_block (wpIn_mono (h _ _ _ _ _ r) fun e a w ⟨s',b,f⟩=>by
  cases e with
  |exit g=>
   grind [w7,Exit.inBlock]
  |_=>exact⟨s',b,f⟩)
theorem Ho {v:Bool} (j:s.ev l=some (.raw (.bool v))) (o:v=true->Ah P ro ρ ds c Q s) (m:v=false->Ah P ro ρ ds e Q s):Ah P ro ρ ds (.cond l c e) Q s:=fun _ _ _ _ _ r=>by
 obtain⟨p,n,f,b⟩:=id r;have g:=(bo (bE b l _ j)).1;exact wpIn_cond_split g (fun h=>o h _ _ _ _ _ r) (fun h=>m h _ _ _ _ _ r)
end
end
section
def ownB (b:Rho):Nat->Prop:=fun j=> ∃(x r c:Nat),b x r=some (j,c)
structure Ez where
 l:Nat
 D:Nat
 fn:FuncId
 tm:Array Value
 ps:Array Tmp
 asg:Code
 bd:Code
def Ez.loop (R:Ez) (c:LoopState) (b:Option Code):Loop:={state:=c,pending:=b,fn:=R.fn,tmps:=R.tm,params:=R.ps,assign:=R.asg,body:=R.bd,defers:=R.D}
def Ez.obj (R:Ez) (b:Option Code):Obj:= .loop (R.loop (if b.isNone then .ready else .done) b)
def vH:TV->Bool
 | .one x=>jF x
 |_=>false
def B8 (H:OH):Prop:= ∀a,∀o∈H a,∀e∈o.elems,∀x∈e,jF x=true
section
variable {P:Program} {w0 w w':World} {O X:Nat->Prop} {s s':AS} {a:Act} {ρ:Rho} {ds:List Deferred} {γ:Type}
theorem B9 {A:OH} {Y:Nat->Prop} {x:AV} (z:jF x=true) (E: ∀(x r:Nat) (l:OObj),(y x)[r]?=some l-> ∃m:OObj,(A x)[r]?=some m/\m.es=l.es/\m.elems.length=l.elems.length) (h:AV.rel ρ y Y w x v):AV.rel ρ A o w' x v:=by
 have key: ∀x v,I7 x=true->jF x=true->AV.rel ρ y Y w x v->AV.rel ρ A o w' x v:=fun x v Q z h=>by
  cases x with
  |fn=>cases Q
  |p x=>
   cases x with
   |raw u=>
    obtain⟨rfl,n⟩:=bo (ρ:=ρ) (H:=y) h;exact bS.raw _ n
   |sl C=>
    cases C with
    |nil=>
     have h:bS Y w (.sl []) v:=h;generalize q:PV.sl []=x at h;cases h with
     |raw v h=>cases q
     |ptr b t I f K L M R=>cases q
     |nil a c=>exact bS.nil _ _
     |sl b t U cap C f K L N F W M R=>
      injection q with q
      subst q;exact bS.nil _ _
    |cons e C=>cases z
   |ptr I=>cases z
  |sl b r t len=>
   obtain⟨l,n,D,J⟩:=h;obtain⟨m,B,S,T⟩:=E b r l n;exact⟨m,B,by omega,by grind⟩
  |ptr b r i j=>
   obtain⟨l,G,c,n,D,J,V⟩:=h;obtain⟨m,B,S,T⟩:=E b r l n;exact⟨m,G,c,B,D,by omega,by grind⟩
  |junk=>trivial
 exact oz (c:=fun x=>jF x=true) (g:=id) (fun _ _ _ _ _ _ _=>rfl) vu key x v z h
theorem Gh {f:OH} {j:Nat->Prop} (g:vH x=true) (l: ∀(c r:Nat) (b:OObj),(y c)[r]?=some b-> ∃e:OObj,(f c)[r]?=some e/\e.es=b.es/\e.elems.length=b.elems.length) (h:x.rel ρ y o w v):x.rel ρ f j w' v:=by
 cases x with
 |one c=>exact B9 g l h
 |_=>cases g
theorem um (H:OH): ∀(x r:Nat) (o:OObj),(H x)[r]?=some o-> ∃b:OObj,(H x)[r]?=some b/\b.es=o.es/\b.elems.length=o.elems.length:=fun _ _ o h=>⟨o,h,rfl,rfl⟩
theorem IJ (n:B8 y) (h:Inv w0 O X y ρ w) (k: ∀j,ownB ρ j->w'.heap[j]?=w.heap[j]?) (f:Nat->Prop) (q: ∀j,f j->j<w'.heap.size) (l: ∀j,ownB ρ j-> ¬f j):Inv w' (ownB ρ) f y ρ w':=by
 refine⟨Keep.refl _,fun x r o m=>?_,h.inj,fun x r o b c m g=>⟨.inr ⟨x,r,c,g⟩,l b ⟨x,r,c,g⟩⟩,q,h.self⟩;exact dV (h.objs x r o m) rfl (fun b c g=>k b ⟨x,r,c,g⟩) fun e p z t _ u=>B9 (n x o (adQ m) e p z t) (um y) u
theorem RelR.turn (h:RelR ρ ds w0 O X s a w) (k: ∀j,¬X j->w'.heap[j]?=w.heap[j]?) (f:w.heap.size<=w'.heap.size):RelR ρ ds w' (ownB ρ) X s a w':=by
 obtain⟨q,y,e,n⟩:=h;have mono: ∀x v,AV.rel ρ s.H (Xo X ρ s.H) w x v->AV.rel ρ s.H (Xo X ρ s.H) w' x v:=uR fun x v D h=>by
  cases x with
  |fn=>cases D
  |p x=>exact bS.later (fun _ _ h=>h) f (fun p v I m B=>by rw[<- B];exact iX (k p.block fun A=>m (.inl A))) h
  |sl x r F len=>exact h
  |ptr x r i j=>exact h
  |junk=>trivial
 refine⟨q,y,⟨Keep.refl _,fun x r o g=>?_,e.inj,fun x r o b c g l=>⟨.inr ⟨x,r,c,l⟩,(e.old x r o b c g l).2⟩,fun j C=>aeT (e.bar j C) f,e.self⟩,fun t x E=>?_⟩
 ·exact dV (e.objs x r o g) rfl (fun b c l=>k b (e.old x r o b c g l).2) fun _ _ z _ u G=>mono z u G
 obtain⟨v,J,K⟩:=n t x E;grind [TV.rel_map]
def Ks (R:Ez) (ρ:Rho) (e:List TV) (H:γ->OH) (b:γ->Option Code) (z: ∀x r c,ρ x r≠some (R.l,c)) (p: ∀g,B8 (H g)) (C:e.all vH=true):iz γ where
 B:=fun j=>j=R.l\/ownB ρ j
 G:=fun g _ w=>w.heap[R.l]?=some (R.obj (b g))/\RelR ρ [] w (ownB ρ) (fun j=>j=R.l) ⟨e,H g⟩ ⟨R.tm,[]⟩ w
 sp:=fun g _ w w' k _ ⟨y,h,m,n,o⟩=>by
  have q:w'.heap[R.l]?=some (R.obj (b g)):=by grind
  refine⟨q,h,m,IJ (p g) n (fun j f=>k j (.inr f)) _ (fun j f=>by grind) (fun j ⟨x,r,c,A⟩ f=>by grind),fun t x u=>?_⟩;obtain⟨v,D,E⟩:=o t x u;grind [Gh]
variable {R:Ez} {tml:List TV} {H:γ->OH} {jump:γ->Option Code} {hl: ∀x r c,ρ x r≠some (R.l,c)} {hH: ∀g,B8 (H g)} {ht:tml.all vH=true}
theorem Nu {g y:γ} {b:Bool} {q:Value} (ab:R.ps= #[n,m]) (V:v.oneCell'=true) (W:q.oneCell'=true) (B:jump g=none) (ad: ∀(x r:Nat) (o:OObj),(H g x)[r]?=some o-> ∃o':OObj,(H y x)[r]?=some o'/\o'.es=o.es/\o'.elems.length=o.elems.length) (hw:Ah P (some R.l) ρ [] R.asg (fun e s1=>e= .normal/\Ah P (some R.l) ρ [] R.bd (fun e s2=>s2.H=H y/\((e= .normal/\b=true/\jump y=none)\/(e= .ret/\b=false/\jump y=some .ret))) s1) ((AS.put ⟨tml,H g⟩ (some n) (.raw v)).put (some m) (.raw q))):
  wY P (Ks R ρ tml H jump hl hH ht) R.l [v,q] g y b:=fun Y w ⟨M,Q⟩=>by
 have U:R.l<w.heap.size:=(ae4.1 M).1;have J: ¬ownB ρ R.l:=fun⟨x,r,c,hr⟩=>hl x r c hr
 rw[B]at M;refine⟨R.fn,(R.tm.setIfInBounds n v).setIfInBounds m q,R.asg,R.bd,?_,?_⟩
 ·have:=run_yield (P:=P) (args:= #[v,q]) M (by show(#[v,q]:Array Value).size=R.ps.size;grind);rw[show([v,q]:List Value).toArray= #[v,q]from rfl,this];show Result.ok (Next.round R.l R.fn ((R.ps.zip #[v,q]).foldl _ R.tm) R.asg R.bd) w=_;simp_all
 refine roundIn_of_wpIn (F:=FW none) trivial ?_;have r0:RelR ρ [] w (ownB ρ) (fun j=>j=R.l) ((AS.put ⟨tml,H g⟩ (some n) (.raw v)).put (some m) (.raw q)) {tmps:=(R.tm.setIfInBounds n v).setIfInBounds m q,defers:=[]} w:=
  (Q.put (d:=some n) (v:=v) (dc V)).put (d:=some m) (v:=q) (dc W)
 refine wpIn_mono (hw _ _ _ _ _ r0) fun e a1 w1 ⟨s1,⟨S,hb⟩,r1⟩=>?_
 subst S;have k1:w1.heap[R.l]?=some (R.obj none):=by rw[r1.2.2.1.keep.block _ U J];exact M
 refine⟨_,run_beginRound k1 rfl,?_⟩;generalize D:w1.putObj R.l _=w2;have T:R.l<w1.heap.size:=(ae4.1 k1).1;have r2:RelR ρ [] w2 (ownB ρ) (fun j=>j=R.l) s1 a1 w2:=by
  subst D;exact r1.turn (fun j B=>World.putObj_heap_other B) (by simp)
 have k2:w2.heap[R.l]?=some (.loop (R.loop .busy none)):=by subst D;exact World.putObj_heap_same T
 refine wpIn_mono (hb _ _ _ _ _ r2) fun e a3 L ⟨s3,⟨ac,S⟩,r3⟩=>?_
 have Z:L.heap[R.l]?=some (.loop (R.loop .busy none)):=by
  rw[r3.2.2.1.keep.block _ (by grind) J];exact k2
 have aa:R.l<L.heap.size:=(ae4.1 Z).1;have N: ∀A,A=L.putObj R.l (R.obj (jump y))->Keep (fun j=>j=R.l\/ownB ρ j) w A/\A.heap[R.l]?=some (R.obj (jump y))/\RelR ρ [] A (ownB ρ) (fun j=>j=R.l) ⟨tml,H y⟩ ⟨R.tm,[]⟩ A:=fun A K=>by
  have r4:RelR ρ [] A (ownB ρ) (fun j=>j=R.l) s3 a3 A:=by
   subst K;exact r3.turn (fun j B=>World.putObj_heap_other B) (by simp)
  have p:=r1.2.2.1.keep;have u:=r3.2.2.1.keep;refine⟨?_,by grind [World.putObj_heap_same],rfl,Q.2.1,by have:=r4.2.2.1;grind,fun t x hx=>?_⟩
  ·subst K D;refine⟨u.os.trans p.os,u.tape.trans p.tape,u.output.trans p.output,?_,fun j B hn=>?_⟩
   ·have:=p.size;have:=u.size;simp at this⊢;omega
   have E:j≠R.l:=fun h=>hn (.inl h)
   have I: ¬ownB ρ j:=fun h=>hn (.inr h)
   rw[World.putObj_heap_other E,u.block j (by have:=p.size;simp;omega) I,World.putObj_heap_other E,p.block j B I]
  obtain⟨f,u1,u2⟩:=Q.2.2.2 t x hx;grind [Gh]
 have z: ∀o,o=R.obj (jump y)->Keep (fun j=>j=R.l\/ownB ρ j) w (L.putObj R.l o)/\(Ks R ρ tml H jump hl hH ht).G y Y (L.putObj R.l o):=fun o ho=>by subst ho;exact N _ rfl
 rcases S with⟨rfl,rfl,C⟩|⟨rfl,rfl,C⟩
 ·refine⟨_,_,run_endRound none Z,rfl,?_⟩;exact z _ (by rw[C];rfl)
 refine⟨_,_,run_endRound (some .ret) Z,rfl,?_⟩;exact z _ (by rw[C];rfl)
end
end
end Go.Proofs.YtalmoejhjceflaaGreat
