/-
  Part 20 of a proof (walks and plain facts).
-/
import Derived.Test.YtalmoejhjceflaaGreatQ18
import Derived.RangeFuncRecord
import Derived.OrdersIn
import Derived.RangeFuncLeaves
set_option linter.all false
set_option maxRecDepth 100000
set_option maxHeartbeats 64000000
namespace Go.Proofs.YtalmoejhjceflaaGreat
open Go.RowKit
variable {b:Array Oper} {c e:Code} {f:Exit->Act->World->Prop} {g:AS->Act->World->Prop} {h j:List OObj} {n:Nat} {s:AS} {l:Operand} {m:Act->World->Prop} {o:List Nat} {p:Oper} {q:List Deferred} {r:FuncId} {t:Bool} {u:TV}
section
abbrev FW (b:Option Nat):Fence:={Fence.wide with round:=b}
section
variable {P:Program} {w0 w:World} {O X:Nat->Prop} {s s':AS} {a:Act} {ks:List Nat}
theorem lB {b:Option Nat} (j:b=none\/ ∀c,p.op≠ .defer c) (h:p.wp P a w m f):p.wpIn (FW b) n P a w m f:=by
 refine⟨fun _ _=>trivial,?_⟩;have e:Oper.semAt (FW b).round a.eval p=execOp a.eval p:=by
  rcases j with rfl|j
  ·rfl
  grind [Oper.semAt_eq]
 rw[e];unfold Oper.wp at h;generalize(execOp a.eval p).run P w=r at h⊢;have l:(FW b).depth.isSome=true->1<=n:=fun h=>by simp[Fence.wide]at h
 cases r with
 |ok x g=>
  cases x<;>simp only[Oper.upon,Oper.uponIn]at h⊢ <;>first
   |exact h
   |exact⟨l,CallsIn.mono (callsIn_wide.2 h) (fun e t u=>by omega)⟩
   |exact⟨l,fun c q _=>let ⟨v,g,r,s⟩:=h c q;⟨v,g,r,stepsIn_wide.2 s⟩⟩
 |halt x g=>cases x<;>simp only[Oper.upon,Oper.uponIn]at h⊢ <;>exact h
theorem yl {c:List (aq P)} {i:Nat} {g:AS} (q:b[i]?=some p) (h:be P (c.map aq.a) o b i p s=some g) (r:dq w0 O X s a w) (l: ∀v j,dq w0 O X g (a.put p.dst v) j->m (a.put p.dst v) j):wpOpIn (FW none) n P b f i m a w:=by
 have e:=jT (Q:=f) (aq.ok c) r h l;unfold wpOpIn;rw[q];simp only;split at e
 ·grind [lB]
 rename_i t;rw[if_neg t];exact⟨fun _ _=>trivial,e⟩
def yB (ks:List Nat) (a b:Act):Prop:= ∀k∈ks,b.tmps[k]?=a.tmps[k]?
def dK (ks:List Nat) (b:Array Oper):Bool:=ks.all fun k=>f5 k b
theorem nr (h:dK o b=true) (e:b[n]?=some p) (v:Value):yB o a (a.put p.dst v):=fun k c=>by
 grind [dK,n9,kJ]
theorem yB.trans {b c e:Act} (h:yB ks b c) (g:yB ks c e):yB ks b e:=fun k f=>(g k f).trans (h k f)
theorem uQ {n:Nat} {c:List (aq P)} {z:List Nat} {b:Array Oper} (t:dK ks b=true) {Q:Exit->Act->World->Prop} {suf:List Nat}: ∀(l:List Oper) (m:Nat) (s s':AS) (a:Act) (w:World),(∀(j:Nat) o,l[j]?=some o->b[m+j]?=some o)->
  gB P (c.map aq.a) z b (l.zipIdx m) s=some s'->dq w0 O X s a w->(∀f g,yB ks a f->dq w0 O X s' f g->wpOpsIn (FW none) n P b Q suf f g)->wpOpsIn (FW none) n P b Q (List.range' m l.length++suf) a w
 |[],m,s,s',a,w,_,h,r,p=>by
  simp only[aek,gB]at h;injection h with h
  subst h;exact p a w (fun _ _=>rfl) r
 |o::l,m,s,s',a,w,u,h,r,p=>by
  simp only[adQ,gB]at h;split at h
  ·rename_i B q;simp only[acC,acW,ad9];rw[wpOpsIn_cons];have x:b[m]?=some o:=by have:=u 0 o rfl;omega
   exact yl x q r fun v g y=>uQ t l (m+1) B s' _ _ (fun j o C=>by have:=u (j+1) o (by grind);grind) h y fun f g e A=>p f g ((nr t x v).trans e) A
  cases h
theorem EL {n:Nat} {e:List (aq P)} {suf:List Nat}: ∀(l:List Oper) (k:Nat) (s s':AS) (a:Act) (w:World),(∀(j:Nat) c,l[j]?=some c->b[k+j]?=some c)->
  gB P (e.map aq.a) o b (l.zipIdx k) s=some s'->dq w0 O X s a w->(∀g m,dq w0 O X s' g m->wpOpsIn (FW none) n P b f suf g m)->wpOpsIn (FW none) n P b f (List.range' k l.length++suf) a w:=fun l k s s' a w q h r p=>
 uQ (ks:=[]) rfl l k s s' a w q h r fun g m _ t=>p g m t
/-! Ways to say how a state and a world stand to one another. -/
def Qc (R:AS->Act->World->Prop):Prop:= ∀s a w,R s a w-> ∃(g:World) (b c:Nat->Prop),dq g b c s a w/\ ∀s' e f,dq g b c s' e f->R s' e f
theorem G3:Qc (dq w0 O X):=fun _ _ _ h=>⟨w0,O,X,h,fun _ _ _ h=>h⟩
def Du (P:Program) (o:Oper) (c e:Act->World->Prop):Prop:= ∀(a:Act) (w:World) (K:Act->World->Prop) (Q:Exit->Act->World->Prop),c a w->(∀v b,e (a.put o.dst v) b->K (a.put o.dst v) b)->o.wpIn (FW none) 0 P a w K Q
def yG (P:Program) (b:Array Oper) (m:Nat) (c e:Act->World->Prop):Prop:= ∃o,b[m]?=some o/\o.guard=none/\Du P o c e
def BY (ks:List Nat) (R:AS->Act->World->Prop):Prop:= ∀s a w,R s a w-> ∃(g:World) (c e:Nat->Prop),dq g c e s a w/\ ∀s' b f,yB ks a b->dq g c e s' b f->R s' b f
theorem Qc.k (M:Qc g):BY [] g:=fun s a w h=>
 have⟨w1,O1,X1,h1,h2⟩:=M s a w h
 ⟨w1,O1,X1,h1,fun s' b c _ r=>h2 s' b c r⟩
theorem vn {R1 R2:AS->Act->World->Prop} (A:BY ks R1) (B:BY ks R2) (m:Nat) (c:List (aq P)) (z:List Nat) {id:Nat} (y:dK ks b=true) (Z:m<b.toList.length) {t u x:AS} (G:gB P (c.map aq.a) z b ((b.toList.take m).zipIdx 0) s=some t) (q:yG P b m (R1 t) (R2 u)) (H:gB P (c.map aq.a) z b ((b.toList.drop (m+1)).zipIdx (m+1)) u=some x) (M:R1 s a w) (I: ∀e g,R2 x e g->f .normal e g):(Code.region id b false).wp P f a w:=by
 refine(wpIn_wide (n:=0)).1 (wpIn_region (F:=FW none) ?_);obtain⟨wa,Oa,Xa,U,N⟩:=A s a w M;obtain⟨o,L,J,p⟩:=q;have r:b.size=(b.toList.take m).length+(1+(b.toList.drop (m+1)).length):=by grind
 rw[r,acK,<- ac7,acQ];have h:(b.toList.take m).length=m:=by grind
 refine uQ y (b.toList.take m) 0 s t a w (fun j o K=>?_) G U fun e g D S=>?_
 ·grind
 rw[h,adN 1,acW,wpOpsIn_cons];unfold wpOpIn;rw[L];simp only;rw[if_pos (by simp[Region.wanted,J])];refine p e g _ _ (N _ _ _ D S) fun v W l=>?_
 obtain⟨wb,Ob,Xb,V,R⟩:=B _ _ _ l;have:=uQ (n:=0) (Q:=f) (suf:=[]) y (b.toList.drop (m+1)) (m+1) u x _ W (fun j o K=>by
  grind) H V (fun C Y E T=>I C Y (R _ _ _ E T))
 grind
/-! A drawn region whose last operation comes behind all others. -/
def zC (o:Oper):Oper:={o with op:= .move (.const (.bool false))}
def BE:Nat->List Oper->List Oper
 |_,[]=>[]
 |0,o::l=>zC o::l
 |m+1,o::l=>o::BE m l
def lG (b:Array Oper) (m:Nat):Array Oper:=⟨BE m b.toList⟩
theorem Gn: ∀(m:Nat) (l:List Oper) (i:Nat),(BE m l)[i]?=if i=m then(l[i]?).map zC else l[i]?
 |m,[],i=>by simp[BE]
 |0,o::l,0=>rfl
 |0,o::l,i+1=>by simp[BE]
 |m+1,o::l,0=>by simp[BE]
 |m+1,o::l,i+1=>by simp[BE,Gn m l i]
theorem Gp: ∀(m:Nat) (l:List Oper),(BE m l).length=l.length
 |m,[]=>by simp[BE]
 |0,o::l=>rfl
 |m+1,o::l=>by simp[BE,Gp m l]
section
variable {ops:Array Oper} {m:Nat}
theorem lf (i:Nat):(lG ops m)[i]?=if i=m then(ops[i]?).map zC else ops[i]?:=by
 grind [Gn,lG]
theorem kq:(lG ops m).size=ops.size:=by simp[lG,Gp]
theorem VK (g:Nat):((lG ops m)[g]?).bind (·.dst)=(ops[g]?).bind (·.dst):=by
 rw[lf];split
 ·cases ops[g]?<;>rfl
 rfl
theorem pR {b:List (cG P)} {i:Nat}:be P b o (lG ops m) i p s=be P b o ops i p s:=by
 grind [be,VK]
theorem C0 {b:Array Bool} {i:Nat}:i∈Region.ready .any (lG ops m) b↔i∈Region.ready .any ops b:=by
 grind [mem_ready,lf,zC]
theorem FX {Qn:Act->World->Prop} {Wp:Nat->(Act->World->Prop)->Act->World->Prop}: ∀f,tI (lG ops m) Qn Wp f=tI ops Qn Wp f:=by
 have c: ∀b,Region.ready .any (lG ops m) b=[]↔Region.ready .any ops b=[]:=fun b=>by
  simp only[afq,C0]
 intro f
 induction f with
 |zero=>grind [tI]
 |succ f e=>simp_all[tI,C0]
theorem xS {n:Nat} {Q:Exit->Act->World->Prop}: ∀f,tI ops (Q .normal) (fun i K a w=>wpOpIn (FW none) n P ops Q i K a w) f=wpAnyIn (FW none) n P .any ops Q f
 |0=>rfl
 |f+1=>by
  funext l a w;simp only[tI,wpAnyIn,xS f]
end
def JH (b:Array Oper):Bool:=decide (0<b.size)&&(bZ [] (lG b (b.size-1))&&(List.range (b.size-1)).all fun i=>((pz (lG b (b.size-1)).toList []).getD (b.size-1) 0).testBit i)
theorem zB {R1 R2:AS->Act->World->Prop} (N:BY ks R1) (V:P.follows .mixedOrders=true) (c:List (aq P)) (q:List Nat) {id:Nat} (hk:dK ks b=true) (hE:JH b=true) {C L:AS} (h1:gB P (c.map aq.a) q b ((b.toList.take (b.size-1)).zipIdx 0) s=some C) (aa:yG P b (b.size-1) (R1 C) (R2 L)) (t:R1 s a w) (hQ: ∀a' M,R2 L a' M->f .normal a' M):(Code.region id b true).wp P f a w:=by
 simp only[JH,acN,decide_eq_true_eq,acr,acV]at hE;obtain⟨ac,hd,G⟩:=hE;obtain⟨o,ho,hg,Z⟩:=aa;generalize hm:b.size-1=m at*
 have ab:m<b.size:=by omega
 have U:(b.toList.take m).length=m:=by grind
 have u:cY P (c.map aq.a) q (lG b m) (List.range m) s=some C:=by
  have:=gJ (P:=P) (items:=c.map aq.a) (ow:=q) (b.toList.take m) 0 s (fun j o B=>by
   rw[adm]at B;split at B
   ·simpa using B
   cases B)
  rw[h1,U,<- acK]at this;rw[this];have key: ∀(l:List Nat) (s:AS),(∀i∈l,i<m)->cY P (c.map aq.a) q (lG b m) l s=cY P (c.map aq.a) q b l s:=fun l=>by
   induction l with
   |nil=>intros;rfl
   |cons i l ih=>
    intro s hl;have hi:=hl i (by simp);have e:dB P (c.map aq.a) q (lG b m) i s=dB P (c.map aq.a) q b i s:=by
     grind [dB,lf,pR]
    simp only[cY,e];cases dB P (c.map aq.a) q b i s with
    |none=>rfl
    |some L=>grind
  grind
 have S:(lG b m)[m]?=some (zC o):=by grind [lf]
 have T:be P (c.map aq.a) q (lG b m) m (zC o) C=some (C.put o.dst (.raw (.bool false))):=by
  unfold be;rw[show(zC o).guard=none from hg];rfl
 have J:cY P (c.map aq.a) q (lG b m) (List.range (lG b m).size) s=some (C.put o.dst (.raw (.bool false))):=by
  rw[kq,show b.size=m+1 by omega,ade,i6,u];grind [cY,dB]
 refine(wpIn_wide (n:=0)).1 (wpIn_region_any (F:=FW none) V ?_);have ah:R1 s a {w with drawn:=w.drawn+1}:=by
  obtain⟨wa,Oa,Xa,⟨q1,q2,ρ,I,A⟩,ka⟩:=N s a w t;have e:Ext w {w with drawn:=w.drawn+1}:=⟨rfl,rfl,rfl,acs _,fun _ _=>rfl⟩;have A:bo Xa ρ s a w:=A;exact ka _ _ _ (fun _ _=>rfl) ⟨q1,q2,ρ,I.grow e,A.grow e⟩
 have y:mZ s:=by obtain⟨wa,Oa,Xa,r,_⟩:=N s a w t;exact fd r
 rw[<- xS,<- FX (m:=m)];refine og (sep:=[]) (lZ hd (by simp)) hd (fun p s a w=>if p m then R2 L a w else R1 s a w) ⟨y,fun x hx=>by simp at hx⟩ J (fun p a w E t=>?_) (fun p i o' s' al a w K h W R hs t hK=>?_) b.size (Array.replicate b.size false) s a _ (by simp[kq]) ?_ ?_ ?_ ?_
 ·rw[if_pos (E m (by grind))]at t;exact hQ a w t
 ·obtain⟨hc,ad,g⟩:=R;have ae:i<b.size:=by grind [kq]
  have D:dH p i i=true:=by simp[dH]
  by_cases H:i=m
  ·subst H;rw[S]at h;injection h with h
   subst h;have Y:mU (lG b i).size p=List.range i:=uR (by grind) (fun j B=>by
    grind [jh,dH]) (fun j af ag=>by
    grind [kq])
   rw[Y,u]at g;injection g with g
   subst g;rw[W,if_neg (by decide)]at t;unfold wpOpIn;rw[ho];simp only;rw[if_pos (by simp[Region.wanted,hg])];exact Z a w K f t fun v M h2=>hK v M (by rw[if_pos D];exact h2)
  have z:p m=false:=by
   cases z:p m with
   |false=>rfl
   |true=>
    have:=jh hc (m+1) m (by omega) (by grind) z (G i (by omega));grind
  rw[z,if_neg (by decide)]at t;rw[lf,if_neg H]at h;rw[pR]at hs;obtain⟨wa,Oa,Xa,ra,ka⟩:=N _ _ _ t;grind [yl,dH,nr]
 ·intro j o ho hp;have B:j<b.size:=by grind [kq]
  simp_all
 ·grind [kq]
 ·have:mU (lG b m).size (fun j=>(Array.replicate b.size false).getD j true)=[]:=by
   simp_all[mU,kq]
  rw[this];rfl
 simp_all
end
end
section
structure jd (γ:Type) where
 B:Nat->Prop
 G:γ->(Nat->Prop)->World->Prop
 sp: ∀(g:γ) (Y:Nat->Prop) (w w':World),(∀j,B j->w'.heap[j]?=w.heap[j]?)->(∀j,¬Y j->w'.heap[j]?=w.heap[j]?)->G g Y w->G g Y w'
def noL:jd Unit:=⟨fun _=>False,fun _ _ _=>True,fun _ _ _ _ _ _ h=>h⟩
section
variable {P:Program} {γ:Type} {L:jd γ} {g g':γ} {w0 w:World} {O X Y:Nat->Prop} {s s':AS} {a:Act}
def gK (L:jd γ) (Y:Nat->Prop) (w0:World) (O X:Nat->Prop) (g:γ) (s:AS) (a:Act) (w:World):Prop:=dq w0 O X s a w/\(∀j,L.B j->O j/\X j)/\(∀j,O j\/w0.heap.size<=j->Y j)/\L.G g Y w
theorem gK.rebase (h:gK L Y w0 O X g s a w): ∃Own:Nat->Prop,dq w Own X s a w/\ ∀D q p,dq w Own X D q p->gK L Y w0 O X g D q p:=by
 obtain⟨⟨G,z,E,b,A⟩,v,y,I⟩:=h;refine⟨fun j=> ∃(x r:Nat) (o:OObj) (c:Nat),(s.H x)[r]?=some o/\E x r=some (j,c),⟨G,z,E,⟨Keep.refl w,b.objs,b.inj,fun x r o j c n f=>⟨.inr ⟨x,r,o,c,n,f⟩,(b.old x r o j c n f).2⟩,b.bar,b.self⟩,A⟩,?_⟩;rintro D q p ⟨M,B,F,e,C⟩;have l: ∀j,(∃(x r:Nat) (o:OObj) (c:Nat),(s.H x)[r]?=some o/\E x r=some (j,c))->(w0.heap.size<=j\/O j)/\ ¬X j:=fun j ⟨x,r,o,c,t,u⟩=>b.old x r o j c t u
 refine⟨⟨M,B,F,⟨⟨e.keep.os.trans b.keep.os,e.keep.tape.trans b.keep.tape,e.keep.output.trans b.keep.output,acl b.keep.size e.keep.size,fun j f K=>?_⟩,e.objs,e.inj,fun x r o j c n f=>?_,e.bar,e.self⟩,C⟩,v,y,?_⟩
 ·rw[e.keep.block j (acp f b.keep.size) (fun m=>by
   grind)]
  exact b.keep.block j f K
 ·obtain⟨t,u⟩:=e.old x r o j c n f;refine⟨?_,u⟩;rcases t with g|g
  ·exact .inl (acl b.keep.size g)
  grind
 refine L.sp g Y w p (fun j f=>e.keep.block j (b.bar j (v j f).2) (fun m=>(l j m).2 (v j f).2)) (fun j f=>?_) I;by_cases J:j<w.heap.size
 ·exact e.keep.block j J fun m=>f (y j (l j m).1.symm)
 exact absurd (y j (.inr (acl b.keep.size (by omega)))) f
theorem wn:Qc (gK L Y w0 O X g):=fun _ _ w h=>by
 obtain⟨Own,b,c⟩:=h.rebase;grind
def vN (P:Program) (L:jd γ) (c:Code) (Q:Exit->AS->γ->Prop) (s:AS) (g:γ):Prop:=
 ∀(Y:Nat->Prop) (w0:World) (O X:Nat->Prop) (a:Act) (w:World),gK L Y w0 O X g s a w->c.wp P (fun e b f=> ∃s' g',Q e s' g'/\gK L Y w0 O X g' s' b f) a w
def vo (next:AS->γ->Prop) (Q:Exit->AS->γ->Prop):Exit->AS->γ->Prop
 | .normal,s,k=>next s k
 |e,s,k=>Q e s k
def Je (id:Nat) (Q:Exit->AS->γ->Prop):Exit->AS->γ->Prop
 | .exit b,s,k=>if b=id then Q .normal s k else Q (.exit b) s k
 |e,s,k=>Q e s k
variable {Q:Exit->AS->γ->Prop}
theorem Zf (h:bA P c (fun e s'=>Q e s' g) s):vN P L c Q s g:=fun Y w0 O X a w r=>by
 obtain⟨Own,j,l⟩:=r.rebase;exact wp_mono (h _ _ _ _ _ j) fun e m n ⟨s',b,f⟩=>⟨s',g,b,l _ _ _ f⟩
theorem gK.weak (h:bJ s s') (r:gK L Y w0 O X g s a w):gK L Y w0 O X g s' a w:=by
 obtain⟨Own,b,c⟩:=r.rebase;exact c _ _ _ (h _ _ _ _ _ b)
theorem vN.weak (h:bJ s s') (k:vN P L c Q s' g):vN P L c Q s g:=fun _ _ _ _ _ _ r=>k _ _ _ _ _ _ (r.weak h)
theorem Qt (h:Q .normal s g):vN P L .skip Q s g:=fun _ _ _ _ _ _ r=>wp_skip ⟨s,g,h,r⟩
theorem Vd (h:Q .ret s g):vN P L .ret Q s g:=fun _ _ _ _ _ _ r=>wp_ret ⟨s,g,h,r⟩
theorem xR (h:vN P L c (vo (vN P L e Q) Q) s g):vN P L (.seq c e) Q s g:=fun _ _ _ _ _ _ r=>
 wp_seq (wp_mono (h _ _ _ _ _ _ r) fun b a w ⟨s',g',f,j⟩=>by
  cases b with
  |normal=>exact f _ _ _ _ _ _ j
  |_=>exact⟨s',g',f,j⟩)
theorem FG (m:s.ev l=some (.raw (.bool t))) (p:t=true->vN P L c Q s g) (n:t=false->vN P L e Q s g):vN P L (.cond l c e) Q s g:=fun _ _ _ _ _ _ r=>by
 obtain⟨⟨q,o,u,f,b⟩,_⟩:=id r;have j:=(aZ (bv b l _ m)).1;exact wp_cond_split j (fun h=>p h _ _ _ _ _ _ r) (fun h=>n h _ _ _ _ _ _ r)
theorem Ze (b:s.ev l=some (.raw (.bool true))) (h:vN P L c Q s g):vN P L (.cond l c e) Q s g:=FG b (fun _=>h) (fun h=>by cases h)
theorem Zd (b:s.ev l=some (.raw (.bool false))) (h:vN P L e Q s g):vN P L (.cond l c e) Q s g:=FG b (fun h=>by cases h) (fun _=>h)
theorem Qu (e:List (aq P)) (f:List Nat) {id:Nat} (h: ∀K:AS->Prop,(∀s',vN P L c Q s' g->K s')->aY P (e.map aq.a) f (aK b b.toList 0) (some s) K):vN P L (.seq (.region id b false) c) Q s g:=
 xR (Zf (pL e f h))
theorem vO {id:Nat} (h: ∀K:AS->Prop,(∀s',vN P L c Q s' g->K s')->aY P [] [] (aK b b.toList 0) (some s) K):vN P L (.seq (.region id b false) c) Q s g:=Qu [] [] h
structure tg (P:Program) (L:jd γ) (f:FuncId) (args:List TV) (F F':List OObj) (g g':γ) (r:TV):Prop where
 able:callable P f=true
 sA: ∀t∈args,selfTV 0 t
 sR:selfTV 0 r
 sF: ∀o∈F,selfO 0 o
 sF': ∀o∈F',selfO 0 o
 calls: ∀(X Y:Nat->Prop) (w:World) (vs:Array Value) (ρ:Rho),Inv w (fun j=>famB F ρ j\/L.B j) X (famH 0 F) ρ w->(∀j,L.B j->X j)->(∀j,(famB F ρ j\/L.B j)\/w.heap.size<=j->Y j)->L.G g Y w->vs.size=args.length->
  (∀(j:Nat) t,args[j]?=some t-> ∃v:Value,vs[j]?=some v/\t.rel ρ (famH 0 F) (Xo X ρ (famH 0 F)) w v)->
  Calls P f vs w fun e w'=> ∃v,e= .returned v/\ ∃ρ':Rho,Inv w (fun j=>famB F ρ j\/L.B j) X (famH 0 F') ρ' w'/\L.G g' Y w'/\r.rel ρ' (famH 0 F') (Xo X ρ' (famH 0 F')) w' v
theorem QX {A:Func} {args:List TV} (hf:P.funcs[r]?=some A) (Z:A.body=some c) (hn:callable P r=true) (sA: ∀t∈args,selfTV 0 t) (sR:selfTV 0 u) (sF: ∀o∈h,selfO 0 o) (sF': ∀o∈j,selfO 0 o) (b:vN P L c (fun e s k=>(e= .normal\/e= .ret)/\k=g'/\ ∃s',bJ s s'/\Y9 P A j u s') ⟨args++List.replicate (A.ntmps-args.length) .undef,famH 0 h⟩ g):tg P L r args h j g g' u:=by
 refine⟨hn,sA,sR,sF,sF',fun X Y w vs S p U W V J H=>?_⟩;refine calls_of_wp hf Z ?_;have E:dq w (fun l=>famB h S l\/L.B l) X ⟨args++List.replicate (A.ntmps-args.length) .undef,famH 0 h⟩ {tmps:=vs++Array.replicate (A.ntmps-vs.size) undef,defers:=[]} w:=by
  refine⟨rfl,by simp[J],S,p,fun t x C=>?_⟩;by_cases ht:t<args.length
  ·grind
  rw[acD (by omega),ac5]at C;split at C
  ·rename_i aa;injection C with C
   subst C;refine⟨undef,?_,d6⟩;grind
  cases C
 refine wp_mono (b Y _ _ _ _ _ ⟨E,fun l N=>⟨.inr N,U l N⟩,W,V⟩) fun e T w' ⟨s1,k,⟨I,hk,s2,hw,n,G⟩,q,_,_,D⟩=>?_
 subst hk;obtain⟨M,ab,z,m,y⟩:=hw _ _ _ _ _ q;have y:bo X z s2 T w':=y;rw[n]at m;obtain⟨v,R,K⟩:=fq (by rw[n];exact m) y G;rw[n]at K;rcases I with rfl|rfl
 ·exact⟨M,v,R,v,rfl,z,m,D,K⟩
 exact⟨M,v,R,v,rfl,z,m,D,K⟩
def r9 (o:Oper) (s:AS):Option (FuncId×List TV):=match o.op with
 | .call c=>match c.callee with
  | .value (.func f)=>(fz s.ev c.args.toList).map fun e=>(f,e)
  | .value (.tmp k)=>match Jg (s.ev (.tmp k)),fz s.ev c.args.toList with
   |some (f,b),some e=>some (f,e++b)
   |_,_=>none
  |_=>none
 |_=>none
def cxTs (b:Array Oper) (m:Nat) (s:AS):Option (FuncId×List TV):=match b[m]? with
 |some o=>if o.guard.isNone then r9 o s else none
 |none=>none
structure Fo (ops:Array Oper) (m:Nat) (f:FuncId) (args:List TV) (fa:Nat) (F:List OObj) (s:AS):Prop where
 ts:cxTs ops m s=some (f,args.map (renTV fa))
 fam:s.H fa=F.map (renO fa)
theorem Pk {args:List TV} (l:tg P L r args h j g g' u) (ac:n<=4999) (m:r9 p s=some (r,args.map (renTV n))) (J:s.H n=h.map (renO n)):
  Du P p (gK L Y w0 O X g s) (gK L Y w0 O X g' (AS.put ⟨s.tmps.map (aT (kF n)),aF s.H n (j.map (renO n))⟩ p.dst (renTV n u))):=fun a w K Q ⟨⟨h1,ae,ρ,z,q⟩,hB,hY,hG⟩ hK=>by
 have q:bo X ρ s a w:=q;obtain⟨X1,T,g1,g2,g3,gF,g4⟩:=sn (B:=L.B) h1 ae z q hB l.sR l.sF l.sF' ac J;refine lB (.inl rfl) ?_;have key: ∀vs:Array Value,(execOp a.eval p).run P w= .ok (.enter r vs) w->vs.size=args.length->(∀(b:Nat) t,args[b]?=some t-> ∃v:Value,vs[b]?=some v/\(renTV n t).rel ρ s.H (Xo X ρ s.H) w v)->p.wp P a w K Q:=fun vs R ag D=>by
  unfold Oper.wp;rw[R];simp only[Oper.upon];have aa: ∀b,(famB h T b\/L.B b)\/w.heap.size<=b->Y b:=fun b A=>hY b (by
   rcases A with(A|A)|A
   ·obtain⟨y,p,c,k1,k2⟩:=gF b A;exact(z.old n y p b c k1 k2).1.symm
   ·grind
   exact .inr (acl z.keep.size A))
  refine(l.calls X1 Y w vs T g1 g2 aa hG ag fun b t U=>?_).mono ?_
  ·obtain⟨v,v1,v2⟩:=D b t U;exact⟨v,v1,g3 t v (l.sA t (acd U)) v2⟩
  rintro e w1 ⟨v,rfl,ah,hi,Z,ad⟩;exact hK v w1 ⟨g4 v w1 ah hi ad p.dst,hB,hY,Z⟩
 unfold r9 at m;split at m
 ·rename_i c N;split at m
  ·rename_i f' x;obtain⟨ts,E,e⟩:=acf.1 m;injection e with e V
   subst e V;obtain⟨e1,W⟩:=bP E;have G:c.args.size=args.length:=by grind
   refine key _ (fW N x rfl l.able) (by simp[G]) fun b t U=>?_
   obtain⟨y,hy,I⟩:=W b (renTV n t) (by grind);refine⟨a.eval y,?_,bv q y _ I⟩;grind
  ·rename_i k x;split at m
   ·rename_i f' C ts ab E;injection m with m
    injection m with e V
    subst e;obtain⟨e1,W⟩:=bP E;obtain⟨us,k1,k2,k3⟩:=lD (v:=a.eval (.tmp k)) (fun t0 af=>bv q (.tmp k) t0 af) ab;have M:args.length=c.args.size+us.size:=by
     have:=congrArg List.length V;grind
    refine key _ (lL N x k1 l.able) (by simp[M]) fun b t U=>?_
    have S:(ts++C)[b]?=some (renTV n t):=by grind
    by_cases A:b<ts.length
    ·rw[acx A]at S;obtain⟨y,hy,I⟩:=W b _ S;refine⟨a.eval y,?_,bv q y _ I⟩;grind
    grind
   cases m
  cases m
 cases m
theorem Pi {args:List TV} (l:tg P L r args h j g g' u) (p:n<=4999) {m:Nat} (c:Fo b m r args n h s):
  yG P b m (gK L Y w0 O X g s) (gK L Y w0 O X g' (Q2 b m u n j s)):=by
 obtain⟨e,t⟩:=c;unfold cxTs at e;split at e
 ·rename_i o q;split at e
  ·rename_i v;refine⟨o,q,by simp_all,?_⟩;grind [Q2,cwD,Pk]
  cases e
 cases e
theorem Nz (o:P.follows .mixedOrders=true) {args:List TV} (l:tg P L r args h j g g' u) (m:Nat) (e:List (aq P)) (p:List Nat) {id:Nat} (n:m<=4999) (y:JH b=true) (c:aY P (e.map aq.a) p (aK b (b.toList.take (b.size-1)) 0) (some s) (fun t=>Fo b (b.size-1) r args m h t/\Q .normal (Q2 b (b.size-1) u m j t) g')):vN P L (.region id b true) Q s g:=fun Y w0 O X a w A=>by
 obtain⟨t,v,q,x⟩:=aP P (e.map aq.a) p b _ 0 s _ c;exact zB (ks:=[]) (R1:=gK L Y w0 O X g) (R2:=gK L Y w0 O X g') wn.k o e p rfl y v (Pi l n q) A fun B C z=>⟨_,g',x,z⟩
theorem WT:gK noL (fun _=>True) w0 O X () s a w↔dq w0 O X s a w:=⟨fun h=>h.1,fun h=>⟨h,fun _ h=>h.elim,fun _ _=>trivial,trivial⟩⟩
end
end
section
section
variable {P:Program} {γ:Type} {L:jd γ} {g g':γ} {w0 w w':World} {O X Y:Nat->Prop} {s s':AS} {a:Act}
theorem dq.turn {B:Nat->Prop} (h:dq w0 O X s a w) (q: ∀j,B j->O j/\X j) (k:Keep B w w'):dq w0 O X s a w':=by
 obtain⟨D,y,f,e,I⟩:=h;have C: ∀(x r:Nat) (o:OObj) (b c:Nat),(s.H x)[r]?=some o->f x r=some (b,c)->w'.heap[b]?=w.heap[b]?:=fun x r o b c z A=>
  k.block b (bz (e.objs x r o z) A) fun l=>(e.old x r o b c z A).2 (q b l).2
 have mono: ∀x v,AV.rel f s.H (Xo X f s.H) w x v->AV.rel f s.H (Xo X f s.H) w' x v:=tM fun x v n h=>by
  cases x with
  |fn=>cases n
  |p x=>exact bS.later (fun _ _ h=>h) k.size (fun p v G u E=>by rw[<- E];exact gE (k.block p.block G fun l=>u (.inl (q _ l).2))) h
  |sl x r J len=>exact h
  |ptr x r i j=>exact h
  |junk=>trivial
 refine⟨D,y,f,⟨⟨k.os.trans e.keep.os,k.tape.trans e.keep.tape,k.output.trans e.keep.output,acl e.keep.size k.size,fun j m n=>?_⟩,fun x r o F=>?_,e.inj,e.old,fun j m=>acp (e.bar j m) k.size,e.self⟩,fun t x R=>?_⟩
 ·rw[k.block j (acp m e.keep.size) fun l=>n (q j l).1];exact e.keep.block j m n
 ·obtain⟨K,M,S⟩:=e.objs x r o F;refine⟨K,M,?_⟩;cases Q:f x r with
  |none=>grind
  |some N=>
   grind
 grind [TV.rel_map]
def vT (P:Program) (L:jd γ) (l:Nat) (args:List Value) (g g':γ) (b:Bool):Prop:=
 ∀(Y:Nat->Prop) (w:World),L.G g Y w-> ∃c tmps assign body,(Instr.yield l args.toArray).run P w= .ok (.round l c tmps assign body) w/\
  RoundIn (FW none) 0 P l c tmps assign body w fun e w'=>e= .returned (.bool b)/\Keep L.B w w'/\L.G g' Y w'
def AF:List TV->Option (List Value)
 |[]=>some []
 | .one (.p (.raw v))::l=>(AF l).map (v:: ·)
 |_=>none
theorem xn: ∀{b:List TV} {vs:List Value},AF b=some vs->b=vs.map TV.raw
 |[],vs,h=>by grind [AF]
 |t::b,vs,h=>by
  unfold AF at h;split at h
  ·grind
  ·rename_i v l e;injection e with c f
   subst c f;obtain⟨m,j,rfl⟩:=acf.1 h;rw[xn j];rfl
  cases h
def yTs (e:Array Oper) (m:Nat) (s:AS):Option (Nat×List Value):=match e[m]? with
 |some o=>match o.guard,o.op with
  |none,.call c=>match c.callee with
   | .value (.tmp k)=>match s.ev (.tmp k),(fz s.ev c.args.toList).bind AF with
    |some (.one (.p (.raw (.func (.yield l) first b)))),some vs=>if first.isEmpty&&b.isEmpty then some (l,vs)else none
    |_,_=>none
   |_=>none
  |_,_=>none
 |none=>none
def yS (c:Array Oper) (m:Nat) (b:Bool) (s:AS):AS:=s.put (cwD c m) (.raw (.bool b))
theorem Be {args:List Value} (hy:vT P L n args g g' t) {m:Nat} (h:yTs b m s=some (n,args)):
  yG P b m (gK L Y w0 O X g s) (gK L Y w0 O X g' (yS b m t s)):=by
 unfold yTs at h;split at h
 case h_2=>cases h
 rename_i o ho;split at h
 case h_2=>cases h
 rename_i c hg ab;split at h
 case h_2=>cases h
 rename_i k M;split at h
 case h_2=>cases h
 rename_i l' first H vs hk C
 split at h
 case isFalse=>cases h
 rename_i J;injection h with h
 injection h with T U
 subst T U;simp only[acN,Array.isEmpty_iff]at J;obtain⟨rfl,rfl⟩:=J;obtain⟨ts,B,f⟩:=acG.1 C;have f:=xn f;subst f;refine⟨o,ho,hg,fun a w K Q ⟨R,I,hY,W⟩ Z=>?_⟩;obtain⟨h1,ac,ρ,N,q⟩:=id R;have q:bo X ρ s a w:=q;have aa:=(aZ (bv q (.tmp k) _ hk)).1;obtain⟨q1,q2⟩:=bP B;have z:c.args.map a.eval=vs.toArray:=by
  apply Array.ext';apply acz;intro j;simp only[Array.toList_map,ach];cases hj:vs[j]? with
  |none=>
   grind
  |some v=>
   obtain⟨y,D,E⟩:=q2 j (.raw v) (by grind);rw[D];exact congrArg some (aZ (bv q y _ E)).1
 obtain⟨V,tmps,assign,body,S,p⟩:=hy Y w W;have r:(execOp a.eval o).run P w= .ok (.round l' V tmps assign body) w:=by
  grind [execOp,resolve,Deferred.ofValue,invoke]
 refine⟨fun _ _=>trivial,?_⟩;show o.uponIn (FW none) 0 P a K Q ((execOp a.eval o).run P w);rw[r,Oper.uponIn_round];refine⟨fun h=>by simp[Fence.wide]at h,p.mono ?_⟩;rintro e w1 ⟨rfl,A,x⟩;refine Z _ w1 ⟨?_,I,hY,x⟩;obtain⟨n1,F,ad,u,G⟩:=R.turn I A;have:cwD b m=o.dst:=by grind [cwD]
 unfold yS;rw[this];exact fG n1 F u G (b7 rfl)
variable {Q:Exit->AS->γ->Prop}
theorem IU (e:P.follows .mixedOrders=true) {args:List Value} (r:vT P L n args g g' t) (c:List (aq P)) (f:List Nat) {id:Nat} (p:JH b=true) (h:aY P (c.map aq.a) f (aK b (b.toList.take (b.size-1)) 0) (some s) (fun j=>yTs b (b.size-1) j=some (n,args)/\Q .normal (yS b (b.size-1) t j) g')):vN P L (.region id b true) Q s g:=fun Y w0 O X a w v=>by
 obtain⟨j,m,q,o⟩:=aP P (c.map aq.a) f b _ 0 s _ h;exact zB (ks:=[]) (R1:=gK L Y w0 O X g) (R2:=gK L Y w0 O X g') wn.k e c f rfl p m (Be r q) v fun x w' u=>⟨_,g',o,u⟩
end
end
section
section
variable {P:Program} {w0 w w':World} {O X:Nat->Prop} {s s':AS} {a:Act} {ρ:Rho}
def RelR (ρ:Rho) (b:List Deferred) (w0:World) (O X:Nat->Prop) (s:AS) (a:Act) (w:World):Prop:=a.defers=b/\a.tmps.size=s.tmps.length/\Inv w0 O X s.H ρ w/\bo X ρ s a w
theorem RelR.put (h:RelR ρ q w0 O X s a w) {d:Option Tmp} {v:Value} (b:u.rel ρ s.H (Xo X ρ s.H) w v):RelR ρ q w0 O X (s.put d u) (a.put d v) w:=
 ⟨by rw[gX];exact h.1,by rw[kK,ke];exact h.2.1,by rw[gP];exact h.2.2.1,qo h.2.1 h.2.2.2 b⟩
noncomputable def tD (P:Program) (o:Oper) (s:AS):Option AS:=
 if pF o.op then(jV P s.ev o.op).map (s.put o.dst)
 else if Bw o.op then(bY P s.ev s.H o.op).map (s.put o.dst)
 else match o.op with
  | .store t h x=>match s.ev h,i7 P t with
   |some (.one (.ptr a r i j)),some n=>match(s.H a)[r]? with
    |some b=>match b.elems[i]? with
     |some e=>match s.ev x with
      |some (.one (.sl g l f len))=>if g=a/\n=1/\j<e.length then some (AS.put ⟨s.tmps,aF s.H a ((s.H a).set r {b with elems:=b.elems.set i (putCells e j [.sl g l f len])})⟩ o.dst .undef)else none
      |some v=>match cellsOf v with
       |some c=>if c.length=n/\j+n<=e.length/\c.all isPure then some (AS.put ⟨s.tmps,aF s.H a ((s.H a).set r {b with elems:=b.elems.set i (putCells e j c)})⟩ o.dst .undef)else none
       |none=>none
      |none=>none
     |none=>none
    |none=>none
   |_,_=>none
  |_=>none
theorem Dd (h:RelR ρ q w0 O X s a w) {t:TypeId} {G x:Operand} (ho:p.op= .store t G x) {r i j f:Nat} {z:OObj} {e cs:List AV} (I:s.ev G=some (.one (.ptr n r i j))) (hn:i7 P t=some f) (B:(s.H n)[r]?=some z) (U:z.elems[i]?=some e) (T:cs.length=f) (hj:j+f<=e.length) (W:oo ρ s.H (Xo X ρ s.H) w cs (a.eval x).cells) (m: ∀y∈cs,bH n y): ∃w',(execOp a.eval p).run P w= .ok .skip w'/\RelR ρ q w0 O X (AS.put ⟨s.tmps,aF s.H n ((s.H n).set r {z with elems:=z.elems.set i (putCells e j cs)})⟩ p.dst .undef) (a.put p.dst undef) w':=by
 obtain⟨S,E,A,g⟩:=h;have g:bo X ρ s a w:=g;obtain⟨Z,b,c,F,R,g3,g4⟩:=bv g G _ I;rw[B]at F;injection F with F
 subst F;obtain⟨x1,x2⟩:=W;have K:(a.eval x).cells.toList.length=cs.length:=by omega
 obtain⟨cells,N,Q,c3,M⟩:=Dc (act:={a with defers:=[]}) rfl E A g (vs:=(a.eval x).cells.toList) (j:=j) B R U (by omega) K (fun k y Y=>by
  grind) m
 have C: ∀u∈(a.eval x).cells,u.oneCell'=true:=fun u V=>by
  obtain⟨k,hk,rfl⟩:=ags V;obtain⟨y,Y⟩:=getElem?_of_lt (l:=cs) (k:=k) (by omega);grind
 have D:=xo (P:=P) (t:=t) (v:=a.eval x) (by grind) N (by simpa using Q) C;have M:bo X ρ _ a _:=M;have J: ∀L,(Instr.storeAt t (.pointer (some ⟨b,i*z.es+j,none⟩)) (a.eval x)).run P w= .ok () L->(execOp a.eval p).run P w= .ok .skip L:=fun L hr=>by
  grind [execOp,YI]
 exact⟨_,J _ D,RelR.put (s:=⟨s.tmps,aF s.H n ((s.H n).set r {z with elems:=z.elems.set i (putCells e j cs)})⟩) ⟨S,E,by omega,by omega⟩ d6⟩
theorem Vh {T:AS} (b:tD P p s=some T) (h:RelR ρ q w0 O X s a w):(∀c,p.op≠ .defer c)/\ ∃x v w',(execOp a.eval p).run P w= .ok x w'/\(x= .value v\/(x= .skip/\v=undef))/\RelR ρ q w0 O X T (a.put p.dst v) w':=by
 obtain⟨h1,aa,m,f⟩:=id h;have f:bo X ρ s a w:=f;unfold tD at b;split at b
 ·rename_i M;obtain⟨t,I,rfl⟩:=acf.1 b;obtain⟨v,D,E⟩:=zE (bv f) I;exact⟨fun c e=>(by rw[e]at M;cases M),_,v,w,D,.inl rfl,h.put E⟩
 split at b
 ·rename_i N;obtain⟨t,I,rfl⟩:=acf.1 b;obtain⟨v,D,E⟩:=zJ (bv f) m.objs I;exact⟨fun c e=>(by rw[e]at N;cases N),_,v,w,D,.inl rfl,h.put E⟩
 split at b
 case h_2=>cases b
 rename_i t ad x A;refine⟨fun c e=>(by grind),?_⟩;split at b
 case h_2=>cases b
 rename_i fa r i j n l R;split at b
 case h_2=>cases b
 rename_i ob u;split at b
 case h_2=>cases b
 rename_i e Q;split at b
 ·rename_i K S C len J;split at b
  case isFalse=>cases b
  rename_i F;obtain⟨rfl,Y,Z⟩:=F;injection b with b
  subst b;have B:=bv f x _ J;have z:(a.eval x).oneCell'=true:=Jc (ρ:=ρ) (H:=s.H) (X:=Xo X ρ s.H) (w:=w) (x:= .sl K S C len) (by simp) B;obtain⟨w1,k1,k2⟩:=Dd (P:=P) h A l R u Q (cs:=[.sl K S C len]) (by simp;omega) (by omega) ⟨by grind [gG],fun k y g=>by
   cases k with
   |succ k=>simp at g
   |zero=>simp at g;subst g;exact⟨a.eval x,by grind [gG],z,B⟩⟩ (fun y g=>by simp at g;subst g;rfl)
  grind
 ·rename_i v hv J;split at b
  case h_2=>cases b
  rename_i W G;split at b
  case isFalse=>cases b
  rename_i F;obtain⟨U,V,L⟩:=F;injection b with b
  subst b;simp only[acr]at L;obtain⟨w1,k1,k2⟩:=Dd (P:=P) h A l R u Q U V (kp G (bv f x _ J)) (fun y g=>df (L y g));grind
 cases b
noncomputable def o9 (P:Program):List Oper->Option AS->(AS->Prop)->Prop
 |_,none,_=>False
 |[],some s,K=>K s
 |o::l,some s,K=>o9 P l (if o.guard.isNone then tD P o s else none) K
theorem C5 (l:List Oper) (K:AS->Prop):o9 P l none K=False:=by cases l<;>rfl
theorem ML {ro:Option Nat} {n:Nat} {e:List Deferred} {ops:Array Oper} {Q:Exit->Act->World->Prop} {Ka:AS->Prop} (f: ∀s a w,Ka s->RelR ρ e w0 O X s a w->Q .normal a w): ∀(l:List Oper) (k:Nat) (s:AS) (a:Act) (w:World),(∀(j:Nat) o,l[j]?=some o->ops[k+j]?=some o)->
  o9 P l (some s) Ka->RelR ρ e w0 O X s a w->wpOpsIn (FW ro) n P ops Q (List.range' k l.length) a w
 |[],k,s,a,w,_,h,r=>f s a w h r
 |o::l,k,s,a,w,g,h,r=>by
  simp only[acC,acW];rw[wpOpsIn_cons];have q:ops[k]?=some o:=by have:=g 0 o rfl;omega
  unfold wpOpIn;rw[q];simp only[o9]at h;split at h
  case isFalse=>grind [C5]
  rename_i A;cases m:tD P o s with
  |none=>grind [C5]
  |some y=>
   rw[m]at h;obtain⟨c,x,v,z,b,u,t⟩:=Vh m r;simp only;rw[if_pos (by simp_all[Region.wanted])];refine⟨fun _ _=>trivial,?_⟩;rw[Oper.semAt_eq _ _ _ c,b];have p:=ML (ro:=ro) (n:=n) f l (k+1) y _ z (fun j o B=>by have:=g (j+1) o (by grind);rwa[show k+(j+1)=k+1+j by omega]at this) h t;rcases u with rfl|⟨rfl,rfl⟩
   ·exact p
   exact p
def yU (P:Program) (g:Option Nat) (ρ:Rho) (b:List Deferred) (c:Code) (Q:Exit->AS->Prop) (s:AS):Prop:=
 ∀(w0:World) (O X:Nat->Prop) (a:Act) (w:World),RelR ρ b w0 O X s a w->c.wpIn (FW g) 0 P (fun e f w'=> ∃s',Q e s'/\RelR ρ b w0 O X s' f w') a w
variable {ro:Option Nat} {ds:List Deferred} {Q:Exit->AS->Prop}
theorem LD {id:Nat} (h:o9 P b.toList (some s) (Q .normal)):yU P ro ρ ds (.region id b false) Q s:=fun w0 O X a w r=>by
 refine wpIn_region ?_;have:=ML (ro:=ro) (n:=0) (ops:=b) (Q:=fun e c w'=> ∃s',Q e s'/\RelR ρ ds w0 O X s' c w') (fun s a w k r=>⟨s,k,r⟩) b.toList 0 s a w (fun j o f=>by grind) h r;grind [List.range_eq_range']
theorem DA (h:yU P ro ρ ds c (iH (yU P ro ρ ds e Q) Q) s):yU P ro ρ ds (.seq c e) Q s:=fun _ _ _ _ _ r=>
 wpIn_seq (wpIn_mono (h _ _ _ _ _ r) fun b a w ⟨s',f,g⟩=>by
  cases b with
  |normal=>exact f _ _ _ _ _ g
  |_=>exact⟨s',f,g⟩)
theorem Qz {id:Nat} (h: ∀K:AS->Prop,(∀s',yU P ro ρ ds c Q s'->K s')->o9 P b.toList (some s) K):yU P ro ρ ds (.seq (.region id b false) c) Q s:=
 DA (LD (h _ fun _ h=>h))
theorem Qx {id:Nat} (h: ∀K:AS->Prop,(∀s',Q .normal s'->K s')->o9 P b.toList (some s) K):yU P ro ρ ds (.region id b false) Q s:=LD (h _ fun _ h=>h)
theorem Qy (h:Q .normal s):yU P ro ρ ds .skip Q s:=fun _ _ _ _ _ r=>wpIn_skip ⟨s,h,r⟩
theorem LE (h:Q .ret s):yU P ro ρ ds .ret Q s:=fun _ _ _ _ _ r=>wpIn_ret ⟨s,h,r⟩
theorem Cc {id:Nat} (h:yU P ro ρ ds c (ou id Q) s):yU P ro ρ ds (.block id c) Q s:=fun _ _ _ _ _ r=>
 wpIn_block (wpIn_mono (h _ _ _ _ _ r) fun e a w ⟨s',b,f⟩=>by
  cases e with
  |exit g=>
   grind [ou,Exit.inBlock]
  |_=>exact⟨s',b,f⟩)
theorem FL (j:s.ev l=some (.raw (.bool t))) (o:t=true->yU P ro ρ ds c Q s) (m:t=false->yU P ro ρ ds e Q s):yU P ro ρ ds (.cond l c e) Q s:=fun _ _ _ _ _ r=>by
 obtain⟨p,n,f,b⟩:=id r;have g:=(aZ (bv b l _ j)).1;exact wpIn_cond_split g (fun h=>o h _ _ _ _ _ r) (fun h=>m h _ _ _ _ _ r)
end
end
end Go.Proofs.YtalmoejhjceflaaGreat
