/-
  Part 25 of a proof (walks and plain facts).
-/
import Derived.Test.YtalmoejhjceflaaGreatQ18
set_option linter.all false
set_option maxRecDepth 100000
set_option maxHeartbeats 64000000
namespace Go.Proofs.YtalmoejhjceflaaGreat
open Go.RowKit
variable {b c:Code} {e:Array Oper} {f:Operand}
section
structure Fy (P:Program) (b:Nat) (ty:TypeId) (cs:List PV) where
 i:Nat
 f:FuncId
 args:List TV
 res:CallRes
 h:CallT P b ty f args cs res cs
 ok:lentOk args res cs=true
def Fy.a {P:Program} {b:Nat} {g:TypeId} {e:List PV} (c:Fy P b g e):cG P:=⟨c.i,c.f,c.args,c.res⟩
section
variable {P:Program} {b:Nat} {ty:TypeId} {cs:List PV} {Q:Exit->AS->List PV->Prop} {s:AS}
end
end
section
def nX (b:Nat) (_ty:TypeId) (c:List PV) (w:World):Prop:=
 b<w.heap.size/\ ∀(j:Nat) x,c[j]?=some x-> ∃v:Value,x= .raw v/\w.cell? ⟨b,j,none⟩=some v/\v.oneCell'=true
theorem nX.lt {b:Nat} {e:TypeId} {c:List PV} {w:World} (h:nX b e c w):b<w.heap.size:=h.1
def kQ (b:Nat) (f:TypeId) (c:World) (O X:Nat->Prop) (s:AS) (e:List PV) (a:Act) (w:World):Prop:=dq c O X s a w/\nX b f e c/\ ¬O b
theorem kQ.box {b:Nat} {l:TypeId} {r w:World} {O X:Nat->Prop} {s:AS} {f:List PV} {a:Act} (h:kQ b l r O X s f a w):nX b l f w:=by
 obtain⟨⟨_,_,t,c,_⟩,g,p⟩:=h;have e:=g.lt;refine⟨acp e c.keep.size,fun j x q=>?_⟩;obtain⟨v,m,n,o⟩:=g.2 j x q;exact⟨v,m,by rw[gE (c.keep.block b e p)];exact n,o⟩
section
variable {P:Program} {b:Nat} {ty:TypeId} {cs cs':List PV} {s s':AS} {w0 w:World} {O X:Nat->Prop} {a:Act}
def WpG (P:Program) (b:Nat) (ty:TypeId) (c:Code) (Q:Exit->AS->List PV->Prop) (s:AS) (cs:List PV):Prop:=
 ∀(w0:World) (O X:Nat->Prop) (a:Act) (w:World),kQ b ty w0 O X s cs a w->c.wp P (fun e f g=> ∃s' cs',Q e s' cs'/\kQ b ty w0 O X s' cs' f g) a w
variable {Q:Exit->AS->List PV->Prop}
theorem IR (h:bA P c (fun e s'=>Q e s' cs) s):WpG P b ty c Q s cs:=fun w0 O X a w r=>
 wp_mono (h _ _ _ _ _ r.1) fun e j l ⟨s',f,g⟩=>⟨s',cs,f,g,r.2⟩
theorem kQ.weak (h:bJ s s') (r:kQ b ty w0 O X s cs a w):kQ b ty w0 O X s' cs a w:=⟨h _ _ _ _ _ r.1,r.2⟩
theorem WpG.weak (h:bJ s s') (k:WpG P b ty c Q s' cs):WpG P b ty c Q s cs:=fun _ _ _ _ _ r=>k _ _ _ _ _ (r.weak h)
theorem WpG_skip (h:Q .normal s cs):WpG P b ty .skip Q s cs:=fun _ _ _ _ _ r=>wp_skip ⟨s,cs,h,r⟩
theorem Dz (h:Q .ret s cs):WpG P b ty .ret Q s cs:=fun _ _ _ _ _ r=>wp_ret ⟨s,cs,h,r⟩
theorem tA {y:Code} (h:WpG P b ty c (qz (WpG P b ty y Q) Q) s cs):WpG P b ty (.seq c y) Q s cs:=fun _ _ _ _ _ r=>
 wp_seq (wp_mono (h _ _ _ _ _ r) fun e a w ⟨s',cs',f,g⟩=>by
  cases e with
  |normal=>exact f _ _ _ _ _ g
  |_=>exact⟨s',cs',f,g⟩)
theorem pM {y:Code} {v:Bool} (l:s.ev f=some (.raw (.bool v))) (o:v=true->WpG P b ty c Q s cs) (m:v=false->WpG P b ty y Q s cs):WpG P b ty (.cond f c y) Q s cs:=fun _ _ _ _ _ r=>by
 obtain⟨⟨p,n,q,g,e⟩,_⟩:=id r;have j:=(aZ (bv e f _ l)).1;exact wp_cond_split j (fun h=>o h _ _ _ _ _ r) (fun h=>m h _ _ _ _ _ r)
theorem WpG_cT {y:Code} (e:s.ev f=some (.raw (.bool true))) (h:WpG P b ty c Q s cs):WpG P b ty (.cond f c y) Q s cs:=pM e (fun _=>h) (fun h=>by cases h)
theorem WpG_cF {y:Code} (e:s.ev f=some (.raw (.bool false))) (h:WpG P b ty y Q s cs):WpG P b ty (.cond f c y) Q s cs:=pM e (fun h=>by cases h) (fun _=>h)
/-! Regions. -/
theorem yO (f:List (aq P)) (g:List Nat) {id:Nat} (h: ∀K:AS->Prop,(∀s',WpG P b ty c Q s' cs->K s')->aY P (f.map aq.a) g (aK e e.toList 0) (some s) K):WpG P b ty (.seq (.region id e false) c) Q s cs:=
 tA (IR (qD f g (h _ fun _ h=>h)))
theorem WpG_sreg0 {id:Nat} (h: ∀K:AS->Prop,(∀s',WpG P b ty c Q s' cs->K s')->aY P [] [] (aK e e.toList 0) (some s) K):WpG P b ty (.seq (.region id e false) c) Q s cs:=yO [] [] h
def CallG (P:Program) (b:Nat) (ty:TypeId) (f:FuncId) (args:List TV) (cs:List PV) (res:CallRes):Prop:=callable P f=true/\ ∀w,nX b ty cs w->Dp P f args res w
theorem zh {f:FuncId} {g:Func} {args:List TV} {res:CallRes} (q:P.funcs[f]?=some g) (p:g.body=some c) (j:callable P f=true) (h:WpG P b ty c (fun e s k=>(e= .normal\/e= .ret)/\k=cs/\ ∃s',bJ s s'/\nd P g res s') ⟨args++List.replicate (g.ntmps-args.length) .undef,fun _=>[]⟩ cs):CallG P b ty f args cs res:=
 ⟨j,fun w t=>r6 (nX b ty cs) q p j (fun w0 X a o r=>wp_mono (h w0 _ X a w0 ⟨r,o,fun h=>h⟩) fun e u v ⟨s',k,⟨l,_,m⟩,n⟩=>⟨s',⟨l,m⟩,n.1⟩) w t⟩
end
structure fJ (P:Program) (b:Nat) (ty:TypeId) (cs:List PV) where
 i:Nat
 f:FuncId
 args:List TV
 res:CallRes
 h:CallG P b ty f args cs res
 ok:cs=cs
def fJ.a {P:Program} {b:Nat} {g:TypeId} {e:List PV} (c:fJ P b g e):cG P:=⟨c.i,c.f,c.args,c.res⟩
section
variable {P:Program} {b:Nat} {ty:TypeId} {cs cs':List PV} {s s':AS} {w0 w:World} {O X:Nat->Prop} {a:Act} {Q:Exit->AS->List PV->Prop}
theorem we (c:List (aq P)) (e:List (fJ P b ty cs)) (g:nX b ty cs w):mg P (c.map aq.a++e.map fJ.a) w:=fun j f=>by
 rcases adh.1 f with h|h
 ·exact(aq.ok c).at w j h
 obtain⟨x,_,rfl⟩:=acn.1 h;exact x.h.2 w g
theorem KE (f:List (aq P)) (g:List (fJ P b ty cs)) {p:List Nat} {i:Nat} {o:Oper} {l:AS} (c:kQ b ty w0 O X s cs a w) (h:be P (f.map aq.a++g.map fJ.a) p e i o s=some l) {K:Act->World->Prop} {Q:Exit->Act->World->Prop} (m: ∀v j,kQ b ty w0 O X l cs (a.put o.dst v) j->K (a.put o.dst v) j):if Region.wanted o (yielded e a.tmps)then o.wp P a w K Q else K (a.put o.dst undef) w:=
 pS (we f g c.box) c.1 h fun v j n=>m v j ⟨n,c.2⟩
theorem AP (c:List (aq P)) (e:List (fJ P b ty cs)) {z:List Nat} {f:Array Oper} {Q:Exit->Act->World->Prop}:
  ∀(l:List Oper) (k:Nat) (s s':AS) (a:Act) (w:World),(∀(j:Nat) o,l[j]?=some o->f[k+j]?=some o)->gB P (c.map aq.a++e.map fJ.a) z f (l.zipIdx k) s=some s'->kQ b ty w0 O X s cs a w->
   (∀q p,kQ b ty w0 O X s' cs q p->Q .normal q p)->wpOps P f Q (List.range' k l.length) a w
 |[],k,s,s',a,w,_,h,r,g=>by
  simp only[aek,gB]at h;injection h with h
  subst h;exact g a w r
 |o::l,k,s,s',a,w,t,h,r,g=>by
  simp only[adQ,gB]at h;split at h
  ·rename_i A m;simp only[acC,acW,wpOps];have x:f[k]?=some o:=by have:=t 0 o rfl;simpa using this
   rw[x];simp only;have:=KE (Q:=Q) c e r m (K:=wpOps P f Q (List.range' (k+1) l.length)) (fun v p y=>AP c e l (k+1) A s' _ _ (fun j o u=>by have:=t (j+1) o (by simpa using u);rwa[show k+(j+1)=k+1+j by omega]at this) h y g);split at this
   ·rename_i n;rw[if_pos n];exact .inl this
   rename_i n;rw[if_neg n];exact this
  cases h
theorem vJ (g:List (fJ P b ty cs)) (f:List (aq P)) (m:List Nat) {id:Nat} (h:aY P (f.map aq.a++g.map fJ.a) m (aK e e.toList 0) (some s) (fun s'=>Q .normal s' cs)):WpG P b ty (.region id e false) Q s cs:=fun w0 O X a w r=>by
 obtain⟨s',p,q⟩:=aP P _ m e e.toList 0 s _ h;refine wp_region ?_;rw[acK];have:=AP (w0:=w0) (O:=O) (X:=X) f g (Q:=fun c l n=> ∃s' k,Q c s' k/\kQ b ty w0 O X s' k l n) e.toList 0 s s' a w (fun j o t=>by simpa using t) p r (fun l n u=>⟨s',cs,q,u⟩);simpa using this
theorem rT (g:List (fJ P b ty cs)) (f:List (aq P)) (j:List Nat) {id:Nat} (h: ∀K:AS->Prop,(∀s',WpG P b ty c Q s' cs->K s')->aY P (f.map aq.a++g.map fJ.a) j (aK e e.toList 0) (some s) K):WpG P b ty (.seq (.region id e false) c) Q s cs:=
 tA (vJ g f j (h _ fun _ h=>h))
end
end
end Go.Proofs.YtalmoejhjceflaaGreat
