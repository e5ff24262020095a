/-
  Part 9 of a proof (walks and plain facts).
-/
import Derived.Test.YtalmoejhjceflaaGreatP07
import Derived.Lib.SliceRun
import Derived.Shelf.Small.Bits
import Derived.Ground.NamesProg
import Derived.Test.YtalmoejhjceflaaGreatProg
set_option linter.all false
set_option maxRecDepth 100000
set_option maxHeartbeats 64000000
namespace Go.Proofs.YtalmoejhjceflaaGreat
open Go.RowKit Go.Proofs.Tryz
variable {w W:World} {b:Array Oper} {c e:Code} {f g:Nat->Prop} {h:FuncId} {j:Operand} {n:Nat} {l:Value} {m:List Nat} {o:List PV} {p:TV} {q:Oper} {r:TypeId} {s:AS} {t:OH} {u:Rho}
section
theorem bO.later {w:World} (z: ∀b,b<w.heap.size->g b->f b) (B:w.heap.size<=W.heap.size) (A: ∀p l,p.block<w.heap.size-> ¬f p.block->w.cell? p=some l->W.cell? p=some l) {x:PV} (h:bO f w x l):bO g W x l:=by
 induction h with
 |raw l h=>exact .raw l h
 |nil a c=>exact .nil a c
 |sl b q D cap H m r n u s F o G y=>exact .sl b q D cap H m (fun h=>r (z _ n h)) (XZ n B) u s F (fun i e j x t E=>A ⟨b,_,none⟩ _ n r (o i e j x t E)) y
 |ptr b q C m r n o G y=>exact .ptr b q C m (fun h=>r (z _ n h)) (XZ n B) (fun j x t=>A ⟨b,_,none⟩ _ n r (o j x t)) y
theorem iq {p:Addr} (h:W.heap[p.block]?=w.heap[p.block]?):W.cell? p=w.cell? p:=by unfold World.cell?;rw[h]
def jY (b:Nat) (f:TypeId) (e:List PV) (Y:Nat->Prop) (w:World):Prop:=
 ∃(cells:Array Value) (c:Nat),w.heap[b]?=some (.cells cells f (0,0))/\cells.size=c*e.length/\1<=c/\c<=9223372036854775807/\0<e.length/\
  ∀(j:Nat) x,e[j]?=some x-> ∃v:Value,cells[j]?=some v/\v.oneCell'=true/\bO Y w x v
theorem jY.later {w:World} (y: ∀j,j<w.heap.size->g j->f j) (D:w.heap.size<=W.heap.size) (z:W.heap[n]?=w.heap[n]?) (A: ∀j,j<w.heap.size-> ¬f j->W.heap[j]?=w.heap[j]?) (h:jY n r o f w):jY n r o g W:=by
 obtain⟨cells,c,e,l,m,q,s,t⟩:=h;refine⟨cells,c,by rw[z];exact e,l,m,q,s,fun j x F=>?_⟩;obtain⟨v,G,H,I⟩:=t j x F;exact⟨v,G,H,I.later y D fun p u C B E=>by rw[iq (A p.block C B)];exact E⟩
theorem jY.weaken (c: ∀j,j<w.heap.size->g j->f j) (h:jY n r o f w):jY n r o g w:=
 h.later c (XY _) rfl fun _ _ _=>rfl
section
variable {P:Program} {b:Nat} {ty:TypeId} {cs cs':List PV} {w0 w:World} {O X:Nat->Prop} {s s':AS} {a:Act}
def gG (b:Nat) (ty:TypeId) (w0:World) (O X:Nat->Prop) (s:AS) (cs:List PV) (a:Act) (w:World):Prop:=
 a.defers=[]/\a.tmps.size=s.tmps.length/\ ∃c,Inv w0 O X s.H c w/\aT X c s a w/\O b/\X b/\jY b ty cs (Xo X c s.H) w
theorem gG.rel (h:gG b ty w0 O X s cs a w):de w0 O X s a w:=by
 obtain⟨c,e,j,f,g,_⟩:=h;exact⟨c,e,j,f,g⟩
theorem gG.rebase (h:gG b ty w0 O X s cs a w): ∃Own:Nat->Prop,de w Own X s a w/\ ∀E y F,de w Own X E y F->gG b ty w0 O X E cs y F:=by
 obtain⟨J,A,G,e,B,K,z,t⟩:=h;refine⟨fun j=> ∃(x r:Nat) (o:OObj) (c:Nat),(s.H x)[r]?=some o/\G x r=some (j,c),⟨J,A,G,⟨Keep.refl w,e.objs,e.inj,fun x r o j c v m=>⟨.inr ⟨x,r,o,c,v,m⟩,(e.old x r o j c v m).2⟩,e.bar,e.self⟩,B⟩,?_⟩;rintro E y F ⟨L,C,I,f,D⟩;have l: ∀j,(∃(x r:Nat) (o:OObj) (c:Nat),(s.H x)[r]?=some o/\G x r=some (j,c))->(w0.heap.size<=j\/O j)/\ ¬X j:=fun j ⟨x,r,o,c,p,q⟩=>e.old x r o j c p q
 refine⟨L,C,I,⟨⟨f.keep.os.trans e.keep.os,f.keep.tape.trans e.keep.tape,f.keep.output.trans e.keep.output,XQ e.keep.size f.keep.size,fun j m u=>?_⟩,f.objs,f.inj,fun x r o j c v m=>?_,f.bar,f.self⟩,D,K,z,?_⟩
 ·rw[f.keep.block j (XZ m e.keep.size) (fun n=>by
   rcases(l j n).1 with h|h
   ·omega
   exact u h)]
  exact e.keep.block j m u
 ·obtain⟨p,q⟩:=f.old x r o j c v m;refine⟨?_,q⟩;rcases p with g|g
  ·exact .inl (XQ e.keep.size g)
  exact(l j g).1
 refine t.later (fun j m n=>?_) f.keep.size (f.keep.block b (e.bar b z) (fun n=>(l b n).2 z)) (fun j m u=>f.keep.block j m (fun n=>u (.inr n)));rcases n with n|⟨x,r,o,c,p,q⟩
 ·exact .inl n
 rcases(f.old x r o j c p q).1 with g|g
 ·omega
 exact .inr g
def dG (P:Program) (b:Nat) (ty:TypeId) (c:Code) (Q:Exit->AS->List PV->Prop) (s:AS) (cs:List PV):Prop:=
 ∀(w0:World) (O X:Nat->Prop) (a:Act) (w:World),gG b ty w0 O X s cs a w->c.wp P (fun e f g=> ∃s' cs',Q e s' cs'/\gG b ty w0 O X s' cs' f g) a w
def wQ (next:AS->List PV->Prop) (Q:Exit->AS->List PV->Prop):Exit->AS->List PV->Prop
 | .normal,s,k=>next s k
 |e,s,k=>Q e s k
def Ee (id:Nat) (Q:Exit->AS->List PV->Prop):Exit->AS->List PV->Prop
 | .exit c,s,k=>if c=id then Q .normal s k else Q (.exit c) s k
 |e,s,k=>Q e s k
variable {Q:Exit->AS->List PV->Prop}
theorem D1 (h:bs P c (fun e s'=>Q e s' cs) s):dG P b ty c Q s cs:=fun w0 O X a w r=>by
 obtain⟨Own,j,l⟩:=r.rebase;exact wp_mono (h _ _ _ _ _ j) fun e m n ⟨s',f,g⟩=>⟨s',cs,f,l _ _ _ g⟩
theorem dG.weak (h:bv s s') (k:dG P b ty c Q s' cs):dG P b ty c Q s cs:=fun _ _ _ _ _ r=>by
 obtain⟨Own,e,f⟩:=r.rebase;exact k _ _ _ _ _ (f _ _ _ (h _ _ _ _ _ e))
theorem gG.weak (h:bv s s') (r:gG b ty w0 O X s cs a w):gG b ty w0 O X s' cs a w:=by
 obtain⟨Own,c,e⟩:=r.rebase;exact e _ _ _ (h _ _ _ _ _ c)
theorem dG.mono {f:Exit->AS->List PV->Prop} (h:dG P b ty c Q s cs) (k: ∀e s' cs',Q e s' cs'->f e s' cs'):dG P b ty c f s cs:=fun _ _ _ _ _ r=>
 wp_mono (h _ _ _ _ _ r) fun _ _ _ ⟨s',cs',g,j⟩=>⟨s',cs',k _ _ _ g,j⟩
theorem iG (h:Q .normal s cs):dG P b ty .skip Q s cs:=fun _ _ _ _ _ r=>wp_skip ⟨s,cs,h,r⟩
theorem Bw {id:Nat} (h:Q (.exit id) s cs):dG P b ty (.exit id) Q s cs:=fun _ _ _ _ _ r=>wp_exit ⟨s,cs,h,r⟩
theorem lI (h:Q .ret s cs):dG P b ty .ret Q s cs:=fun _ _ _ _ _ r=>wp_ret ⟨s,cs,h,r⟩
theorem bZ (h:dG P b ty c (wQ (dG P b ty e Q) Q) s cs):dG P b ty (.seq c e) Q s cs:=fun _ _ _ _ _ r=>
 wp_seq (wp_mono (h _ _ _ _ _ r) fun f a w ⟨s',cs',g,j⟩=>by
  cases f with
  |normal=>exact g _ _ _ _ _ j
  |_=>exact⟨s',cs',g,j⟩)
theorem cz {id:Nat} (h:dG P b ty c (Ee id Q) s cs):dG P b ty (.block id c) Q s cs:=fun _ _ _ _ _ r=>
 wp_block (wp_mono (h _ _ _ _ _ r) fun e a w ⟨s',cs',f,g⟩=>by
  cases e with
  |exit j=>
   simp only[Ee]at f;simp only[Exit.inBlock];split at f
   ·rename_i hid;rw[if_pos hid];exact⟨s',cs',f,g⟩
   rename_i hid;rw[if_neg hid];exact⟨s',cs',f,g⟩
  |_=>exact⟨s',cs',f,g⟩)
theorem Bv {v:Bool} (m:s.ev j=some (.raw (.bool v))) (p:v=true->dG P b ty c Q s cs) (n:v=false->dG P b ty e Q s cs):dG P b ty (.cond j c e) Q s cs:=fun _ _ _ _ _ r=>by
 obtain⟨q,o,t,g,f,_⟩:=id r;have l:=(aU (bf f j _ m)).1;exact wp_cond_split l (fun h=>p h _ _ _ _ _ r) (fun h=>n h _ _ _ _ _ r)
theorem gO (f:s.ev j=some (.raw (.bool true))) (h:dG P b ty c Q s cs):dG P b ty (.cond j c e) Q s cs:=Bv f (fun _=>h) (fun h=>by cases h)
theorem cb (f:s.ev j=some (.raw (.bool false))) (h:dG P b ty e Q s cs):dG P b ty (.cond j c e) Q s cs:=Bv f (fun h=>by cases h) (fun _=>h)
theorem rh (f:s.ev j=some (.raw (.bool true))) (h:dG P b ty e Q s cs):dG P b ty (.seq (.cond j .skip c) e) Q s cs:=bZ (gO f (iG h))
theorem rc {id:Nat} (f:s.ev j=some (.raw (.bool false))) (h:Q (.exit id) s cs):dG P b ty (.seq (.cond j c (.exit id)) e) Q s cs:=bZ (cb f (Bw h))
theorem K8 {G:Type} (St:G->AS) (Sc:G->List PV) (q:G->Nat) (t:G) (F:bv s (St t)) (u:Sc t=cs) (round: ∀g,dG P b ty c (wQ (fun s' cs'=> ∃j,q j<q g/\bv s' (St j)/\Sc j=cs') Q) (St g) (Sc g)):dG P b ty (.loop c) Q s cs:=fun w0 O X a w r=>by
 classical
 subst u
 let p:Act->World->Nat->Prop:=fun a w n=> ∃g,q g=n/\gG b ty w0 O X (St g) (Sc g) a w
 let m:Act->World->Nat:=fun a w=>if h: ∃n,p a w n then Classical.choose (bo h)else 0
 refine wp_loop (fun a w=> ∃n,p a w n) m ⟨_,t,rfl,r.weak F⟩ ?_;intro a w v;have I:m a w=Classical.choose (bo v):=dif_pos v;obtain⟨D,o⟩:=Za (bo v);rw[<- I]at D;obtain⟨g,L,J⟩:=D;refine wp_mono (round g _ _ _ _ _ J) fun e A E ⟨s',cs',B,C⟩=>?_
 cases e with
 |normal=>
  obtain⟨j,H,K,x⟩:=B;subst x;have l:=C.weak K;have f: ∃n,p A E n:=⟨_,j,rfl,l⟩;refine⟨f,?_⟩;have z:m A E=Classical.choose (bo f):=dif_pos f;obtain⟨_,y⟩:=Za (bo f);have:=y (q j) ⟨j,rfl,l⟩;rw[z];omega
 |_=>exact⟨s',cs',B,C⟩
theorem jE {G:Type} (St:G->AS) (Sc:G->List PV) (j:G->Nat) (f:G) {id:Nat} (l:bv s (St f)) (h:Sc f=cs) (round: ∀g,dG P b ty c (wQ (fun s' cs'=> ∃e,j e<j g/\bv s' (St e)/\Sc e=cs') (Ee id Q)) (St g) (Sc g)):dG P b ty (.block id (.loop c)) Q s cs:=
 cz (K8 St Sc j f l h round)
/-! Regions without lent calls. -/
theorem ux (e:List (an P)) (g:List Nat) {id:Nat} {f:Array Oper} (h: ∀K:AS->Prop,(∀s',dG P b ty c Q s' cs->K s')->aV P (e.map an.a) g (aJ f f.toList 0) (some s) K):dG P b ty (.seq (.region id f false) c) Q s cs:=
 bZ (D1 (tl e g (h _ fun _ h=>h)))
theorem K9 (c:List (an P)) (f:List Nat) {id:Nat} {e:Array Oper} (h: ∀K:AS->Prop,(∀s',Q .normal s' cs->K s')->aV P (c.map an.a) f (aJ e e.toList 0) (some s) K):dG P b ty (.region id e false) Q s cs:=
 D1 (tl c f (h _ fun _ h=>h))
theorem Iq (j:P.follows .mixedOrders=true) (c:List (an P)) (f:List Nat) {id:Nat} {e:Array Oper} (g:bX [] e=true) (h: ∀K:AS->Prop,(∀s',Q .normal s' cs->K s')->aV P (c.map an.a) f (aJ e e.toList 0) (some s) K):dG P b ty (.region id e true) Q s cs:=
 D1 (nC j c f g (by simp) (fun x l=>by simp at l) (h _ fun _ h=>h))
theorem nE {id:Nat} {e:Array Oper} (h: ∀K:AS->Prop,(∀s',dG P b ty c Q s' cs->K s')->aV P [] [] (aJ e e.toList 0) (some s) K):dG P b ty (.seq (.region id e false) c) Q s cs:=ux [] [] h
theorem Ir {id:Nat} {c:Array Oper} (h: ∀K:AS->Prop,(∀s',Q .normal s' cs->K s')->aV P [] [] (aJ c c.toList 0) (some s) K):dG P b ty (.region id c false) Q s cs:=K9 [] [] h
theorem D0 (f:P.follows .mixedOrders=true) {id:Nat} {c:Array Oper} (e:bX [] c=true) (h: ∀K:AS->Prop,(∀s',Q .normal s' cs->K s')->aV P [] [] (aJ c c.toList 0) (some s) K):dG P b ty (.region id c true) Q s cs:=Iq f [] [] e h
end
def gn (P:Program) (b:Nat) (l:TypeId) (f:FuncId) (args:List TV) (m:List PV) (res:CallRes) (g:List PV):Prop:=
 callable P f=true/\ ∀(X:Nat->Prop) (w:World) (vs:Array Value),(∀j,X j->j<w.heap.size)->X b->jY b l m X w->vs.size=args.length->
  (∀(j:Nat) t,args[j]?=some t-> ∃v:Value,vs[j]?=some v/\t.rel (fun _ _=>none) (fun _=>[]) X w v)->
  Calls P f vs w fun e h=> ∃v,e= .returned v/\ ∃c:Rho,Inv w (fun j=>j=b) X (famH 0 res.fam) c h/\res.r.rel c (famH 0 res.fam) (Xo X c (famH 0 res.fam)) h v/\jY b l g (Xo X c (famH 0 res.fam)) h
section
variable {P:Program} {b:Nat} {ty:TypeId} {cs cs':List PV} {w0 w:World} {O X:Nat->Prop} {ρ:Rho} {s:AS} {a:Act}
theorem Ct {Q:dc P} {d:Nat} (h1:a.defers=[]) (ab:a.tmps.size=s.tmps.length) (m:Inv w0 O X s.H ρ w) (ap:aT X ρ s a w) (hO:O b) (hX:X b) {F:List OObj} (ht:renTV d Q.res.r=p) (hF:Q.res.fam.map (renO d)=F) (hd:F≠[]->s.H d=[]) {ρc:Rho} (hi:Inv w (fun j=>j=b) (Xo X ρ s.H) (famH 0 Q.res.fam) ρc W) (J:Q.res.r.rel ρc (famH 0 Q.res.fam) (Xo (Xo X ρ s.H) ρc (famH 0 Q.res.fam)) W l) (R:jY b ty cs' (Xo (Xo X ρ s.H) ρc (famH 0 Q.res.fam)) W):gG b ty w0 O X (ji s d p F) cs' (a.put (some d) l) W:=by
 have A:But b w W:=⟨hi.keep.os,hi.keep.tape,hi.keep.output,hi.keep.size,fun k hk a1=>hi.keep.block k hk a1⟩;have af: ∀(x r:Nat) o M c,(s.H x)[r]?=some o->ρ x r=some (M,c)->W.heap[M]?=w.heap[M]?:=fun x r o M c q N=>A.block M (bI (m.objs x r o q) N) (by rintro rfl;exact(m.old x r o M c q N).2 hX)
 by_cases S:Q.res.fam=[]
 ·rw[S]at hi J R;have Y:F=[]:=by rw[<- hF,S];rfl
  subst Y;have mono: ∀x u,AV.rel ρ s.H (Xo X ρ s.H) w x u->AV.rel ρ s.H (Xo X ρ s.H) W x u:=fun x u C=>mO (.inl hX) A (fun a r o q=>⟨o,q,rfl,XY _,rfl⟩) (fun a r o M c q hb _=> .inr ⟨a,r,o,c,q,hb⟩) C
  have E:Inv w0 O X s.H ρ W:=⟨m.keep.but A (.inr hO),fun x r o q=>dx (m.objs x r o q) rfl (fun M c N=>af x r o M c q N) mono,m.inj,m.old,fun j G=>XZ (m.bar j G) A.size,m.self⟩;have T:aT X ρ s a W:=fun k x C=>by
   obtain⟨u,g1,U⟩:=ap k x C;exact⟨u,g1,TV.rel_map U mono⟩
  have hv:p.rel ρ s.H (Xo X ρ s.H) W l:=by
   rw[<- ht];exact nX J (fun x u C=>tK (fun r V B=>by simp at B) (fun j _ G=> .inl G) C)
  show gG b ty w0 O X (s.put (some d) p) cs' _ _;refine⟨by rw[gk];exact h1,by rw[jR,eY];exact ab,ρ,by rw[fj];exact E,oY ab T hv,hO,hX,?_⟩;rw[fj];exact R.weaken fun j _ G=> .inl G
 have Y:F≠[]:=by rw[<- hF];simpa using S
 have a0:=hd Y;have al:ji s d p F=AS.put ⟨s.tmps,aw s.H d F⟩ (some d) p:=by
  unfold ji;rw[if_neg (by simpa using Y)]
 rw[al]
 let f:Nat->Option (Nat×Nat):=fun r=>if r<Q.res.fam.length then ρc 0 r else none
 have aa: ∀r j n,f r=some (j,n)->(∃V,Q.res.fam[r]?=some V)/\ρc 0 r=some (j,n):=fun r j n h=>by
  simp only[f]at h;split at h
  ·rename_i ae;exact⟨⟨_,X0 ae⟩,h⟩
  cases h
 have L: ∀(r j n:Nat),f r=some (j,n)->w.heap.size<=j:=fun r j n h=>by
  obtain⟨⟨V,B⟩,g⟩:=aa r j n h;have:=hi.old 0 r V j n (by simpa[famH] using B) g;rcases this.1 with h|h
  ·exact h
  exact absurd (h▸ .inl hX) this.2
 have ad: ∀j,Xo X (newρ ρ d f) (aw s.H d F) j->Xo (Xo X ρ s.H) ρc (famH 0 Q.res.fam) j:=fun j G=>by
  rcases G with G|⟨x',y',V,n,g1,U⟩
  ·exact .inl (.inl G)
  by_cases y:x'=d
  ·subst y;rw[newρ_eq]at U;obtain⟨⟨o2,I⟩,g3⟩:=aa y' j n U;exact .inr ⟨0,y',o2,n,by simpa[famH] using I,g3⟩
  rw[ay y]at g1;rw[newρ_ne y]at U;exact .inl (.inr ⟨x',y',V,n,g1,U⟩)
 have mono: ∀x u,AV.rel ρ s.H (Xo X ρ s.H) w x u->AV.rel (newρ ρ d f) (aw s.H d F) (Xo X (newρ ρ d f) (aw s.H d F)) W x u:=fun x u C=>by
  refine mO (.inl hX) A (fun x r o q=>?_) (fun x r o M c q hb ae=>?_) C
  ·have y:x≠d:=by rintro rfl;rw[a0]at q;simp at q
   exact⟨o,by rw[ay y];exact q,rfl,XY _,newρ_ne y r⟩
  by_cases y:x=d
  ·subst y;rw[newρ_eq]at hb;have:=L r M c hb;omega
  rw[ay y]at q;rw[newρ_ne y]at hb;exact .inr ⟨x,r,o,c,q,hb⟩
 have ac: ∀x u,AV.rel ρc (famH 0 Q.res.fam) (Xo (Xo X ρ s.H) ρc (famH 0 Q.res.fam)) W x u->AV.rel (newρ ρ d f) (aw s.H d F) (Xo X (newρ ρ d f) (aw s.H d F)) W (b6 d x) u:=fun x u C=>by
  refine tK (fun r V B=>?_) (fun j _ G=>ad j G) C;rw[aI,newρ_eq];simp only[f];rw[if_pos (XN.1 B).1,<- hF,XK,B];exact⟨rfl,rfl⟩
 have E:Inv w0 O X (aw s.H d F) (newρ ρ d f) W:=by
  refine⟨m.keep.but A (.inr hO),fun x r o q=>?_,fun x r x' r' o V j c c' q B J D=>?_,fun x r o j c q J=>?_,fun j G=>XZ (m.bar j G) A.size,fun x r o q=>?_⟩
  ·by_cases y:x=d
   ·subst y;rw[aI,<- hF,XK]at q;obtain⟨o2,I,rfl⟩:=XI.1 q;have ag:=hi.objs 0 r o2 (by simpa[famH] using I);obtain⟨z1,z2,z3⟩:=ag;refine⟨fun e he=>?_,z2,?_⟩
    ·simp only[renO,XR]at he;obtain⟨e',Z,rfl⟩:=he;rw[YB];exact z1 e' Z
    rw[newρ_eq];simp only[f];rw[if_pos (XN.1 I).1];cases ah:ρc 0 r with
    |none=>rw[ah]at z3;simp[renO,z3]
    |some bc=>
     obtain⟨j,n⟩:=bc;rw[ah]at z3;obtain⟨cells,p1,p2,p3,p4,p5⟩:=z3;refine⟨cells,p1,p2,by simpa[renO] using p3,p4,fun i e j z he hz=>?_⟩;simp only[renO,XK]at he;obtain⟨e',Z,rfl⟩:=XI.1 he;rw[XK]at hz;obtain⟨z',av,rfl⟩:=XI.1 hz;obtain⟨u,u1,u2,u3⟩:=p5 i e' j z' Z av;exact⟨u,u1,u2,ac z' u u3⟩
   rw[ay y]at q;exact dx (m.objs x r o q) (newρ_ne y r) (fun M c N=>af x r o M c q N) mono
  ·by_cases C:x=d
   ·subst C;rw[newρ_eq]at J;by_cases K:x'=x
    ·subst K;rw[newρ_eq]at D;obtain⟨⟨o1,a2⟩,g1⟩:=aa r j c J;obtain⟨⟨o2,I⟩,U⟩:=aa r' j c' D;exact⟨rfl,(hi.inj 0 r 0 r' o1 o2 j c c' (by simpa[famH] using a2) (by simpa[famH] using I) g1 U).2⟩
    rw[newρ_ne K]at D;rw[ay K]at B;have:=bI (m.objs x' r' V B) D;have:=L _ _ _ J;omega
   rw[newρ_ne C]at J;rw[ay C]at q;by_cases K:x'=d
   ·subst K;rw[newρ_eq]at D;have:=bI (m.objs x r o q) J;have:=L _ _ _ D;omega
   rw[newρ_ne K]at D;rw[ay K]at B;exact m.inj x r x' r' o V j c c' q B J D
  ·by_cases C:x=d
   ·subst C;rw[newρ_eq]at J;have:=L _ _ _ J;have hk:=m.keep.size;exact⟨.inl (by omega),fun hX=>by have:=m.bar j hX;omega⟩
   rw[newρ_ne C]at J;rw[ay C]at q;exact m.old x r o j c q J
  by_cases C:x=d
  ·subst C;rw[aI,<- hF,XK]at q;obtain⟨o2,I,rfl⟩:=XI.1 q;intro e he z hz;simp only[renO,XR]at he;obtain⟨e',Z,rfl⟩:=he;simp only[XR]at hz;obtain⟨z',av,rfl⟩:=hz;exact dj _ _
  rw[ay C]at q;exact m.self x r o q
 have T:aT X (newρ ρ d f) ⟨s.tmps,aw s.H d F⟩ a W:=fun k x C=>by
  obtain⟨u,g1,U⟩:=ap k x C;exact⟨u,g1,TV.rel_map U mono⟩
 have hv:p.rel (newρ ρ d f) (aw s.H d F) (Xo X (newρ ρ d f) (aw s.H d F)) W l:=by
  rw[<- ht];exact nX J ac
 refine⟨by rw[gk];exact h1,by rw[jR,eY];exact ab,newρ ρ d f,by rw[fj];exact E,oY (s:=⟨s.tmps,aw s.H d F⟩) ab T hv,hO,hX,?_⟩;rw[fj];exact R.weaken fun j _ G=>ad j G
theorem MU (h:ng (gI t p)=true):gI t p=p:=by
 unfold gI at h⊢;split
 ·rename_i a r c len;simp only at h;split at h<;>cases h
 ·cases h
 rfl
theorem yz {C:OH} {m:TV} (h:ng m=true) (B:m.rel ρ t f w l):m.rel u C g W l:=by
 have y: ∀x n,qh x=true->AV.rel ρ t f w x n->AV.rel u C g W x n:=fun x n o N=>by
  cases x with
  |p x=>
   cases x with
   |raw z=>
    obtain⟨rfl,G⟩:=aU (ρ:=ρ) (H:=t) N;exact bO.raw _ G
   |sl T=>cases o
   |ptr cs=>cases o
  |sl a r Q len=>cases o
  |ptr a r i j=>cases o
  |junk=>cases o
  |fn=>cases o
 have agg: ∀cs l,cs.all qh=true->bC ρ t f w cs l->bC u C g W cs l:=fun cs l K ⟨vs,D,E,F⟩=>by
  simp only[XO]at K;exact⟨vs,D,E,fun j x o=>by obtain⟨n,I,A,J⟩:=F j x o;exact⟨n,I,A,y x n (K x (XH o)) J⟩⟩
 cases m with
 |one x=>exact y x l h B
 |agg cs=>exact agg cs l h B
 |fn e cs=>obtain⟨n,G,M⟩:=B;exact⟨n,agg cs n h G,M⟩
 |tup S=>
  simp only[ng,XO]at h;obtain⟨vs,D,E,F⟩:=B;refine⟨vs,D,E,fun j c cs L=>?_⟩;obtain⟨n,I,A⟩:=F j c cs L;have q:=h (c,cs) (XH L);refine⟨n,I,?_⟩;rcases A with⟨A,J⟩|⟨A,x,rfl,R⟩
  ·exact .inl ⟨A,agg _ _ (by simpa only[XO] using q) J⟩
  exact .inr ⟨A,_,rfl,y x n (q x (by simp)) R⟩
def Nm:PV->Bool
 | .raw _=>true
 |_=>false
def jM (args:List TV) (res:CallRes) (cs:List PV):Bool:=args.all ng||!res.plain||cs.all Nm
theorem jY.raw {Y g:Nat->Prop} (e:cs.all Nm=true) (h:jY b ty cs Y w):jY b ty cs g w:=by
 obtain⟨cells,c,l,m,n,o,p,q⟩:=h;refine⟨cells,c,l,m,n,o,p,fun j x f=>?_⟩;obtain⟨v,r,t,u⟩:=q j x f;rw[XO]at e;have:=e x (XH f);cases x with
 |raw z=>cases u with|raw _ h=>exact⟨_,r,t,.raw _ h⟩
 |sl y=>cases this
 |ptr cs=>cases this
theorem ya {m:dc P} {d:Nat} (h1:a.defers=[]) (T:a.tmps.size=s.tmps.length) (g:Inv w0 O X s.H ρ w) (U:aT X ρ s a w) (hO:O b) (K:X b) (I:jY b ty cs (Xo X ρ s.H) w) (L:jM m.args m.res cs'=true) (q:gn P b ty m.f m.args cs m.res cs') {Z:List TV} (W:Z.map (gI s.H)=m.args) (c3:Z.all (d8 m.res.plain s.H)=true) {vs:Array Value} (V:vs.size=Z.length) (hv: ∀(j:Nat) p,Z[j]?=some p-> ∃v:Value,vs[j]?=some v/\p.rel ρ s.H (Xo X ρ s.H) w v) {F:List OObj} (ht:renTV d m.res.r=p) (hF:m.res.fam.map (renO d)=F) (R:F≠[]->s.H d=[]):
  Calls P m.f vs w fun e w1=> ∃v,e= .returned v/\gG b ty w0 O X (ji s d p F) cs' (a.put (some d) v) w1:=by
 obtain⟨_,q⟩:=q;have A: ∀j,Xo X ρ s.H j->j<w.heap.size:=fun j C=>by
  rcases C with C|⟨x,y,o',n,g1,g2⟩
  ·exact g.bar j C
  exact bI (g.objs x y o' g1) g2
 simp only[XO]at c3;by_cases l:m.args.all ng=true\/m.res.plain=false
 ·refine(q (Xo X ρ s.H) w vs A (.inl K) I ?_ ?_).mono ?_
  ·rw[<- W];simp[V]
  ·intro j u Q;have hu0:=Q;rw[<- W,XK]at Q;obtain⟨t0,D,rfl⟩:=XI.1 Q;obtain⟨v,v1,v2⟩:=hv j t0 D;refine⟨v,v1,?_⟩;rcases l with J|G
   ·have M:ng (gI s.H t0)=true:=by
     rw[XO]at J;exact J _ (XH hu0)
    have ac:=MU M;rw[ac]at M⊢;exact yz M v2
   have:=c3 t0 (XH D);rw[G]at this;exact p7 g.objs (fun _ h=>h) (fun h=>by cases h) v2 this
  rintro e w1 ⟨v,rfl,N,Y,hr,B⟩;exact⟨v,rfl,Ct h1 T g U hO K ht hF R Y hr B⟩
 have ad:m.args.all ng=false:=by simpa using fun h=>l (.inl h)
 have G:m.res.plain=true:=by simpa using fun h=>l (.inr h)
 have ab:cs'.all Nm=true:=by
  unfold jM at L;rw[ad,G]at L;simpa using L
 have z:=G;unfold CallRes.plain at z;rw[Yh]at z;have S:m.res.fam=[]:=aaF.1 z.1;refine(q (fun j=>j=b) w vs (fun j C=>by subst C;exact A j (.inl K)) rfl (I.weaken fun j _ C=>by subst C;exact .inl K) ?_ ?_).mono ?_
 ·rw[<- W];simp[V]
 ·intro j u Q;rw[<- W,XK]at Q;obtain⟨t0,D,rfl⟩:=XI.1 Q;obtain⟨v,v1,v2⟩:=hv j t0 D;refine⟨v,v1,?_⟩;exact yr g.objs (fun j C=>by subst C;exact .inl K) (fun _ x y o b' c E B aa=>by subst aa;exact(g.old x y o b' c E B).2 K) v2 (c3 t0 (XH D))
 rintro e w1 ⟨v,rfl,N,Y,hr,B⟩;refine⟨v,rfl,Ct h1 T g U hO K ht hF R (ρc:=N) ?_ (yz z.2 hr) (B.raw ab)⟩;rw[S];exact⟨Y.keep,fun x r o E=>by simp[famH]at E,fun x r x' r' o o' j c c' E=>by simp[famH]at E,fun x r o j c E=>by simp[famH]at E,fun j C=>XZ (A j C) Y.keep.size,fun x r o E=>by simp[famH]at E⟩
theorem P7 {u:List (dc P)} {i:Nat} {s1:AS} (V:gG b ty w0 O X s cs a w) {c:Call} (N:q.op= .call c) (l:c.callee= .value j) (hy:(∃f,j= .func f)\/ ∃k,j= .tmp k) {R:dc P} (U:u.find? (·.i==i)=some R) (G:jM R.args R.res cs'=true) (z:gn P b ty R.f R.args cs R.res cs') (h:dL P u m i q s=some s1) {K:Act->World->Prop} {Q:Exit->Act->World->Prop} (hK: ∀v w',gG b ty w0 O X s1 cs' (a.put q.dst v) w'->K (a.put q.dst v) w'):q.wp P a w K Q:=by
 obtain⟨h1,W,ρ,E,B,hO,hX,C⟩:=V;have hM:oN q.op=false:=by rw[N];show TU c.callee=false;rw[l];rfl
 have hR:xg q.op=false:=by
  obtain⟨callee,args,ae⟩:=c;simp only at l;subst l;rw[N];rfl
 have hD:fD P s.ev s.H q.op=none:=by
  obtain⟨callee,args,ae⟩:=c;simp only at l;subst l;rw[N];rfl
 unfold dL at h;simp only[hM,hR,hD,YD,if_false]at h;obtain⟨d,t,F,D,p,T,ac⟩: ∃d t F,q.dst=some d/\b8 P u m i d s.ev s.H q.op=some (t,F)/\(F≠[]->s.H d=[])/\s1=ji s d t F:=by
  split at h
  ·cases h
  rename_i d hd;split at h
  ·rename_i t J;injection h with h
   exact⟨d,t,[],hd,J,fun h=>absurd rfl h,by rw[<- h];rfl⟩
  ·rename_i t F S J;split at h
   ·rename_i hH;injection h with h
    refine⟨d,t,F,hd,J,fun _=>hH,?_⟩;rw[<- h];unfold ji;rw[if_neg (by intro h;exact S (aaF.1 h))]
   cases h
  cases h
 subst ac;rw[N]at p;rcases hy with⟨f,rfl⟩|⟨k,rfl⟩
 ·simp only[b8,l]at p;rw[U]at p;split at p
  ·rename_i ad ts n L;injection n with n
   subst n;split at p
   ·rename_i hc;obtain⟨c1,c2,c3,_⟩:=hc;injection p with p
    injection p with J S
    subst c1;obtain⟨I,e2⟩:=bU L;have A:=jS (w:=w) N l (e:=a.eval) rfl z.1;unfold Oper.wp;rw[A];simp only[Oper.upon];refine(ya h1 W E B hO hX C G z c2 c3 (vs:=c.args.map a.eval) (by simp[I]) (fun g t0 r=>?_) J S T).mono ?_
    ·obtain⟨x,Y,M⟩:=e2 g t0 r;exact⟨a.eval x,by rw[YC];simp at Y;rw[Y];rfl,bf B x t0 M⟩
    rintro e Z ⟨v,rfl,hr⟩;show K (a.put q.dst v) Z;refine hK v Z ?_;rw[D];exact hr
   cases p
  cases p
 simp only[b8,l]at p;rw[U]at p;split at p
 ·rename_i f aa ad ts ab n L;injection n with n
  subst n;split at p
  ·rename_i hc;obtain⟨c1,c2,c3,_⟩:=hc;injection p with p
   injection p with J S
   subst c1;obtain⟨I,e2⟩:=bU L;obtain⟨us,k1,k2,k3⟩:=jt (v:=a.eval (.tmp k)) (fun t0 r=>bf B (.tmp k) t0 r) ab;have A:=jB (w:=w) N l (e:=a.eval) k1 z.1;unfold Oper.wp;rw[A];simp only[Oper.upon];refine(ya h1 W E B hO hX C G z c2 c3 (vs:=c.args.map a.eval++us) (by simp[I,k2]) (fun g t0 r=>?_) J S T).mono ?_
   ·by_cases hj:g<ts.length
    ·rw[XS hj]at r;obtain⟨x,Y,M⟩:=e2 g t0 r;exact⟨a.eval x,by rw[X8 (by simp at I⊢;omega),YC];simp at Y;rw[Y];rfl,bf B x t0 M⟩
    rw[XW (by omega)]at r;obtain⟨v,v1,v2⟩:=k3 _ t0 r;exact⟨v,by rw[Yi (by simp at I⊢;omega)];simp at I⊢;rw[<- I];exact v1,v2⟩
   rintro e Z ⟨v,rfl,hr⟩;show K (a.put q.dst v) Z;refine hK v Z ?_;rw[D];exact hr
  cases p
 cases p
end
end
section
theorem QS {res:CallRes} {r:TV} (B:Inv w f g s.H u W) (v2:r.rel u s.H (Xo g u s.H) W l) (Q:sP s.H n r) (K:res.fam=(s.H n).map (renO 0)) (hr:res.r=renTV 0 r):
  ∃A:Rho,Inv w f g (famH 0 res.fam) A W/\res.r.rel A (famH 0 res.fam) (Xo g A (famH 0 res.fam)) W l/\ ∀b,Xo g A (famH 0 res.fam) b->Xo g u s.H b:=by
 obtain⟨C,h5⟩:=wF Q;have Y: ∀(k:Nat) o,(famH 0 res.fam 0)[k]?=some o-> ∃I,(s.H n)[k]?=some I/\o=renO 0 I:=fun k o E=>by
  simp only[famH,if_true,K,XK]at E;obtain⟨I,D,N⟩:=XI.1 E;exact⟨I,D,N.symm⟩
 have R: ∀(x k:Nat) o,(famH 0 res.fam x)[k]?=some o->x=0:=fun x k o E=>by
  by_cases G:x=0
  ·exact G
  simp[famH,G]at E
 have aa: ∀b,Xo g (fun _ k=>u n k) (famH 0 res.fam) b->Xo g u s.H b:=fun b hb=>by
  rcases hb with hb|⟨x,k,o,q,D,N⟩
  ·exact .inl hb
  have:=R x k o D;subst this;obtain⟨I,g3,_⟩:=Y k o D;exact .inr ⟨n,k,I,q,g3,N⟩
 have F: ∀x t,bz n x->AV.rel u s.H (Xo g u s.H) W x t->AV.rel (fun _ k=>u n k) (famH 0 res.fam) (Xo g (fun _ k=>u n k) (famH 0 res.fam)) W (b6 0 x) t:=jI (c:=bz n) (fun _ _ _ _ _ _ h=>h.1) (nM 0) fun x t hn L G=>by
  cases x with
  |fn=>cases hn
  |p x=>exact bO.weaken (fun b _ hb=>aa b hb) G
  |sl x k ag len=>
   have L:x=n:=L;subst L;obtain⟨o,D,N,g3⟩:=G;have h6:x<=4999:=h5.resolve_right fun h=>by rw[h]at D;simp at D
   exact⟨renO 0 o,by simp[famH,K,D],by simpa[renO] using N,rW (ρ':=fun _ k=>u x k) (a':=0) (r':=k) h6 g3 rfl⟩
  |ptr x k i j=>
   have L:x=n:=L;subst L;obtain⟨o,b,c,D,N,g3,g4⟩:=G;exact⟨renO 0 o,b,c,by simp[famH,K,D],N,by simpa[renO] using g3,g4⟩
  |junk=>trivial
 have ab: ∃A:Rho,Inv w f g (famH 0 res.fam) A W/\res.r.rel A (famH 0 res.fam) (Xo g A (famH 0 res.fam)) W l/\ ∀b,Xo g A (famH 0 res.fam) b->Xo g u s.H b:=by
  refine⟨fun _ k=>u n k,⟨B.keep,fun x k o E=>?_,fun x k x' k' o I b c c' E ac U af=>?_,fun x k o b c E U=>?_,B.bar,fun x k o E=>?_⟩,?_,aa⟩
  ·have:=R x k o E;subst this;obtain⟨I,D,rfl⟩:=Y k o E;obtain⟨z1,z2,z3⟩:=B.objs n k I D;refine⟨fun e T=>?_,z2,?_⟩
   ·simp only[renO,XR]at T;obtain⟨e',J,rfl⟩:=T;rw[YB];exact z1 e' J
   cases P:u n k with
   |none=>rw[P]at z3;simp only[P];simp[renO,z3]
   |some bc=>
    obtain⟨b,q⟩:=bc;rw[P]at z3;obtain⟨cells,p1,p2,p3,p4,p5⟩:=z3;simp only[P];refine⟨cells,p1,p2,by simpa[renO] using p3,p4,fun i e j z T R=>?_⟩;simp only[renO,XK]at T;obtain⟨e',J,rfl⟩:=XI.1 T;rw[XK]at R;obtain⟨z',V,rfl⟩:=XI.1 R;obtain⟨t,u1,S,u3⟩:=p5 i e' j z' J V;exact⟨t,u1,S,F z' t (B.self n k I D e' (XH J) z' (XH V)) u3⟩
  ·have e1:=R x k o E;have e2:=R x' k' I ac;subst e1 e2;obtain⟨o1,D,_⟩:=Y k o E;obtain⟨o2,N,_⟩:=Y k' I ac;exact⟨rfl,(B.inj n k n k' o1 o2 b c c' D N U af).2⟩
  ·have e1:=R x k o E;subst e1;obtain⟨o1,D,_⟩:=Y k o E;exact B.old n k o1 b c D U
  ·have e1:=R x k o E;subst e1;obtain⟨o1,D,rfl⟩:=Y k o E;intro e T z ae;simp only[renO,XR]at T;obtain⟨e',J,rfl⟩:=T;simp only[XR]at ae;obtain⟨z',V,rfl⟩:=ae;exact dj _ _
  rw[hr];have agg: ∀M t,(∀x∈M,bz n x)->bC u s.H (Xo g u s.H) W M t->bC (fun _ k=>u n k) (famH 0 res.fam) (Xo g (fun _ k=>u n k) (famH 0 res.fam)) W (M.map (b6 0)) t:=fun M t L h=>by
   obtain⟨us,h1,h2,h3⟩:=h;refine⟨us,h1,by simpa using h2,fun j x G=>?_⟩;rw[XK]at G;obtain⟨y,hy,rfl⟩:=XI.1 G;obtain⟨u',u1,S,u3⟩:=h3 j y hy;exact⟨u',u1,S,F _ _ (L y (XH hy)) u3⟩
  cases r with
  |one x=>exact F x l C v2
  |agg M=>exact agg M l C v2
  |fn m M=>obtain⟨t,h1,h2⟩:=v2;exact⟨t,agg M t C h1,h2⟩
  |tup ts=>
   obtain⟨us,h1,h2,h3⟩:=v2;refine⟨us,h1,by simpa using h2,fun j b M G=>?_⟩;rw[XK]at G;obtain⟨y,hy,ad⟩:=XI.1 G;obtain⟨b',Z⟩:=y;simp at ad;obtain⟨rfl,rfl⟩:=ad;obtain⟨t,u1,S⟩:=h3 j b' Z hy;have L:=C (b',Z) (XH hy);refine⟨t,u1,?_⟩;rcases S with⟨S,u3⟩|⟨S,x,rfl,u4⟩
   ·exact .inl ⟨S,agg _ _ L u3⟩
   exact .inr ⟨S,_,rfl,F _ _ (L x (by simp)) u4⟩
 exact ab
section
variable {P:Program} {b:Nat} {ty:TypeId} {cs cs':List PV} {Q:Exit->AS->List PV->Prop} {s:AS}
theorem jJ {fn:Func} {args:List TV} {res:CallRes} (hf:P.funcs[h]?=some fn) (hb:fn.body=some c) (hn:callable P h=true) (g:dG P b ty c (fun e s k=>(e= .normal\/e= .ret)/\k=cs'/\ ∃W,bv s W/\mB P fn res W) ⟨args++List.replicate (fn.ntmps-args.length) .undef,fun _=>[]⟩ cs):gn P b ty h args cs res cs':=by
 refine⟨hn,fun X w vs Z M F O z=>?_⟩;refine calls_of_wp hf hb ?_;have E: ∀j,j<w.heap.size->Xo X (fun _ _=>none) (fun _=>[]) j->X j:=fun j _ g=>by
  rcases g with g|⟨a,r,o,c,q,Y⟩
  ·exact g
  cases Y
 have H:gG b ty w (fun j=>j=b) X ⟨args++List.replicate (fn.ntmps-args.length) .undef,fun _=>[]⟩ cs {tmps:=vs++Array.replicate (fn.ntmps-vs.size) undef,defers:=[]} w:=by
  refine⟨rfl,by simp[O],fun _ _=>none,⟨Keep.refl w,fun a r o A=>by simp at A,fun a r S r' o o' b c c' A=>by simp at A,fun a r o b c A=>by simp at A,Z,fun a r o A=>by simp at A⟩,fun t x n=>?_,rfl,M,F.weaken E⟩;by_cases ht:t<args.length
  ·rw[XS ht]at n;obtain⟨v,L,R⟩:=z t x n;refine⟨v,by rw[X8 (by omega)];exact L,TV.rel_map R (fun y u K=>?_)⟩;cases y with
   |p y=>exact bO.weaken E K
   |sl a r ac len=>obtain⟨o,q,_⟩:=K;simp at q
   |ptr a r i j=>obtain⟨o,_,_,q,_⟩:=K;simp at q
   |fn h a qs=>exact(pL (fun _=>rfl) K).elim
   |junk=>trivial
  rw[XW (by omega),YF]at n;split at n
  ·rename_i aa;injection n with n
   subst n;refine⟨undef,?_,ee⟩;rw[Yi (by omega),Y8,if_pos (by omega)]
  cases n
 refine wp_mono (g _ _ _ _ _ H) fun e S w' ⟨s1,k,⟨he,hk,s2,hw,r,a0,I,C,G,hr⟩,B⟩=>?_
 subst hk;obtain⟨q,ab,ρ,m,D,_,_,l⟩:=B.weak hw;have D:aT X ρ s2 S w':=D;obtain⟨v,L,R⟩:=fk m D I;obtain⟨J,T,U,V⟩:=QS m R C G hr;rcases he with rfl|rfl
 ·exact⟨q,v,L,v,rfl,J,T,U,l.weaken fun j _ N=>V j N⟩
 exact⟨q,v,L,v,rfl,J,T,U,l.weaken fun j _ N=>V j N⟩
/-! Regions. -/
theorem Eu {e c:List (dc P)} {i d:Nat} {ev:Operand->Option TV} {op:Op} (h:e.find? (·.i==i)=c.find? (·.i==i)):b8 P e m i d ev t op=b8 P c m i d ev t op:=by
 cases op<;>simp only[b8,h]
theorem w7 {f c:List (dc P)} {g:Array Oper} {i:Nat} (h:f.find? (·.i==i)=c.find? (·.i==i)):aQ P f m g i q s=aQ P c m g i q s:=by
 have e:dL P f m i q s=dL P c m i q s:=by
  unfold dL;simp only[Eu h]
 unfold aQ;simp only[e]
def ja (e:Array Oper) (m:Nat):Bool:=match e[m]? with
 |some o=>o.guard.isNone&&(match o.op with
  | .call c=>(match c.callee with
   | .value (.func _)=>true
   | .value (.tmp _)=>true
   |_=>false)
  |_=>false)
 |none=>false
theorem Cs {e:Array Oper} (h:ja e n=true) (t:e[n]?=some q):q.guard=none/\ ∃c y,q.op= .call c/\c.callee= .value y/\((∃f,y= .func f)\/ ∃k,y= .tmp k):=by
 unfold ja at h;rw[t]at h;simp only[Yh]at h;obtain⟨l,g⟩:=h;refine⟨by simpa using l,?_⟩;split at g
 ·rename_i c j;split at g
  ·rename_i f p;exact⟨c,_,j,p,.inl ⟨f,rfl⟩⟩
  ·rename_i k r;exact⟨c,_,j,r,.inr ⟨k,rfl⟩⟩
  cases g
 cases g
theorem EH {c:List (an P)} {e:dc P} {i:Nat} (h:i≠e.i):(c.map an.a++[e]).find? (·.i==i)=(c.map an.a).find? (·.i==i):=by
 rw[List.find?_append];have:[e].find? (·.i==i)=none:=by simp[Zl h]
 rw[this,Option.or_none]
theorem IW {e:List (an P)} {f:dc P} (h:e.all (fun c=>c.i !=f.i)=true):(e.map an.a++[f]).find? (·.i==f.i)=some f:=by
 rw[List.find?_append];have:(e.map an.a).find? (·.i==f.i)=none:=by
  rw[List.find?_eq_none];intro x j;obtain⟨c,g,rfl⟩:=XR.1 j;rw[XO]at h;have:=h c g;simpa[an.a] using this
 rw[this]
 simp
theorem yM {a:Act} (j:List (an P)) (l:dc P) {n:Array Oper} {i:Nat} (I:n[i]?=some q) (H:ja n l.i=true) (G:j.all (fun c=>c.i !=l.i)=true) (t:jM l.args l.res cs'=true) (r:gn P b ty l.f l.args cs l.res cs') {x:List PV} (L:i=l.i->x=cs) {C:AS} (p:gG b ty w f g s x a W) (h:aQ P (j.map an.a++[l]) m n i q s=some C) {K:Act->World->Prop} {Q:Exit->Act->World->Prop} (u: ∀v z,gG b ty w f g C (if i=l.i then cs' else x) (a.put q.dst v) z->K (a.put q.dst v) z):if Region.wanted q (yielded n a.tmps)then q.wp P a W K Q else K (a.put q.dst undef) W:=by
 by_cases y:i=l.i
 ·have A:=L y;subst y A;obtain⟨B,c,e,D,E,F⟩:=Cs H I;rw[if_pos (by simp[Region.wanted,B])];unfold aQ at h;rw[B]at h;simp only[if_true]at u;exact P7 p D E F (IW G) t r h u
 rw[w7 (EH y)]at h;obtain⟨Own,M,N⟩:=p.rebase;simp only[if_neg y]at u;exact im (an.ok j) M h fun v z J=>u v z (N _ _ _ J)
theorem yF {w0:World} {O X:Nat->Prop} (g:List (an P)) (m:dc P) {M:List Nat} {n:Array Oper} (G:ja n m.i=true) (F:g.all (fun c=>c.i !=m.i)=true) (q:jM m.args m.res cs'=true) (p:gn P b ty m.f m.args cs m.res cs') {Q:Exit->Act->World->Prop}:
  ∀(l:List Oper) (k:Nat) (s t:AS) (a:Act) (w:World),(∀(j:Nat) o,l[j]?=some o->n[k+j]?=some o)->gZ P (g.map an.a++[m]) M n (l.zipIdx k) s=some t->gG b ty w0 O X s (if k<=m.i then cs else cs') a w->
   (∀y u,gG b ty w0 O X t (if k+l.length<=m.i then cs else cs') y u->Q .normal y u)->wpOps P n Q (List.range' k l.length) a w
 |[],k,s,t,a,w,_,h,r,z=>by
  simp only[aau,gZ]at h;injection h with h
  subst h;exact z a w r
 |o::l,k,s,t,a,w,H,h,r,z=>by
  simp only[ZA,gZ]at h;split at h
  ·rename_i N B;simp only[Ym,YM,wpOps];have I:n[k]?=some o:=by have:=H 0 o rfl;simpa using this
   rw[I];simp only;have:=yM (Q:=Q) g m I G F q p (x:=if k<=m.i then cs else cs') (fun R=>if_pos (by omega)) r B (K:=wpOps P n Q (List.range' (k+1) l.length)) (fun v u J=>yF g m G F q p l (k+1) N t _ _ (fun j o L=>by have:=H (j+1) o (by simpa using L);rwa[show k+(j+1)=k+1+j by omega]at this) h (by
    have e:(if k=m.i then cs' else if k<=m.i then cs else cs')=if k+1<=m.i then cs else cs':=by
     by_cases D:k=m.i
     ·rw[if_pos D,if_neg (by omega)]
     rw[if_neg D];by_cases E:k<=m.i
     ·rw[if_pos E,if_pos (by omega)]
     rw[if_neg E,if_neg (by omega)]
    rw[e]at J;exact J) (fun y u A=>z y u (by rw[Ym,show k+(l.length+1)=k+1+l.length by omega];exact A)))
   split at this
   ·rename_i C;rw[if_pos C];exact .inl this
   rename_i C;rw[if_neg C];exact this
  cases h
theorem xH (m:Nat) {args:List TV} {res:CallRes} (q:gn P b ty h args cs res cs') (n:List (an P)) (z:List Nat) {id:Nat} {l:Array Oper} (u:ja l m=true) (D:n.all (fun c=>c.i !=m)=true) (t:jM args res cs'=true) (g:aV P (n.map an.a++[⟨m,h,args,res⟩]) z (aJ l l.toList 0) (some s) (fun p=>Q .normal p cs')):dG P b ty (.region id l false) Q s cs:=fun v O X a w r=>by
 obtain⟨p,B,C⟩:=aO P _ z l l.toList 0 s _ g;refine wp_region ?_;rw[Ya];have G:m<l.size:=by
  unfold ja at u;split at u
  ·rename_i o F;exact(XV.1 F).1
  cases u
 have:=yF (w0:=v) (O:=O) (X:=X) n ⟨m,h,args,res⟩ u D t q (Q:=fun e x A=> ∃p k,Q e p k/\gG b ty v O X p k x A) l.toList 0 s p a w (fun j o E=>by simpa using E) B (by simpa using r) (fun x A y=>⟨p,cs',C,by
  rw[if_neg (by simp;omega)]at y;exact y⟩)
 simpa using this
theorem xG (L:P.follows .mixedOrders=true) (m:Nat) {args:List TV} {res:CallRes} (z:gn P b ty h args cs res cs') (n:List (an P)) (F:List Nat) {id:Nat} {l:Array Oper} (S:bX [] l=true) (G:ja l m=true) (hF:n.all (fun c=>c.i !=m)=true) (D:jM args res cs'=true) (g:aV P (n.map an.a++[⟨m,h,args,res⟩]) F (aJ l l.toList 0) (some s) (fun I=>Q .normal I cs')):dG P b ty (.region id l true) Q s cs:=fun R O X a w r=>by
 obtain⟨U,h1,h2⟩:=aO P _ F l l.toList 0 s _ g;have T:m<l.size:=by
  unfold ja at G;split at G
  ·rename_i o C;exact(XV.1 C).1
  cases G
 refine wp_region_any L ?_;have E:db P (n.map an.a++[⟨m,h,args,res⟩]) F l (List.range l.size) s=some U:=by
  rw[Ya];have:=gD (P:=P) (items:=n.map an.a++[⟨m,h,args,res⟩]) (ow:=F) l.toList 0 s (fun j o B=>by simpa using B);rw[h1]at this;simpa using this.symm
 have q:gG b ty R O X s cs a {w with drawn:=w.drawn+1}:=by
  obtain⟨Own,Y,Z⟩:=r.rebase;obtain⟨q1,q2,V,A,u⟩:=Y;have e:Ext w {w with drawn:=w.drawn+1}:=⟨rfl,rfl,rfl,XY _,fun _ _=>rfl⟩;have u:aT X V s a w:=u;exact Z _ _ _ ⟨q1,q2,V,A.grow e,u.grow e⟩
 refine oD (sep:=[]) (kT S (by simp)) S (Q:=fun e W N=> ∃I k,Q e I k/\gG b ty R O X I k W N) (fun p s a w=>gG b ty R O X s (if p m then cs' else cs) a w) ⟨ef r.rel,fun x hx=>by simp at hx⟩ E (fun p a w y H=>⟨U,cs',h2,by
  rw[if_pos (y m T)]at H;exact H⟩) (fun p i o s s1 a w K C M _ hs H hK=>?_) l.size (Array.replicate l.size false) s a _ (by simp) ?_ ?_ ?_ ?_
 ·refine yM n ⟨m,h,args,res⟩ C G hF D z (x:=if p m then cs' else cs) (fun t=>?_) H hs (fun v N q=>hK v N ?_)
  ·have t:i=m:=t;subst t;rw[if_neg (by simp[M])]
  by_cases t:i=m
  ·subst t;simpa[cG] using q
  have J:(m==i)=false:=by simpa using Zl t
  simpa[cG,t,J] using q
 ·intro j o C hp;have B:j<l.size:=(XV.1 C).1;simp[B]at hp
 ·exact XQ (ZT _ _) (by simp)
 ·have:lk l.size (fun j=>(Array.replicate l.size false).getD j true)=[]:=by
   unfold lk;rw[Zh];intro j B;have:=Yv.1 B;simp[this]
  rw[this];rfl
 have:(Array.replicate l.size false).getD m true=false:=by simp[T]
 simp only[this];exact q
theorem ri (m:Nat) {args:List TV} {res:CallRes} (n:gn P b ty h args cs res cs') (j:List (an P)) (p:List Nat) {id:Nat} {l:Array Oper} (t:ja l m=true) (r:j.all (fun e=>e.i !=m)=true) (o:jM args res cs'=true) (g: ∀K:AS->Prop,(∀q,dG P b ty c Q q cs'->K q)->aV P (j.map an.a++[⟨m,h,args,res⟩]) p (aJ l l.toList 0) (some s) K):dG P b ty (.seq (.region id l false) c) Q s cs:=
 bZ (xH m n j p t r o (g _ fun _ g=>g))
theorem gu (m:Nat) {args:List TV} {res:CallRes} (l:gn P b ty h args cs res cs') (g:List (an P)) (o:List Nat) {id:Nat} {j:Array Oper} (r:ja j m=true) (q:g.all (fun c=>c.i !=m)=true) (n:jM args res cs'=true) (e: ∀K:AS->Prop,(∀p,Q .normal p cs'->K p)->aV P (g.map an.a++[⟨m,h,args,res⟩]) o (aJ j j.toList 0) (some s) K):dG P b ty (.region id j false) Q s cs:=
 xH m l g o r q n (e _ fun _ e=>e)
theorem D2 (p:P.follows .mixedOrders=true) (m:Nat) {args:List TV} {res:CallRes} (n:gn P b ty h args cs res cs') (j:List (an P)) (q:List Nat) {id:Nat} {l:Array Oper} (v:bX [] l=true) (u:ja l m=true) (t:j.all (fun e=>e.i !=m)=true) (o:jM args res cs'=true) (g: ∀K:AS->Prop,(∀r,dG P b ty c Q r cs'->K r)->aV P (j.map an.a++[⟨m,h,args,res⟩]) q (aJ l l.toList 0) (some s) K):dG P b ty (.seq (.region id l true) c) Q s cs:=
 bZ (xG p m n j q v u t o (g _ fun _ g=>g))
theorem jF (o:P.follows .mixedOrders=true) (m:Nat) {args:List TV} {res:CallRes} (l:gn P b ty h args cs res cs') (g:List (an P)) (p:List Nat) {id:Nat} {j:Array Oper} (u:bX [] j=true) (t:ja j m=true) (r:g.all (fun c=>c.i !=m)=true) (n:jM args res cs'=true) (e: ∀K:AS->Prop,(∀q,Q .normal q cs'->K q)->aV P (g.map an.a++[⟨m,h,args,res⟩]) p (aJ j j.toList 0) (some s) K):dG P b ty (.region id j true) Q s cs:=
 xG o m l g p u t r n (e _ fun _ e=>e)
end
/-! A box of one's own is lent. -/
def jb (d b:Nat):AV->AV
 | .sl x r c len=>if x=d then .junk else .sl x r c len
 | .ptr x r i j=>if x=d then(if r=0/\i=0/\j=0 then .raw (.pointer (some ⟨b,0,none⟩))else .junk)else .ptr x r i j
 | .fn f x e=>if x=d then .junk else .fn f x e
 |x=>x
theorem Cz (d b:Nat):og (jb d b):=fun f x e=>by
 by_cases h:x=d
 ·exact .inl (if_pos h)
 exact .inr ⟨x,e,if_neg h,rfl,fun n q c=>⟨q,c,if_neg h⟩⟩
def rB (d b:Nat):TV->TV
 | .one x=> .one (jb d b x)
 | .agg c=> .agg (c.map (jb d b))
 | .fn f c=> .fn f (c.map (jb d b))
 | .tup e=> .tup (e.map fun t=>(t.1,t.2.map (jb d b)))
theorem KV {P:Program} {Q:Exit->AS->Prop} (d:Nat) {cs:List PV} (hd:s.H d=[⟨r,cs.length,[cs.map AV.p]⟩]) (h: ∀b,dG P b r c (fun e S _=>Q e S) ⟨s.tmps.map (rB d b),aw s.H d []⟩ cs):bs P c Q s:=fun w0 O X a w l=>by
 obtain⟨h1,al,L,m,aa⟩:=l;have aa:aT X L s a w:=aa;have J:(s.H d)[0]?=some ⟨r,cs.length,[cs.map AV.p]⟩:=by rw[hd];rfl
 obtain⟨z1,z2,z3⟩:=m.objs d 0 _ J;cases N:L d 0 with
 |none=>rw[N]at z3;cases z3
 |some bc=>
  obtain⟨b,n⟩:=bc;rw[N]at z3;obtain⟨cells,p1,p2,p3,p4,p5⟩:=z3;have af:=m.old d 0 _ b n J N;have M: ∀(x y:Nat) o,(aw s.H d [] x)[y]?=some o->x≠d/\(s.H x)[y]?=some o:=fun x y o F=>by
   by_cases B:x=d
   ·subst B;rw[aI]at F;simp at F
   rw[ay B]at F;exact⟨B,F⟩
  have ad: ∀j,Xo (fun j=>X j\/j=b) L (aw s.H d []) j->Xo X L s.H j:=fun j A=>by
   rcases A with(A|rfl)|⟨x,y,o,n',I,D⟩
   ·exact .inl A
   ·exact .inr ⟨d,0,_,n,J,N⟩
   exact .inr ⟨x,y,o,n',(M x y o I).2,D⟩
  have K: ∀x v,AV.rel L s.H (Xo X L s.H) w x v->AV.rel L (aw s.H d []) (Xo (fun j=>X j\/j=b) L (aw s.H d [])) w (jb d b x) v:=fP (Cz d b) fun x v hn B=>by
   cases x with
   |fn=>cases hn
   |p x=>exact bO.weaken (fun j _ A=>ad j A) B
   |sl x l a0 len=>
    simp only[jb];split
    ·trivial
    rename_i C;obtain⟨o,I,D⟩:=B;exact⟨o,by rw[ay C];exact I,D⟩
   |ptr x l i j=>
    simp only[jb];split
    ·rename_i C;subst C;split
     ·rename_i hc;obtain⟨rfl,rfl,rfl⟩:=hc;obtain⟨o,b',Z,I,D,g3,g4⟩:=B;rw[N]at D;injection D with D
      injection D with D a1
      subst D;rw[g4];simp only[aae,YA];exact bO.raw _ rfl
     trivial
    rename_i C;obtain⟨o,b',Z,I,D⟩:=B;exact⟨o,b',Z,by rw[ay C];exact I,D⟩
   |junk=>trivial
  have R: ∀cs v,bC L s.H (Xo X L s.H) w cs v->bC L (aw s.H d []) (Xo (fun j=>X j\/j=b) L (aw s.H d [])) w (cs.map (jb d b)) v:=fun cs v ⟨vs,I,D,g3⟩=>by
   refine⟨vs,I,by simpa using D,fun j x B=>?_⟩;rw[XK]at B;obtain⟨y,hy,rfl⟩:=XI.1 B;obtain⟨u,u1,V,u3⟩:=g3 j y hy;exact⟨u,u1,V,K y u u3⟩
  have ag:gG b r w0 (fun j=>O j\/j=b) (fun j=>X j\/j=b) ⟨s.tmps.map (rB d b),aw s.H d []⟩ cs a w:=by
   refine⟨h1,by simpa using al,L,⟨⟨m.keep.os,m.keep.tape,m.keep.output,m.keep.size,fun k hk hn=>m.keep.block k hk (fun h=>hn (.inl h))⟩,fun x y o F=>?_,fun x y x' y' o o' j c Z F G=>m.inj x y x' y' o o' j c Z (M x y o F).2 (M x' y' o' G).2,fun x y o j c F A=>?_,fun j A=>?_,fun x y o F=>m.self x y o (M x y o F).2⟩,fun t x B=>?_,.inr rfl,.inr rfl,?_⟩
   ·obtain⟨C,G⟩:=M x y o F;obtain⟨q1,q2,q3⟩:=m.objs x y o G;refine⟨q1,q2,?_⟩;cases hr:L x y with
    |none=>rw[hr]at q3;exact q3
    |some bc=>
     obtain⟨b',Z⟩:=bc;rw[hr]at q3;obtain⟨T,r1,r2,r3,r4,r5⟩:=q3;refine⟨T,r1,r2,r3,r4,fun i e j z he hz=>?_⟩;obtain⟨u,u1,V,u3⟩:=r5 i e j z he hz;have U:=m.self x y o G e (XH he) z (XH hz);have:=K z u u3;refine⟨u,u1,V,?_⟩;cases z with
     |sl z _ _ _=>have U:z=x:=U;subst U;simpa[jb,C] using this
     |ptr z _ _ _=>have U:z=x:=U;subst U;simpa[jb,C] using this
     |fn _ z _=>have U:z=x:=U.1;subst U;simpa[jb,C] using this
     |p z=>exact this
     |junk=>trivial
   ·obtain⟨C,G⟩:=M x y o F;obtain⟨I,D⟩:=m.old x y o j c G A;refine⟨?_,?_⟩
    ·rcases I with g|g
     ·exact .inl g
     exact .inr (.inl g)
    rintro(g|rfl)
    ·exact D g
    exact C (m.inj x y d 0 o _ j c n G J A N).1
   ·rcases A with A|rfl
    ·exact m.bar j A
    exact(XV.1 p1).1
   ·simp only[XK]at B;obtain⟨y,hy,rfl⟩:=XI.1 B;obtain⟨v,v1,Y⟩:=aa t y hy;refine⟨v,v1,?_⟩;cases y with
    |one x=>exact K x v Y
    |agg cs=>exact R cs v Y
    |fn f cs=>obtain⟨u,h1,h2⟩:=Y;exact⟨u,R cs u h1,h2⟩
    |tup ts=>
     obtain⟨vs,I,D,g3⟩:=Y;refine⟨vs,I,by simpa using D,fun j c cs A=>?_⟩;rw[XK]at A;obtain⟨z,hz,ah⟩:=XI.1 A;obtain⟨Z,ac⟩:=z;simp at ah;obtain⟨rfl,rfl⟩:=ah;obtain⟨u,u1,V⟩:=g3 j Z ac hz;refine⟨u,u1,?_⟩;rcases V with⟨V,u3⟩|⟨V,q',rfl,u4⟩
     ·exact .inl ⟨V,R _ _ u3⟩
     exact .inr ⟨V,_,rfl,K _ _ u4⟩
   refine⟨cells,n,p1,p2,by simpa using p3,p4,z2,fun j x B=>?_⟩;obtain⟨v,v1,Y,v3⟩:=p5 0 (cs.map AV.p) j (.p x) rfl (by rw[XK,B];rfl);exact⟨v,by simpa using v1,Y,bO.weaken (fun j _ A=>ad j A) v3⟩
  refine wp_mono (h b _ _ _ _ _ ag) fun e a' w' ⟨S,ac,hq,hr⟩=>⟨S,hq,?_⟩
  obtain⟨k1,av,E,q,ab,_,_,_⟩:=hr;have ab:aT (fun j=>X j\/j=b) E S a' w':=ab;have ap: ∀j,Xo X E S.H j->Xo (fun j=>X j\/j=b) E S.H j:=fun j A=>by
   rcases A with A|A
   ·exact .inl (.inl A)
   exact .inr A
  have W: ∀x v,AV.rel E S.H (Xo (fun j=>X j\/j=b) E S.H) w' x v->AV.rel E S.H (Xo X E S.H) w' x v:=fun x v B=>by
   cases x with
   |p x=>exact bO.weaken (fun j _ A=>ap j A) B
   |sl x l a0 len=>exact B
   |ptr x l i j=>exact B
   |fn=>exact B
   |junk=>trivial
  refine⟨k1,av,E,⟨⟨q.keep.os,q.keep.tape,q.keep.output,q.keep.size,fun k hk hn=>?_⟩,fun x y o F=>dx (q.objs x y o F) rfl (fun _ _ _=>rfl) W,q.inj,fun x y o j c F A=>?_,fun j A=>q.bar j (.inl A),q.self⟩,fun t x B=>?_⟩
  ·by_cases ae:k=b
   ·subst ae;exfalso;rcases af.1 with g|g
    ·omega
    exact hn g
   exact q.keep.block k hk (fun hh=>by
    rcases hh with hh|hh
    ·exact hn hh
    exact ae hh)
  ·obtain⟨I,D⟩:=q.old x y o j c F A;refine⟨?_,fun B=>D (.inl B)⟩;rcases I with g|g|g
   ·exact .inl g
   ·exact .inr g
   exact absurd (.inr g) D
  obtain⟨v,v1,Y⟩:=ab t x B;exact⟨v,v1,TV.rel_map Y W⟩
end
theorem LW (w:World) (q:Nat) (b:Array Obj):Ext w (Sort.grow (w.drewN q) b):=
 ⟨rfl,rfl,rfl,by simp,fun k c=>by show(w.heap++b)[k]?=w.heap[k]?;grind⟩
structure NItem where
 key:Int
 vals:List Int
 at_:Option Addr
 cap:Nat
 deriving Inhabited
def NItem.val (b:NItem):Value:= .slice b.at_ b.vals.length b.cap
def NItem.agg (b:NItem):Value:= .agg #[.int .i64 b.key,.slice b.at_ b.vals.length b.cap]
def jg (a b:NItem):Int:=IF a.key a.vals b.key b.vals
def uq7 (a b:NItem):Bool:=jg a b==0
structure ItemOk (w:World) (g:Nat) (it:NItem):Prop where
 rd:RdI .i64 w it.at_ it.vals
 ne: ∀p,it.at_=some p->p.block≠g
 le:it.vals.length<=9223372036854775807
theorem ItemOk.ext {b:NItem} (h:ItemOk w n b) (e:Ext w W):ItemOk W n b:=⟨h.rd.ext e,h.ne,h.le⟩
theorem w9 (a b:NItem) (w:World) (g:Nat) (c:ItemOk w g a) (f:ItemOk w g b):
  Calls prog 132 #[a.agg,b.agg] w fun e j=>e= .returned (.int .i64 (jg a b))/\Ext w j:=
 (j8 a.key b.key a.at_ b.at_ a.cap b.cap a.vals b.vals w c.rd f.rd c.le f.le).mono fun _ _ ⟨h,q,m,l⟩=>⟨h,by grind [LW]⟩
theorem wI (a b:NItem) (bx sx so:Nat) (w:World) (g:Nat) (ha:ItemOk w g a) (hb:ItemOk w g b) (h1:w.cell? ⟨bx,0,none⟩=some (.pointer (some ⟨sx,so,none⟩))) (h2:w.cell? ⟨sx,so+1,none⟩=some (.func (Fn.func 132) #[] #[])):
  Calls prog 200 #[a.agg,b.agg,.pointer (some ⟨bx,0,none⟩)] w fun e w'=>e= .returned (.bool (uq7 a b))/\Ext w w':=by
 have HA:=XL ha;have HB:=XL hb;clear ha hb;unfold NItem.agg
 go_enter func200,ntmps200
 go_wp2_with fail
 obtain⟨c1,c2,c3,c4,he,hg⟩:=yV w (.int .i64 a.key) (.slice a.at_ a.vals.length a.cap) (.int .i64 b.key) (.slice b.at_ b.vals.length b.cap) 177;have h1':=he.cell h1;have h2':=he.cell h2;have HE:=XL he;clear he hg h1 h2;generalize(w.alloc (.cells #[.int .i64 a.key,.slice a.at_ a.vals.length a.cap] 177)).alloc (.cells #[.int .i64 b.key,.slice b.at_ b.vals.length b.cap] 177)=w2 at*
 refine cq 6 (by kernel_rfl) (by kernel_rfl) ?_;simp only[Zk,Z8,Zt,Zs];generalize w2.drew=w3 at*
 iterate 6 still_step
 refine wpStill_nil ?_;have HC:=XL (w9 a b w3 g (HA.out.ext HE.out) (HB.out.ext HE.out));unfold NItem.agg at HC
 go_wp2_with fail
 refine HC.out.mono ?_;rintro e w' ⟨rfl,he⟩;have HE2:=XL (HE.out.trans he);clear he
 go_wp2_with fail
 go_ret
 exact⟨rfl,HE2.out⟩
theorem qp {g t N:Nat}: ∀(vs:List Value) (o:Nat) (w:World) (f:Nat->Value),w.rowIs g t N f-> ∃b,(w.setCells g o vs).rowIs g t N b/\(∀j,j<o->b j=f j)/\ ∀k,k≠g->(w.setCells g o vs).heap[k]?=w.heap[k]?
 |[],o,w,f,h=>⟨f,h,fun _ _=>rfl,fun _ _=>rfl⟩
 |v::r,o,w,f,h=>by
  obtain⟨b,c,e,l⟩:=qp r (o+1) (w.setCell ⟨g,o,none⟩ v) _ (h.set o v);refine⟨b,c,fun j m=>?_,fun k n=>?_⟩
  ·grind
  show((w.setCell ⟨g,o,none⟩ v).setCells g (o+1) r).heap[k]?=_;grind [Below.heap_setCell]
theorem eJ (h:Ext w W) (g:Nat):w.grownBy W (some g):=⟨h.os,h.tape,h.output,h.size,fun k b _=>h.block k b⟩
theorem iO {a:World} (h:a.grownBy w (some n)) (k:w.grownBy W (some n)):a.grownBy W (some n):=
 ⟨k.os.trans h.os,k.tape.trans h.tape,k.output.trans h.output,XQ h.size k.size,fun i f e=>(k.block i (XZ f h.size) e).trans (h.block i f e)⟩
theorem zG {a:World} (h:a.grownBy w (some n)) (o:Nat) (v:Value):a.grownBy (w.setCell ⟨n,o,none⟩ v) (some n):=
 iO h ⟨rfl,rfl,rfl,by simp,fun k _ c=>aaS _ _ _ _ (fun e=>c (by rw[e]))⟩
theorem ss {a b:World} {g:Nat}: ∀(vs:List Value) (o:Nat) {b:World},a.grownBy b (some g)->a.grownBy (b.setCells g o vs) (some g)
 |[],_,_,h=>h
 |v::r,o,_,h=>ss (b:=b) r (o+1) (zG h o v)
theorem nJ (h:w.grownBy W (some n)) {p:Addr} (c:w.cell? p=some l) (b:p.block≠n):W.cell? p=some l:=
 h.cell c (fun e=>b (by injection e))
theorem RdI.gb {k:IntKind} {A:Option Addr} {c:List Int} (h:RdI k w A c) (f: ∀p,A=some p->p.block≠n) (m:w.grownBy W (some n)):RdI k W A c:=fun e=>by
 obtain⟨b,j,rfl,l⟩:=h e;grind [nJ]
def gh (l:List Int) (a:Nat):Nat:=if a<l.length then a+1 else a
section
section
variable {P:Program} {f:FuncId} {args:List TV} {res:CallRes}
theorem OJ {fam:List OObj} {res:CallRes} (q:bv ⟨[p],famH 0 fam⟩ ⟨[res.r],Hm [(0,res.fam)]⟩) (h: ∃b:Rho,Inv w (fun _=>False) g (famH 0 fam) b W/\p.rel b (famH 0 fam) (Xo g b (famH 0 fam)) W l):
  ∃b:Rho,Inv w (fun _=>False) g (famH 0 res.fam) b W/\res.r.rel b (famH 0 res.fam) (Xo g b (famH 0 res.fam)) W l:=by
 have e:Hm [(0,res.fam)]=famH 0 res.fam:=by funext a;rfl
 rw[e]at q;obtain⟨b,s,u⟩:=h;obtain⟨_,_,n,m,y⟩:=q w (fun _=>False) g ⟨#[l],[]⟩ W ⟨rfl,rfl,b,s,fun j x c=>by
  match j,c with
  |0,c=>simp at c;subst c;exact⟨l,rfl,u⟩
  |j+1,c=>simp at c⟩
 obtain⟨A,o,z⟩:=y 0 _ rfl;simp at o;subst o;exact⟨n,m,z⟩
theorem CallC.weak {fam:List OObj} (h:CallC P f args ⟨fam,p⟩) (j:bv ⟨[p],famH 0 fam⟩ ⟨[res.r],Hm [(0,res.fam)]⟩):CallC P f args res:=
 ⟨h.1,fun X w vs b g c=>(h.2 X w vs b g c).mono fun _ _ ⟨v,e,k⟩=>⟨v,e,OJ j k⟩⟩
end
end
theorem jv: ∀x:List Int,cU x x=0
 |[]=>rfl
 |a::x=>by simp[cU,jv x]
theorem pF: ∀{x y:List Int},cU x y=0->x=y
 |[],[],_=>rfl
 |[],_::_,h=>by simp[cU]at h
 |_::_,[],h=>by simp[cU]at h
 |a::x,b::y,h=>by
  unfold cU at h;split at h
  ·omega
  split at h
  ·omega
  rw[pF h,show a=b from by omega]
theorem Nx (A B:Option Addr) (c d:Nat) (a b:List (List Int)) (w:World) (ha:qR .i64 w A a) (hb:qR .i64 w B b) (la:a.length<=9223372036854775807) (lb:b.length<=9223372036854775807):
  Calls prog 17 #[.slice A a.length c,.slice B b.length d] w fun e w'=>e= .returned (.bool (decide (a=b)))/\Ext w w':=by
 have HA:=XL ha;have HB:=XL hb;clear ha hb;by_cases hl:a.length=b.length
 ·have hlb:((a.length:Int) !=(b.length:Int))=false:=by simp[hl]
  have HL:=XL hl;have hle:a.length<=b.length:=by omega
  clear hl
  go_enter func17,ntmps17
  go_wp2_with fail
  clear hlb
  go_loopw [13,5] (fun i _ wr=> ∃k:Nat,k<=a.length/\i= .int .i64 k/\Hid (Ext w wr)/\Hid (∀j,j<k->a[j]?=b[j]?)) (fun i _ _=>a.length-(intOf i).toNat)
  case atStart=>grind [Lib.hid,Ext.refl]
  case round=>
   obtain⟨k,hk,rfl,HE,HQ⟩:=hrel;by_cases hlt:k<a.length
   ·obtain⟨x,hx⟩:=getElem?_of_lt hlt;obtain⟨y,hy⟩:=getElem?_of_lt (l:=b) (k:=k) (by omega);obtain⟨b1,o1,B1,c1,rfl,hc1,hcl1,hlx,hr1⟩:=(HA.out.ext HE.out.drew).at_ hx;obtain⟨b2,o2,B2,c2,rfl,hc2,hcl2,hly,hr2⟩:=(HB.out.ext HE.out.drew).at_ hy;have HX:=XL hx;have HY:=XL hy;have HR1:=XL hr1;have HR2:=XL hr2;have HE1:=XL HE.out.drew;have hkb:(k:Int)<(b.length:Int):=by omega
    clear hx hy hr1 hr2 HE
    go_wp2_with fail
    refine cq 8 (by kernel_rfl) (by kernel_rfl) ?_;simp only[Zk,Z8,Zt,Zs];generalize wr.drew=w3 at*
    iterate 8 still_step
    refine wpStill_nil ?_;have HC:=XL (ni B1 B2 c1 c2 x y w3 HR1.out HR2.out hlx hly);clear hc1 hc2;by_cases h0:cU x y=0
    ·have h0':(cU x y !=0)=false:=by simp[h0]
     have H0:=XL h0;clear h0
     go_wp2_with fail
     refine HC.out.mono ?_;rintro e w4 ⟨rfl,n,rfl⟩
     go_wp2_with fail
     go_roundw
     case rel=>
      refine⟨k+1,by omega,by go_num,XL (HE1.out.drewN n),XL (fun j hj=>?_)⟩;by_cases e:j=k
      ·subst e;rw[HX.out,HY.out,pF H0.out]
      exact HQ.out j (by omega)
     grind [intOf]
    have h0':(cU x y !=0)=true:=by simp[h0]
    go_wp2_with fail
    refine HC.out.mono ?_;rintro e w4 ⟨rfl,n,rfl⟩
    go_wp2_with fail
    go_ret
    refine⟨dI (fun h=>?_),HE1.out.drewN n⟩;subst h;have h1:=HX.out;rw[HY.out]at h1;grind [jv]
   go_wp2_with fail
   go_ret
   refine⟨Ar ?_,HE.out⟩;apply X7;intro j;rcases aad j a.length with h|h
   ·exact HQ.out j (by omega)
   rw[aag h,aag (by have:=HL.out;omega)]
 have hlb:((a.length:Int) !=(b.length:Int))=true:=by simp;omega
 go_enter func17,ntmps17
 go_wp2_with fail
 go_ret
 exact⟨dI (fun h=>hl (by rw[h])),Ext.refl _⟩
end Go.Proofs.YtalmoejhjceflaaGreat
namespace Go.Proofs
open Go.Shelf
def Tryz.lays129_ren:Go.Shelf.Ren:=⟨fun|129=>185|n=>n,fun|53=>116|3=>3|4=>4|46=>164|5=>5|9=>9|n=>n,fun|n=>n⟩
theorem Tryz.lays129:Go.Proofs.Lays.n129 prog Tryz.lays129_ren:={
 mixed:=by kernel_rfl
 f129:=func185.trans (congrArg some (by kernel_rfl))
 t3:=underlying3
 a3:=isAgg3
 z3:=sizeOf3
 v3:=zeroValue3
 t4:=underlying4
 a4:=isAgg4
 z4:=sizeOf4
 v4:=zeroValue4
 t5:=underlying5
 a5:=isAgg5
 z5:=sizeOf5
 v5:=zeroValue5
 t9:=underlying9
 a9:=isAgg9
 z9:=sizeOf9
 v9:=zeroValue9
 t46:=underlying164
 a46:=isAgg164
 z46:=sizeOf164
 v46:=zeroValue164
 t53:=underlying116
 a53:=isAgg116
 z53:=sizeOf116
 v53:=zeroValue116}
end Go.Proofs
namespace Go.Proofs.YtalmoejhjceflaaGreat
open Go.RowKit Go.Proofs.Tryz
variable {w W:World} {b:Array Oper} {c e:Code} {f g:Nat->Prop} {h:FuncId} {j:Operand} {n:Nat} {l:Value} {m:List Nat} {o:List PV} {p:TV} {q:Oper} {r:TypeId} {s:AS} {t:OH} {u:Rho}
end Go.Proofs.YtalmoejhjceflaaGreat
