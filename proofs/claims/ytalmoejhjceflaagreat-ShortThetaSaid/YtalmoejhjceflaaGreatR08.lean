/-
  Part 9 of a proof (walks and plain facts).
-/
import Derived.Test.YtalmoejhjceflaaGreatR07
import Derived.Lib.SliceRun
import Derived.Shelf.Small.Bits
import Derived.Ground.NamesProg
import Derived.Test.YtalmoejhjceflaaGreatProg
set_option linter.all false
set_option maxRecDepth 100000
set_option maxHeartbeats 64000000
namespace Go.Proofs.YtalmoejhjceflaaGreat
open Go.RowKit Go.Proofs.Tryz
variable {w W:World} {b:Array Oper} {c e:Code} {f g:Nat->Prop} {h:FuncId} {j:Operand} {n:Nat} {l:Value} {m:List Nat} {o:List PV} {p:TV} {q:Oper} {s:AS} {r:TypeId} {t:OH} {u:Rho}
section
theorem bQ.later {w:World} (z: ∀b,b<w.heap.size->g b->f b) (B:w.heap.size<=W.heap.size) (A: ∀p l,p.block<w.heap.size-> ¬f p.block->w.cell? p=some l->W.cell? p=some l) {x:PV} (h:bQ f w x l):bQ g W x l:=by
 induction h with
 |raw l h=>exact .raw l h
 |nil a c=>exact .nil a c
 |sl b q D cap H m r n u s F o G y=>exact .sl b q D cap H m (fun h=>r (z _ n h)) (aas n B) u s F (fun i e j x t E=>A ⟨b,_,none⟩ _ n r (o i e j x t E)) y
 |ptr b q C m r n o G y=>exact .ptr b q C m (fun h=>r (z _ n h)) (aas n B) (fun j x t=>A ⟨b,_,none⟩ _ n r (o j x t)) y
theorem gm {p:Addr} (h:W.heap[p.block]?=w.heap[p.block]?):W.cell? p=w.cell? p:=by unfold World.cell?;rw[h]
def kN (b:Nat) (f:TypeId) (e:List PV) (Y:Nat->Prop) (w:World):Prop:=
 ∃(cells:Array Value) (c:Nat),w.heap[b]?=some (.cells cells f (0,0))/\cells.size=c*e.length/\1<=c/\c<=9223372036854775807/\0<e.length/\
  ∀(j:Nat) x,e[j]?=some x-> ∃v:Value,cells[j]?=some v/\v.oneCell'=true/\bQ Y w x v
theorem kN.later {w:World} (y: ∀j,j<w.heap.size->g j->f j) (D:w.heap.size<=W.heap.size) (z:W.heap[n]?=w.heap[n]?) (A: ∀j,j<w.heap.size-> ¬f j->W.heap[j]?=w.heap[j]?) (h:kN n r o f w):kN n r o g W:=by
 obtain⟨cells,c,e,l,m,q,s,t⟩:=h;refine⟨cells,c,by rw[z];exact e,l,m,q,s,fun j x F=>?_⟩;obtain⟨v,G,H,I⟩:=t j x F;exact⟨v,G,H,I.later y D fun p u C B E=>by rw[gm (A p.block C B)];exact E⟩
theorem kN.weaken (c: ∀j,j<w.heap.size->g j->f j) (h:kN n r o f w):kN n r o g w:=
 h.later c (aaq _) rfl fun _ _ _=>rfl
section
variable {P:Program} {b:Nat} {ty:TypeId} {cs cs':List PV} {w0 w:World} {O X:Nat->Prop} {s s':AS} {a:Act}
def iu (b:Nat) (ty:TypeId) (w0:World) (O X:Nat->Prop) (s:AS) (cs:List PV) (a:Act) (w:World):Prop:=
 a.defers=[]/\a.tmps.size=s.tmps.length/\ ∃c,Inv w0 O X s.H c w/\aX X c s a w/\O b/\X b/\kN b ty cs (Xo X c s.H) w
theorem iu.rel (h:iu b ty w0 O X s cs a w):da w0 O X s a w:=by
 obtain⟨c,e,j,f,g,_⟩:=h;exact⟨c,e,j,f,g⟩
theorem iu.rebase (h:iu b ty w0 O X s cs a w): ∃Own:Nat->Prop,da w Own X s a w/\ ∀E y F,da w Own X E y F->iu b ty w0 O X E cs y F:=by
 obtain⟨J,A,G,e,B,K,z,t⟩:=h;refine⟨fun j=> ∃(x r:Nat) (o:OObj) (c:Nat),(s.H x)[r]?=some o/\G x r=some (j,c),⟨J,A,G,⟨Keep.refl w,e.objs,e.inj,fun x r o j c v m=>⟨.inr ⟨x,r,o,c,v,m⟩,(e.old x r o j c v m).2⟩,e.bar,e.self⟩,B⟩,?_⟩;rintro E y F ⟨L,C,I,f,D⟩;have l: ∀j,(∃(x r:Nat) (o:OObj) (c:Nat),(s.H x)[r]?=some o/\G x r=some (j,c))->(w0.heap.size<=j\/O j)/\ ¬X j:=fun j ⟨x,r,o,c,p,q⟩=>e.old x r o j c p q
 refine⟨L,C,I,⟨⟨f.keep.os.trans e.keep.os,f.keep.tape.trans e.keep.tape,f.keep.output.trans e.keep.output,aaj e.keep.size f.keep.size,fun j m u=>?_⟩,f.objs,f.inj,fun x r o j c v m=>?_,f.bar,f.self⟩,D,K,z,?_⟩
 ·rw[f.keep.block j (aas m e.keep.size) (fun n=>by
   rcases(l j n).1 with h|h
   ·omega
   exact u h)]
  exact e.keep.block j m u
 ·obtain⟨p,q⟩:=f.old x r o j c v m;refine⟨?_,q⟩;rcases p with g|g
  ·exact .inl (aaj e.keep.size g)
  exact(l j g).1
 refine t.later (fun j m n=>?_) f.keep.size (f.keep.block b (e.bar b z) (fun n=>(l b n).2 z)) (fun j m u=>f.keep.block j m (fun n=>u (.inr n)));rcases n with n|⟨x,r,o,c,p,q⟩
 ·exact .inl n
 rcases(f.old x r o j c p q).1 with g|g
 ·omega
 exact .inr g
def dW (P:Program) (b:Nat) (ty:TypeId) (c:Code) (Q:Exit->AS->List PV->Prop) (s:AS) (cs:List PV):Prop:=
 ∀(w0:World) (O X:Nat->Prop) (a:Act) (w:World),iu b ty w0 O X s cs a w->c.wp P (fun e f g=> ∃s' cs',Q e s' cs'/\iu b ty w0 O X s' cs' f g) a w
def pw (next:AS->List PV->Prop) (Q:Exit->AS->List PV->Prop):Exit->AS->List PV->Prop
 | .normal,s,k=>next s k
 |e,s,k=>Q e s k
def FT (id:Nat) (Q:Exit->AS->List PV->Prop):Exit->AS->List PV->Prop
 | .exit c,s,k=>if c=id then Q .normal s k else Q (.exit c) s k
 |e,s,k=>Q e s k
variable {Q:Exit->AS->List PV->Prop}
theorem FG (h:bo P c (fun e s'=>Q e s' cs) s):dW P b ty c Q s cs:=fun w0 O X a w r=>by
 obtain⟨Own,j,l⟩:=r.rebase;exact wp_mono (h _ _ _ _ _ j) fun e m n ⟨s',f,g⟩=>⟨s',cs,f,l _ _ _ g⟩
theorem dW.weak (h:bD s s') (k:dW P b ty c Q s' cs):dW P b ty c Q s cs:=fun _ _ _ _ _ r=>by
 obtain⟨Own,e,f⟩:=r.rebase;exact k _ _ _ _ _ (f _ _ _ (h _ _ _ _ _ e))
theorem iu.weak (h:bD s s') (r:iu b ty w0 O X s cs a w):iu b ty w0 O X s' cs a w:=by
 obtain⟨Own,c,e⟩:=r.rebase;exact e _ _ _ (h _ _ _ _ _ c)
theorem dW.mono {f:Exit->AS->List PV->Prop} (h:dW P b ty c Q s cs) (k: ∀e s' cs',Q e s' cs'->f e s' cs'):dW P b ty c f s cs:=fun _ _ _ _ _ r=>
 wp_mono (h _ _ _ _ _ r) fun _ _ _ ⟨s',cs',g,j⟩=>⟨s',cs',k _ _ _ g,j⟩
theorem jr (h:Q .normal s cs):dW P b ty .skip Q s cs:=fun _ _ _ _ _ r=>wp_skip ⟨s,cs,h,r⟩
theorem CY {id:Nat} (h:Q (.exit id) s cs):dW P b ty (.exit id) Q s cs:=fun _ _ _ _ _ r=>wp_exit ⟨s,cs,h,r⟩
theorem mw (h:Q .ret s cs):dW P b ty .ret Q s cs:=fun _ _ _ _ _ r=>wp_ret ⟨s,cs,h,r⟩
theorem b8 (h:dW P b ty c (pw (dW P b ty e Q) Q) s cs):dW P b ty (.seq c e) Q s cs:=fun _ _ _ _ _ r=>
 wp_seq (wp_mono (h _ _ _ _ _ r) fun f a w ⟨s',cs',g,j⟩=>by
  cases f with
  |normal=>exact g _ _ _ _ _ j
  |_=>exact⟨s',cs',g,j⟩)
theorem cY {id:Nat} (h:dW P b ty c (FT id Q) s cs):dW P b ty (.block id c) Q s cs:=fun _ _ _ _ _ r=>
 wp_block (wp_mono (h _ _ _ _ _ r) fun e a w ⟨s',cs',f,g⟩=>by
  cases e with
  |exit j=>
   simp only[FT]at f;simp only[Exit.inBlock];split at f
   ·rename_i hid;rw[if_pos hid];exact⟨s',cs',f,g⟩
   rename_i hid;rw[if_neg hid];exact⟨s',cs',f,g⟩
  |_=>exact⟨s',cs',f,g⟩)
theorem CX {v:Bool} (m:s.ev j=some (.raw (.bool v))) (p:v=true->dW P b ty c Q s cs) (n:v=false->dW P b ty e Q s cs):dW P b ty (.cond j c e) Q s cs:=fun _ _ _ _ _ r=>by
 obtain⟨q,o,t,g,f,_⟩:=id r;have l:=(aV (be f j _ m)).1;exact wp_cond_split l (fun h=>p h _ _ _ _ _ r) (fun h=>n h _ _ _ _ _ r)
theorem iC (f:s.ev j=some (.raw (.bool true))) (h:dW P b ty c Q s cs):dW P b ty (.cond j c e) Q s cs:=CX f (fun _=>h) (fun h=>by cases h)
theorem ck (f:s.ev j=some (.raw (.bool false))) (h:dW P b ty e Q s cs):dW P b ty (.cond j c e) Q s cs:=CX f (fun h=>by cases h) (fun _=>h)
theorem sU (f:s.ev j=some (.raw (.bool true))) (h:dW P b ty e Q s cs):dW P b ty (.seq (.cond j .skip c) e) Q s cs:=b8 (iC f (jr h))
theorem sT {id:Nat} (f:s.ev j=some (.raw (.bool false))) (h:Q (.exit id) s cs):dW P b ty (.seq (.cond j c (.exit id)) e) Q s cs:=b8 (ck f (CY h))
theorem Ni {G:Type} (St:G->AS) (Sc:G->List PV) (q:G->Nat) (t:G) (F:bD s (St t)) (u:Sc t=cs) (round: ∀g,dW P b ty c (pw (fun s' cs'=> ∃j,q j<q g/\bD s' (St j)/\Sc j=cs') Q) (St g) (Sc g)):dW P b ty (.loop c) Q s cs:=fun w0 O X a w r=>by
 classical
 subst u
 let p:Act->World->Nat->Prop:=fun a w n=> ∃g,q g=n/\iu b ty w0 O X (St g) (Sc g) a w
 let m:Act->World->Nat:=fun a w=>if h: ∃n,p a w n then Classical.choose (bJ h)else 0
 refine wp_loop (fun a w=> ∃n,p a w n) m ⟨_,t,rfl,r.weak F⟩ ?_;intro a w v;have I:m a w=Classical.choose (bJ v):=dif_pos v;obtain⟨D,o⟩:=abG (bJ v);rw[<- I]at D;obtain⟨g,L,J⟩:=D;refine wp_mono (round g _ _ _ _ _ J) fun e A E ⟨s',cs',B,C⟩=>?_
 cases e with
 |normal=>
  obtain⟨j,H,K,x⟩:=B;subst x;have l:=C.weak K;have f: ∃n,p A E n:=⟨_,j,rfl,l⟩;refine⟨f,?_⟩;have z:m A E=Classical.choose (bJ f):=dif_pos f;obtain⟨_,y⟩:=abG (bJ f);have:=y (q j) ⟨j,rfl,l⟩;rw[z];omega
 |_=>exact⟨s',cs',B,C⟩
theorem kv {G:Type} (St:G->AS) (Sc:G->List PV) (j:G->Nat) (f:G) {id:Nat} (l:bD s (St f)) (h:Sc f=cs) (round: ∀g,dW P b ty c (pw (fun s' cs'=> ∃e,j e<j g/\bD s' (St e)/\Sc e=cs') (FT id Q)) (St g) (Sc g)):dW P b ty (.block id (.loop c)) Q s cs:=
 cY (Ni St Sc j f l h round)
/-! Regions without lent calls. -/
theorem wt (e:List (ao P)) (g:List Nat) {id:Nat} {f:Array Oper} (h: ∀K:AS->Prop,(∀s',dW P b ty c Q s' cs->K s')->aT P (e.map ao.a) g (aJ f f.toList 0) (some s) K):dW P b ty (.seq (.region id f false) c) Q s cs:=
 b8 (FG (qy e g (h _ fun _ h=>h)))
theorem Nj (c:List (ao P)) (f:List Nat) {id:Nat} {e:Array Oper} (h: ∀K:AS->Prop,(∀s',Q .normal s' cs->K s')->aT P (c.map ao.a) f (aJ e e.toList 0) (some s) K):dW P b ty (.region id e false) Q s cs:=
 FG (qy c f (h _ fun _ h=>h))
theorem Ku (j:P.follows .mixedOrders=true) (c:List (ao P)) (f:List Nat) {id:Nat} {e:Array Oper} (g:bX [] e=true) (h: ∀K:AS->Prop,(∀s',Q .normal s' cs->K s')->aT P (c.map ao.a) f (aJ e e.toList 0) (some s) K):dW P b ty (.region id e true) Q s cs:=
 FG (oK j c f g (by simp) (fun x l=>by simp at l) (h _ fun _ h=>h))
theorem oL {id:Nat} {e:Array Oper} (h: ∀K:AS->Prop,(∀s',dW P b ty c Q s' cs->K s')->aT P [] [] (aJ e e.toList 0) (some s) K):dW P b ty (.seq (.region id e false) c) Q s cs:=wt [] [] h
theorem Kv {id:Nat} {c:Array Oper} (h: ∀K:AS->Prop,(∀s',Q .normal s' cs->K s')->aT P [] [] (aJ c c.toList 0) (some s) K):dW P b ty (.region id c false) Q s cs:=Nj [] [] h
theorem FE (f:P.follows .mixedOrders=true) {id:Nat} {c:Array Oper} (e:bX [] c=true) (h: ∀K:AS->Prop,(∀s',Q .normal s' cs->K s')->aT P [] [] (aJ c c.toList 0) (some s) K):dW P b ty (.region id c true) Q s cs:=Ku f [] [] e h
end
def CallT (P:Program) (b:Nat) (l:TypeId) (f:FuncId) (args:List TV) (m:List PV) (res:CallRes) (g:List PV):Prop:=
 callable P f=true/\ ∀(X:Nat->Prop) (w:World) (vs:Array Value),(∀j,X j->j<w.heap.size)->X b->kN b l m X w->vs.size=args.length->
  (∀(j:Nat) t,args[j]?=some t-> ∃v:Value,vs[j]?=some v/\t.rel (fun _ _=>none) (fun _=>[]) X w v)->
  Calls P f vs w fun e h=> ∃v,e= .returned v/\ ∃c:Rho,Inv w (fun j=>j=b) X (famH 0 res.fam) c h/\res.r.rel c (famH 0 res.fam) (Xo X c (famH 0 res.fam)) h v/\kN b l g (Xo X c (famH 0 res.fam)) h
section
variable {P:Program} {b:Nat} {ty:TypeId} {cs cs':List PV} {w0 w:World} {O X:Nat->Prop} {ρ:Rho} {s:AS} {a:Act}
theorem DN {Q:cB P} {d:Nat} (h1:a.defers=[]) (ab:a.tmps.size=s.tmps.length) (m:Inv w0 O X s.H ρ w) (an:aX X ρ s a w) (hO:O b) (hX:X b) {F:List OObj} (ht:renTV d Q.res.r=p) (hF:Q.res.fam.map (renO d)=F) (hd:F≠[]->s.H d=[]) {ρc:Rho} (hi:Inv w (fun j=>j=b) (Xo X ρ s.H) (famH 0 Q.res.fam) ρc W) (J:Q.res.r.rel ρc (famH 0 Q.res.fam) (Xo (Xo X ρ s.H) ρc (famH 0 Q.res.fam)) W l) (R:kN b ty cs' (Xo (Xo X ρ s.H) ρc (famH 0 Q.res.fam)) W):iu b ty w0 O X (iW s d p F) cs' (a.put (some d) l) W:=by
 have A:But b w W:=⟨hi.keep.os,hi.keep.tape,hi.keep.output,hi.keep.size,fun k hk a0=>hi.keep.block k hk a0⟩;have af: ∀(x r:Nat) o M c,(s.H x)[r]?=some o->ρ x r=some (M,c)->W.heap[M]?=w.heap[M]?:=fun x r o M c q N=>A.block M (bf (m.objs x r o q) N) (by rintro rfl;exact(m.old x r o M c q N).2 hX)
 by_cases S:Q.res.fam=[]
 ·rw[S]at hi J R;have Y:F=[]:=by rw[<- hF,S];rfl
  subst Y;have mono: ∀x u,AV.rel ρ s.H (Xo X ρ s.H) w x u->AV.rel ρ s.H (Xo X ρ s.H) W x u:=fun x u C=>nT (.inl hX) A (fun a r o q=>⟨o,q,rfl,aaq _,rfl⟩) (fun a r o M c q hb _=> .inr ⟨a,r,o,c,q,hb⟩) C
  have E:Inv w0 O X s.H ρ W:=⟨m.keep.but A (.inr hO),fun x r o q=>dO (m.objs x r o q) rfl (fun M c N=>af x r o M c q N) mono,m.inj,m.old,fun j G=>aas (m.bar j G) A.size,m.self⟩;have T:aX X ρ s a W:=fun k x C=>by
   obtain⟨u,g1,U⟩:=an k x C;exact⟨u,g1,TV.rel_map U mono⟩
  have hv:p.rel ρ s.H (Xo X ρ s.H) W l:=by
   rw[<- ht];exact o7 J (fun x u C=>vu (fun r V B=>by simp at B) (fun j _ G=> .inl G) C)
  show iu b ty w0 O X (s.put (some d) p) cs' _ _;refine⟨by rw[f5];exact h1,by rw[jL,fg];exact ab,ρ,by rw[fK];exact E,oy ab T hv,hO,hX,?_⟩;rw[fK];exact R.weaken fun j _ G=> .inl G
 have Y:F≠[]:=by rw[<- hF];simpa using S
 have av:=hd Y;have al:iW s d p F=AS.put ⟨s.tmps,aw s.H d F⟩ (some d) p:=by
  unfold iW;rw[if_neg (by simpa using Y)]
 rw[al]
 let f:Nat->Option (Nat×Nat):=fun r=>if r<Q.res.fam.length then ρc 0 r else none
 have aa: ∀r j n,f r=some (j,n)->(∃V,Q.res.fam[r]?=some V)/\ρc 0 r=some (j,n):=fun r j n h=>by
  simp only[f]at h;split at h
  ·rename_i ae;exact⟨⟨_,aau ae⟩,h⟩
  cases h
 have L: ∀(r j n:Nat),f r=some (j,n)->w.heap.size<=j:=fun r j n h=>by
  obtain⟨⟨V,B⟩,g⟩:=aa r j n h;have:=hi.old 0 r V j n (by simpa[famH] using B) g;rcases this.1 with h|h
  ·exact h
  exact absurd (h▸ .inl hX) this.2
 have ad: ∀j,Xo X (newρ ρ d f) (aw s.H d F) j->Xo (Xo X ρ s.H) ρc (famH 0 Q.res.fam) j:=fun j G=>by
  rcases G with G|⟨x',y',V,n,g1,U⟩
  ·exact .inl (.inl G)
  by_cases y:x'=d
  ·subst y;rw[newρ_eq]at U;obtain⟨⟨o2,I⟩,g3⟩:=aa y' j n U;exact .inr ⟨0,y',o2,n,by simpa[famH] using I,g3⟩
  rw[aD y]at g1;rw[newρ_ne y]at U;exact .inl (.inr ⟨x',y',V,n,g1,U⟩)
 have mono: ∀x u,AV.rel ρ s.H (Xo X ρ s.H) w x u->AV.rel (newρ ρ d f) (aw s.H d F) (Xo X (newρ ρ d f) (aw s.H d F)) W x u:=fun x u C=>by
  refine nT (.inl hX) A (fun x r o q=>?_) (fun x r o M c q hb ae=>?_) C
  ·have y:x≠d:=by rintro rfl;rw[av]at q;simp at q
   exact⟨o,by rw[aD y];exact q,rfl,aaq _,newρ_ne y r⟩
  by_cases y:x=d
  ·subst y;rw[newρ_eq]at hb;have:=L r M c hb;omega
  rw[aD y]at q;rw[newρ_ne y]at hb;exact .inr ⟨x,r,o,c,q,hb⟩
 have ac: ∀x u,AV.rel ρc (famH 0 Q.res.fam) (Xo (Xo X ρ s.H) ρc (famH 0 Q.res.fam)) W x u->AV.rel (newρ ρ d f) (aw s.H d F) (Xo X (newρ ρ d f) (aw s.H d F)) W (bY d x) u:=fun x u C=>by
  refine vu (fun r V B=>?_) (fun j _ G=>ad j G) C;rw[aM,newρ_eq];simp only[f];rw[if_pos (aaf.1 B).1,<- hF,u9,B];exact⟨rfl,rfl⟩
 have E:Inv w0 O X (aw s.H d F) (newρ ρ d f) W:=by
  refine⟨m.keep.but A (.inr hO),fun x r o q=>?_,fun x r x' r' o V j c c' q B J D=>?_,fun x r o j c q J=>?_,fun j G=>aas (m.bar j G) A.size,fun x r o q=>?_⟩
  ·by_cases y:x=d
   ·subst y;rw[aM,<- hF,u9]at q;obtain⟨o2,I,rfl⟩:=u6.1 q;have ag:=hi.objs 0 r o2 (by simpa[famH] using I);obtain⟨z1,z2,z3⟩:=ag;refine⟨fun e he=>?_,z2,?_⟩
    ·simp only[renO,aai]at he;obtain⟨e',Z,rfl⟩:=he;rw[aa0];exact z1 e' Z
    rw[newρ_eq];simp only[f];rw[if_pos (aaf.1 I).1];cases ah:ρc 0 r with
    |none=>rw[ah]at z3;simp[renO,z3]
    |some bc=>
     obtain⟨j,n⟩:=bc;rw[ah]at z3;obtain⟨cells,p1,p2,p3,p4,p5⟩:=z3;refine⟨cells,p1,p2,by simpa[renO] using p3,p4,fun i e j z he hz=>?_⟩;simp only[renO,u9]at he;obtain⟨e',Z,rfl⟩:=u6.1 he;rw[u9]at hz;obtain⟨z',ap,rfl⟩:=u6.1 hz;obtain⟨u,u1,u2,u3⟩:=p5 i e' j z' Z ap;exact⟨u,u1,u2,ac z' u u3⟩
   rw[aD y]at q;exact dO (m.objs x r o q) (newρ_ne y r) (fun M c N=>af x r o M c q N) mono
  ·by_cases C:x=d
   ·subst C;rw[newρ_eq]at J;by_cases K:x'=x
    ·subst K;rw[newρ_eq]at D;obtain⟨⟨o1,a1⟩,g1⟩:=aa r j c J;obtain⟨⟨o2,I⟩,U⟩:=aa r' j c' D;exact⟨rfl,(hi.inj 0 r 0 r' o1 o2 j c c' (by simpa[famH] using a1) (by simpa[famH] using I) g1 U).2⟩
    rw[newρ_ne K]at D;rw[aD K]at B;have:=bf (m.objs x' r' V B) D;have:=L _ _ _ J;omega
   rw[newρ_ne C]at J;rw[aD C]at q;by_cases K:x'=d
   ·subst K;rw[newρ_eq]at D;have:=bf (m.objs x r o q) J;have:=L _ _ _ D;omega
   rw[newρ_ne K]at D;rw[aD K]at B;exact m.inj x r x' r' o V j c c' q B J D
  ·by_cases C:x=d
   ·subst C;rw[newρ_eq]at J;have:=L _ _ _ J;have hk:=m.keep.size;exact⟨.inl (by omega),fun hX=>by have:=m.bar j hX;omega⟩
   rw[newρ_ne C]at J;rw[aD C]at q;exact m.old x r o j c q J
  by_cases C:x=d
  ·subst C;rw[aM,<- hF,u9]at q;obtain⟨o2,I,rfl⟩:=u6.1 q;intro e he z hz;simp only[renO,aai]at he;obtain⟨e',Z,rfl⟩:=he;simp only[aai]at hz;obtain⟨z',ap,rfl⟩:=hz;exact dv _ _
  rw[aD C]at q;exact m.self x r o q
 have T:aX X (newρ ρ d f) ⟨s.tmps,aw s.H d F⟩ a W:=fun k x C=>by
  obtain⟨u,g1,U⟩:=an k x C;exact⟨u,g1,TV.rel_map U mono⟩
 have hv:p.rel (newρ ρ d f) (aw s.H d F) (Xo X (newρ ρ d f) (aw s.H d F)) W l:=by
  rw[<- ht];exact o7 J ac
 refine⟨by rw[f5];exact h1,by rw[jL,fg];exact ab,newρ ρ d f,by rw[fK];exact E,oy (s:=⟨s.tmps,aw s.H d F⟩) ab T hv,hO,hX,?_⟩;rw[fK];exact R.weaken fun j _ G=>ad j G
theorem Pl (h:oz (ib t p)=true):ib t p=p:=by
 unfold ib at h⊢;split
 ·rename_i a r c len;simp only at h;split at h<;>cases h
 ·cases h
 rfl
theorem Am {C:OH} {m:TV} (h:oz m=true) (B:m.rel ρ t f w l):m.rel u C g W l:=by
 have y: ∀x n,rC x=true->AV.rel ρ t f w x n->AV.rel u C g W x n:=fun x n o N=>by
  cases x with
  |p x=>
   cases x with
   |raw z=>
    obtain⟨rfl,G⟩:=aV (ρ:=ρ) (H:=t) N;exact bQ.raw _ G
   |sl T=>cases o
   |ptr cs=>cases o
  |sl a r Q len=>cases o
  |ptr a r i j=>cases o
  |junk=>cases o
  |fn=>cases o
 have agg: ∀cs l,cs.all rC=true->bI ρ t f w cs l->bI u C g W cs l:=fun cs l K ⟨vs,D,E,F⟩=>by
  simp only[aah]at K;exact⟨vs,D,E,fun j x o=>by obtain⟨n,I,A,J⟩:=F j x o;exact⟨n,I,A,y x n (K x (u5 o)) J⟩⟩
 cases m with
 |one x=>exact y x l h B
 |agg cs=>exact agg cs l h B
 |fn e cs=>obtain⟨n,G,M⟩:=B;exact⟨n,agg cs n h G,M⟩
 |tup S=>
  simp only[oz,aah]at h;obtain⟨vs,D,E,F⟩:=B;refine⟨vs,D,E,fun j c cs L=>?_⟩;obtain⟨n,I,A⟩:=F j c cs L;have q:=h (c,cs) (u5 L);refine⟨n,I,?_⟩;rcases A with⟨A,J⟩|⟨A,x,rfl,R⟩
  ·exact .inl ⟨A,agg _ _ (by simpa only[aah] using q) J⟩
  exact .inr ⟨A,_,rfl,y x n (q x (by simp)) R⟩
def PO:PV->Bool
 | .raw _=>true
 |_=>false
def lentOk (args:List TV) (res:CallRes) (cs:List PV):Bool:=args.all oz||!res.plain||cs.all PO
theorem kN.raw {Y g:Nat->Prop} (e:cs.all PO=true) (h:kN b ty cs Y w):kN b ty cs g w:=by
 obtain⟨cells,c,l,m,n,o,p,q⟩:=h;refine⟨cells,c,l,m,n,o,p,fun j x f=>?_⟩;obtain⟨v,r,t,u⟩:=q j x f;rw[aah]at e;have:=e x (u5 f);cases x with
 |raw z=>cases u with|raw _ h=>exact⟨_,r,t,.raw _ h⟩
 |sl y=>cases this
 |ptr cs=>cases this
theorem zR {m:cB P} {d:Nat} (h1:a.defers=[]) (T:a.tmps.size=s.tmps.length) (g:Inv w0 O X s.H ρ w) (U:aX X ρ s a w) (hO:O b) (K:X b) (I:kN b ty cs (Xo X ρ s.H) w) (L:lentOk m.args m.res cs'=true) (q:CallT P b ty m.f m.args cs m.res cs') {Z:List TV} (W:Z.map (ib s.H)=m.args) (c3:Z.all (dV m.res.plain s.H)=true) {vs:Array Value} (V:vs.size=Z.length) (hv: ∀(j:Nat) p,Z[j]?=some p-> ∃v:Value,vs[j]?=some v/\p.rel ρ s.H (Xo X ρ s.H) w v) {F:List OObj} (ht:renTV d m.res.r=p) (hF:m.res.fam.map (renO d)=F) (R:F≠[]->s.H d=[]):
  Calls P m.f vs w fun e w1=> ∃v,e= .returned v/\iu b ty w0 O X (iW s d p F) cs' (a.put (some d) v) w1:=by
 obtain⟨_,q⟩:=q;have A: ∀j,Xo X ρ s.H j->j<w.heap.size:=fun j C=>by
  rcases C with C|⟨x,y,o',n,g1,g2⟩
  ·exact g.bar j C
  exact bf (g.objs x y o' g1) g2
 simp only[aah]at c3;by_cases l:m.args.all oz=true\/m.res.plain=false
 ·refine(q (Xo X ρ s.H) w vs A (.inl K) I ?_ ?_).mono ?_
  ·rw[<- W];simp[V]
  ·intro j u Q;have hu0:=Q;rw[<- W,u9]at Q;obtain⟨t0,D,rfl⟩:=u6.1 Q;obtain⟨v,v1,v2⟩:=hv j t0 D;refine⟨v,v1,?_⟩;rcases l with J|G
   ·have M:oz (ib s.H t0)=true:=by
     rw[aah]at J;exact J _ (u5 hu0)
    have ac:=Pl M;rw[ac]at M⊢;exact Am M v2
   have:=c3 t0 (u5 D);rw[G]at this;exact rm g.objs (fun _ h=>h) (fun h=>by cases h) v2 this
  rintro e w1 ⟨v,rfl,N,Y,hr,B⟩;exact⟨v,rfl,DN h1 T g U hO K ht hF R Y hr B⟩
 have ad:m.args.all oz=false:=by simpa using fun h=>l (.inl h)
 have G:m.res.plain=true:=by simpa using fun h=>l (.inr h)
 have ab:cs'.all PO=true:=by
  unfold lentOk at L;rw[ad,G]at L;simpa using L
 have z:=G;unfold CallRes.plain at z;rw[aaF]at z;have S:m.res.fam=[]:=adc.1 z.1;refine(q (fun j=>j=b) w vs (fun j C=>by subst C;exact A j (.inl K)) rfl (I.weaken fun j _ C=>by subst C;exact .inl K) ?_ ?_).mono ?_
 ·rw[<- W];simp[V]
 ·intro j u Q;rw[<- W,u9]at Q;obtain⟨t0,D,rfl⟩:=u6.1 Q;obtain⟨v,v1,v2⟩:=hv j t0 D;refine⟨v,v1,?_⟩;exact Ag g.objs (fun j C=>by subst C;exact .inl K) (fun _ x y o b' c E B aa=>by subst aa;exact(g.old x y o b' c E B).2 K) v2 (c3 t0 (u5 D))
 rintro e w1 ⟨v,rfl,N,Y,hr,B⟩;refine⟨v,rfl,DN h1 T g U hO K ht hF R (ρc:=N) ?_ (Am z.2 hr) (B.raw ab)⟩;rw[S];exact⟨Y.keep,fun x r o E=>by simp[famH]at E,fun x r x' r' o o' j c c' E=>by simp[famH]at E,fun x r o j c E=>by simp[famH]at E,fun j C=>aas (A j C) Y.keep.size,fun x r o E=>by simp[famH]at E⟩
theorem SZ {u:List (cB P)} {i:Nat} {s1:AS} (V:iu b ty w0 O X s cs a w) {c:Call} (N:q.op= .call c) (l:c.callee= .value j) (hy:(∃f,j= .func f)\/ ∃k,j= .tmp k) {R:cB P} (U:u.find? (·.i==i)=some R) (G:lentOk R.args R.res cs'=true) (z:CallT P b ty R.f R.args cs R.res cs') (h:dG P u m i q s=some s1) {K:Act->World->Prop} {Q:Exit->Act->World->Prop} (hK: ∀v w',iu b ty w0 O X s1 cs' (a.put q.dst v) w'->K (a.put q.dst v) w'):q.wp P a w K Q:=by
 obtain⟨h1,W,ρ,E,B,hO,hX,C⟩:=V;have hM:nH q.op=false:=by rw[N];show SQ c.callee=false;rw[l];rfl
 have hR:yD q.op=false:=by
  obtain⟨callee,args,ae⟩:=c;simp only at l;subst l;rw[N];rfl
 have hD:gn P s.ev s.H q.op=none:=by
  obtain⟨callee,args,ae⟩:=c;simp only at l;subst l;rw[N];rfl
 unfold dG at h;simp only[hM,hR,hD,aa5,if_false]at h;obtain⟨d,t,F,D,p,T,ac⟩: ∃d t F,q.dst=some d/\b9 P u m i d s.ev s.H q.op=some (t,F)/\(F≠[]->s.H d=[])/\s1=iW s d t F:=by
  split at h
  ·cases h
  rename_i d hd;split at h
  ·rename_i t J;injection h with h
   exact⟨d,t,[],hd,J,fun h=>absurd rfl h,by rw[<- h];rfl⟩
  ·rename_i t F S J;split at h
   ·rename_i hH;injection h with h
    refine⟨d,t,F,hd,J,fun _=>hH,?_⟩;rw[<- h];unfold iW;rw[if_neg (by intro h;exact S (adc.1 h))]
   cases h
  cases h
 subst ac;rw[N]at p;rcases hy with⟨f,rfl⟩|⟨k,rfl⟩
 ·simp only[b9,l]at p;rw[U]at p;split at p
  ·rename_i ad ts n L;injection n with n
   subst n;split at p
   ·rename_i hc;obtain⟨c1,c2,c3,_⟩:=hc;injection p with p
    injection p with J S
    subst c1;obtain⟨I,e2⟩:=bP L;have A:=f9 (w:=w) N l (e:=a.eval) rfl z.1;unfold Oper.wp;rw[A];simp only[Oper.upon];refine(zR h1 W E B hO hX C G z c2 c3 (vs:=c.args.map a.eval) (by simp[I]) (fun g t0 r=>?_) J S T).mono ?_
    ·obtain⟨x,Y,M⟩:=e2 g t0 r;exact⟨a.eval x,by rw[aaS];simp at Y;rw[Y];rfl,be B x t0 M⟩
    rintro e Z ⟨v,rfl,hr⟩;show K (a.put q.dst v) Z;refine hK v Z ?_;rw[D];exact hr
   cases p
  cases p
 simp only[b9,l]at p;rw[U]at p;split at p
 ·rename_i f aa ad ts ab n L;injection n with n
  subst n;split at p
  ·rename_i hc;obtain⟨c1,c2,c3,_⟩:=hc;injection p with p
   injection p with J S
   subst c1;obtain⟨I,e2⟩:=bP L;obtain⟨us,k1,k2,k3⟩:=j8 (v:=a.eval (.tmp k)) (fun t0 r=>be B (.tmp k) t0 r) ab;have A:=km (w:=w) N l (e:=a.eval) k1 z.1;unfold Oper.wp;rw[A];simp only[Oper.upon];refine(zR h1 W E B hO hX C G z c2 c3 (vs:=c.args.map a.eval++us) (by simp[I,k2]) (fun g t0 r=>?_) J S T).mono ?_
   ·by_cases hj:g<ts.length
    ·rw[aal hj]at r;obtain⟨x,Y,M⟩:=e2 g t0 r;exact⟨a.eval x,by rw[aaz (by simp at I⊢;omega),aaS];simp at Y;rw[Y];rfl,be B x t0 M⟩
    rw[aap (by omega)]at r;obtain⟨v,v1,v2⟩:=k3 _ t0 r;exact⟨v,by rw[aaM (by simp at I⊢;omega)];simp at I⊢;rw[<- I];exact v1,v2⟩
   rintro e Z ⟨v,rfl,hr⟩;show K (a.put q.dst v) Z;refine hK v Z ?_;rw[D];exact hr
  cases p
 cases p
end
end
section
theorem TI {res:CallRes} {r:TV} (B:Inv w f g s.H u W) (v2:r.rel u s.H (Xo g u s.H) W l) (Q:uE s.H n r) (K:res.fam=(s.H n).map (renO 0)) (hr:res.r=renTV 0 r):
  ∃A:Rho,Inv w f g (famH 0 res.fam) A W/\res.r.rel A (famH 0 res.fam) (Xo g A (famH 0 res.fam)) W l/\ ∀b,Xo g A (famH 0 res.fam) b->Xo g u s.H b:=by
 obtain⟨C,h5⟩:=yj Q;have Y: ∀(k:Nat) o,(famH 0 res.fam 0)[k]?=some o-> ∃I,(s.H n)[k]?=some I/\o=renO 0 I:=fun k o E=>by
  simp only[famH,if_true,K,u9]at E;obtain⟨I,D,N⟩:=u6.1 E;exact⟨I,D,N.symm⟩
 have R: ∀(x k:Nat) o,(famH 0 res.fam x)[k]?=some o->x=0:=fun x k o E=>by
  by_cases G:x=0
  ·exact G
  simp[famH,G]at E
 have aa: ∀b,Xo g (fun _ k=>u n k) (famH 0 res.fam) b->Xo g u s.H b:=fun b hb=>by
  rcases hb with hb|⟨x,k,o,q,D,N⟩
  ·exact .inl hb
  have:=R x k o D;subst this;obtain⟨I,g3,_⟩:=Y k o D;exact .inr ⟨n,k,I,q,g3,N⟩
 have F: ∀x t,bs n x->AV.rel u s.H (Xo g u s.H) W x t->AV.rel (fun _ k=>u n k) (famH 0 res.fam) (Xo g (fun _ k=>u n k) (famH 0 res.fam)) W (bY 0 x) t:=jt (c:=bs n) (fun _ _ _ _ _ _ h=>h.1) (mb 0) fun x t hn L G=>by
  cases x with
  |fn=>cases hn
  |p x=>exact bQ.weaken (fun b _ hb=>aa b hb) G
  |sl x k ag len=>
   have L:x=n:=L;subst L;obtain⟨o,D,N,g3⟩:=G;have h6:x<=4999:=h5.resolve_right fun h=>by rw[h]at D;simp at D
   exact⟨renO 0 o,by simp[famH,K,D],by simpa[renO] using N,nf (ρ':=fun _ k=>u x k) (a':=0) (r':=k) h6 g3 rfl⟩
  |ptr x k i j=>
   have L:x=n:=L;subst L;obtain⟨o,b,c,D,N,g3,g4⟩:=G;exact⟨renO 0 o,b,c,by simp[famH,K,D],N,by simpa[renO] using g3,g4⟩
  |junk=>trivial
 have ab: ∃A:Rho,Inv w f g (famH 0 res.fam) A W/\res.r.rel A (famH 0 res.fam) (Xo g A (famH 0 res.fam)) W l/\ ∀b,Xo g A (famH 0 res.fam) b->Xo g u s.H b:=by
  refine⟨fun _ k=>u n k,⟨B.keep,fun x k o E=>?_,fun x k x' k' o I b c c' E ac U af=>?_,fun x k o b c E U=>?_,B.bar,fun x k o E=>?_⟩,?_,aa⟩
  ·have:=R x k o E;subst this;obtain⟨I,D,rfl⟩:=Y k o E;obtain⟨z1,z2,z3⟩:=B.objs n k I D;refine⟨fun e T=>?_,z2,?_⟩
   ·simp only[renO,aai]at T;obtain⟨e',J,rfl⟩:=T;rw[aa0];exact z1 e' J
   cases P:u n k with
   |none=>rw[P]at z3;simp only[P];simp[renO,z3]
   |some bc=>
    obtain⟨b,q⟩:=bc;rw[P]at z3;obtain⟨cells,p1,p2,p3,p4,p5⟩:=z3;simp only[P];refine⟨cells,p1,p2,by simpa[renO] using p3,p4,fun i e j z T R=>?_⟩;simp only[renO,u9]at T;obtain⟨e',J,rfl⟩:=u6.1 T;rw[u9]at R;obtain⟨z',V,rfl⟩:=u6.1 R;obtain⟨t,u1,S,u3⟩:=p5 i e' j z' J V;exact⟨t,u1,S,F z' t (B.self n k I D e' (u5 J) z' (u5 V)) u3⟩
  ·have e1:=R x k o E;have e2:=R x' k' I ac;subst e1 e2;obtain⟨o1,D,_⟩:=Y k o E;obtain⟨o2,N,_⟩:=Y k' I ac;exact⟨rfl,(B.inj n k n k' o1 o2 b c c' D N U af).2⟩
  ·have e1:=R x k o E;subst e1;obtain⟨o1,D,_⟩:=Y k o E;exact B.old n k o1 b c D U
  ·have e1:=R x k o E;subst e1;obtain⟨o1,D,rfl⟩:=Y k o E;intro e T z ae;simp only[renO,aai]at T;obtain⟨e',J,rfl⟩:=T;simp only[aai]at ae;obtain⟨z',V,rfl⟩:=ae;exact dv _ _
  rw[hr];have agg: ∀M t,(∀x∈M,bs n x)->bI u s.H (Xo g u s.H) W M t->bI (fun _ k=>u n k) (famH 0 res.fam) (Xo g (fun _ k=>u n k) (famH 0 res.fam)) W (M.map (bY 0)) t:=fun M t L h=>by
   obtain⟨us,h1,h2,h3⟩:=h;refine⟨us,h1,by simpa using h2,fun j x G=>?_⟩;rw[u9]at G;obtain⟨y,hy,rfl⟩:=u6.1 G;obtain⟨u',u1,S,u3⟩:=h3 j y hy;exact⟨u',u1,S,F _ _ (L y (u5 hy)) u3⟩
  cases r with
  |one x=>exact F x l C v2
  |agg M=>exact agg M l C v2
  |fn m M=>obtain⟨t,h1,h2⟩:=v2;exact⟨t,agg M t C h1,h2⟩
  |tup ts=>
   obtain⟨us,h1,h2,h3⟩:=v2;refine⟨us,h1,by simpa using h2,fun j b M G=>?_⟩;rw[u9]at G;obtain⟨y,hy,ad⟩:=u6.1 G;obtain⟨b',Z⟩:=y;simp at ad;obtain⟨rfl,rfl⟩:=ad;obtain⟨t,u1,S⟩:=h3 j b' Z hy;have L:=C (b',Z) (u5 hy);refine⟨t,u1,?_⟩;rcases S with⟨S,u3⟩|⟨S,x,rfl,u4⟩
   ·exact .inl ⟨S,agg _ _ L u3⟩
   exact .inr ⟨S,_,rfl,F _ _ (L x (by simp)) u4⟩
 exact ab
section
variable {P:Program} {b:Nat} {ty:TypeId} {cs cs':List PV} {Q:Exit->AS->List PV->Prop} {s:AS}
theorem kA {fn:Func} {args:List TV} {res:CallRes} (hf:P.funcs[h]?=some fn) (hb:fn.body=some c) (hn:callable P h=true) (g:dW P b ty c (fun e s k=>(e= .normal\/e= .ret)/\k=cs'/\ ∃W,bD s W/\np P fn res W) ⟨args++List.replicate (fn.ntmps-args.length) .undef,fun _=>[]⟩ cs):CallT P b ty h args cs res cs':=by
 refine⟨hn,fun X w vs Z M F O z=>?_⟩;refine calls_of_wp hf hb ?_;have E: ∀j,j<w.heap.size->Xo X (fun _ _=>none) (fun _=>[]) j->X j:=fun j _ g=>by
  rcases g with g|⟨a,r,o,c,q,Y⟩
  ·exact g
  cases Y
 have H:iu b ty w (fun j=>j=b) X ⟨args++List.replicate (fn.ntmps-args.length) .undef,fun _=>[]⟩ cs {tmps:=vs++Array.replicate (fn.ntmps-vs.size) undef,defers:=[]} w:=by
  refine⟨rfl,by simp[O],fun _ _=>none,⟨Keep.refl w,fun a r o A=>by simp at A,fun a r S r' o o' b c c' A=>by simp at A,fun a r o b c A=>by simp at A,Z,fun a r o A=>by simp at A⟩,fun t x n=>?_,rfl,M,F.weaken E⟩;by_cases ht:t<args.length
  ·rw[aal ht]at n;obtain⟨v,L,R⟩:=z t x n;refine⟨v,by rw[aaz (by omega)];exact L,TV.rel_map R (fun y u K=>?_)⟩;cases y with
   |p y=>exact bQ.weaken E K
   |sl a r ac len=>obtain⟨o,q,_⟩:=K;simp at q
   |ptr a r i j=>obtain⟨o,_,_,q,_⟩:=K;simp at q
   |fn h a qs=>exact(oQ (fun _=>rfl) K).elim
   |junk=>trivial
  rw[aap (by omega),aaY]at n;split at n
  ·rename_i aa;injection n with n
   subst n;refine⟨undef,?_,dI⟩;rw[aaM (by omega),abo,if_pos (by omega)]
  cases n
 refine wp_mono (g _ _ _ _ _ H) fun e S w' ⟨s1,k,⟨he,hk,s2,hw,r,a0,I,C,G,hr⟩,B⟩=>?_
 subst hk;obtain⟨q,ab,ρ,m,D,_,_,l⟩:=B.weak hw;have D:aX X ρ s2 S w':=D;obtain⟨v,L,R⟩:=eA m D I;obtain⟨J,T,U,V⟩:=TI m R C G hr;rcases he with rfl|rfl
 ·exact⟨q,v,L,v,rfl,J,T,U,l.weaken fun j _ N=>V j N⟩
 exact⟨q,v,L,v,rfl,J,T,U,l.weaken fun j _ N=>V j N⟩
/-! Regions. -/
theorem Gb {e c:List (cB P)} {i d:Nat} {ev:Operand->Option TV} {op:Op} (h:e.find? (·.i==i)=c.find? (·.i==i)):b9 P e m i d ev t op=b9 P c m i d ev t op:=by
 cases op<;>simp only[b9,h]
theorem yH {f c:List (cB P)} {g:Array Oper} {i:Nat} (h:f.find? (·.i==i)=c.find? (·.i==i)):aS P f m g i q s=aS P c m g i q s:=by
 have e:dG P f m i q s=dG P c m i q s:=by
  unfold dG;simp only[Gb h]
 unfold aS;simp only[e]
def jQ (e:Array Oper) (m:Nat):Bool:=match e[m]? with
 |some o=>o.guard.isNone&&(match o.op with
  | .call c=>(match c.callee with
   | .value (.func _)=>true
   | .value (.tmp _)=>true
   |_=>false)
  |_=>false)
 |none=>false
theorem DM {e:Array Oper} (h:jQ e n=true) (t:e[n]?=some q):q.guard=none/\ ∃c y,q.op= .call c/\c.callee= .value y/\((∃f,y= .func f)\/ ∃k,y= .tmp k):=by
 unfold jQ at h;rw[t]at h;simp only[aaF]at h;obtain⟨l,g⟩:=h;refine⟨by simpa using l,?_⟩;split at g
 ·rename_i c j;split at g
  ·rename_i f p;exact⟨c,_,j,p,.inl ⟨f,rfl⟩⟩
  ·rename_i k r;exact⟨c,_,j,r,.inr ⟨k,rfl⟩⟩
  cases g
 cases g
theorem Gp {c:List (ao P)} {e:cB P} {i:Nat} (h:i≠e.i):(c.map ao.a++[e]).find? (·.i==i)=(c.map ao.a).find? (·.i==i):=by
 rw[List.find?_append];have:[e].find? (·.i==i)=none:=by simp[abD h]
 rw[this,Option.or_none]
theorem KY {e:List (ao P)} {f:cB P} (h:e.all (fun c=>c.i !=f.i)=true):(e.map ao.a++[f]).find? (·.i==f.i)=some f:=by
 rw[List.find?_append];have:(e.map ao.a).find? (·.i==f.i)=none:=by
  rw[List.find?_eq_none];intro x j;obtain⟨c,g,rfl⟩:=aai.1 j;rw[aah]at h;have:=h c g;simpa[ao.a] using this
 rw[this]
 simp
theorem Ay {a:Act} (j:List (ao P)) (l:cB P) {n:Array Oper} {i:Nat} (I:n[i]?=some q) (H:jQ n l.i=true) (G:j.all (fun c=>c.i !=l.i)=true) (t:lentOk l.args l.res cs'=true) (r:CallT P b ty l.f l.args cs l.res cs') {x:List PV} (L:i=l.i->x=cs) {C:AS} (p:iu b ty w f g s x a W) (h:aS P (j.map ao.a++[l]) m n i q s=some C) {K:Act->World->Prop} {Q:Exit->Act->World->Prop} (u: ∀v z,iu b ty w f g C (if i=l.i then cs' else x) (a.put q.dst v) z->K (a.put q.dst v) z):if Region.wanted q (yielded n a.tmps)then q.wp P a W K Q else K (a.put q.dst undef) W:=by
 by_cases y:i=l.i
 ·have A:=L y;subst y A;obtain⟨B,c,e,D,E,F⟩:=DM H I;rw[if_pos (by simp[Region.wanted,B])];unfold aS at h;rw[B]at h;simp only[if_true]at u;exact SZ p D E F (KY G) t r h u
 rw[yH (Gp y)]at h;obtain⟨Own,M,N⟩:=p.rebase;simp only[if_neg y]at u;exact iZ (ao.ok j) M h fun v z J=>u v z (N _ _ _ J)
theorem Ar {w0:World} {O X:Nat->Prop} (g:List (ao P)) (m:cB P) {M:List Nat} {n:Array Oper} (G:jQ n m.i=true) (F:g.all (fun c=>c.i !=m.i)=true) (q:lentOk m.args m.res cs'=true) (p:CallT P b ty m.f m.args cs m.res cs') {Q:Exit->Act->World->Prop}:
  ∀(l:List Oper) (k:Nat) (s t:AS) (a:Act) (w:World),(∀(j:Nat) o,l[j]?=some o->n[k+j]?=some o)->f7 P (g.map ao.a++[m]) M n (l.zipIdx k) s=some t->iu b ty w0 O X s (if k<=m.i then cs else cs') a w->
   (∀y u,iu b ty w0 O X t (if k+l.length<=m.i then cs else cs') y u->Q .normal y u)->wpOps P n Q (List.range' k l.length) a w
 |[],k,s,t,a,w,_,h,r,z=>by
  simp only[acw,f7]at h;injection h with h
  subst h;exact z a w r
 |o::l,k,s,t,a,w,H,h,r,z=>by
  simp only[abO,f7]at h;split at h
  ·rename_i N B;simp only[aaG,aa1,wpOps];have I:n[k]?=some o:=by have:=H 0 o rfl;simpa using this
   rw[I];simp only;have:=Ay (Q:=Q) g m I G F q p (x:=if k<=m.i then cs else cs') (fun R=>if_pos (by omega)) r B (K:=wpOps P n Q (List.range' (k+1) l.length)) (fun v u J=>Ar g m G F q p l (k+1) N t _ _ (fun j o L=>by have:=H (j+1) o (by simpa using L);rwa[show k+(j+1)=k+1+j by omega]at this) h (by
    have e:(if k=m.i then cs' else if k<=m.i then cs else cs')=if k+1<=m.i then cs else cs':=by
     by_cases D:k=m.i
     ·rw[if_pos D,if_neg (by omega)]
     rw[if_neg D];by_cases E:k<=m.i
     ·rw[if_pos E,if_pos (by omega)]
     rw[if_neg E,if_neg (by omega)]
    rw[e]at J;exact J) (fun y u A=>z y u (by rw[aaG,show k+(l.length+1)=k+1+l.length by omega];exact A)))
   split at this
   ·rename_i C;rw[if_pos C];exact .inl this
   rename_i C;rw[if_neg C];exact this
  cases h
theorem zr (m:Nat) {args:List TV} {res:CallRes} (q:CallT P b ty h args cs res cs') (n:List (ao P)) (z:List Nat) {id:Nat} {l:Array Oper} (u:jQ l m=true) (D:n.all (fun c=>c.i !=m)=true) (t:lentOk args res cs'=true) (g:aT P (n.map ao.a++[⟨m,h,args,res⟩]) z (aJ l l.toList 0) (some s) (fun p=>Q .normal p cs')):dW P b ty (.region id l false) Q s cs:=fun v O X a w r=>by
 obtain⟨p,B,C⟩:=aO P _ z l l.toList 0 s _ g;refine wp_region ?_;rw[aax];have G:m<l.size:=by
  unfold jQ at u;split at u
  ·rename_i o F;exact(aan.1 F).1
  cases u
 have:=Ar (w0:=v) (O:=O) (X:=X) n ⟨m,h,args,res⟩ u D t q (Q:=fun e x A=> ∃p k,Q e p k/\iu b ty v O X p k x A) l.toList 0 s p a w (fun j o E=>by simpa using E) B (by simpa using r) (fun x A y=>⟨p,cs',C,by
  rw[if_neg (by simp;omega)]at y;exact y⟩)
 simpa using this
theorem zq (L:P.follows .mixedOrders=true) (m:Nat) {args:List TV} {res:CallRes} (z:CallT P b ty h args cs res cs') (n:List (ao P)) (F:List Nat) {id:Nat} {l:Array Oper} (S:bX [] l=true) (G:jQ l m=true) (hF:n.all (fun c=>c.i !=m)=true) (D:lentOk args res cs'=true) (g:aT P (n.map ao.a++[⟨m,h,args,res⟩]) F (aJ l l.toList 0) (some s) (fun I=>Q .normal I cs')):dW P b ty (.region id l true) Q s cs:=fun R O X a w r=>by
 obtain⟨U,h1,h2⟩:=aO P _ F l l.toList 0 s _ g;have T:m<l.size:=by
  unfold jQ at G;split at G
  ·rename_i o C;exact(aan.1 C).1
  cases G
 refine wp_region_any L ?_;have E:cw P (n.map ao.a++[⟨m,h,args,res⟩]) F l (List.range l.size) s=some U:=by
  rw[aax];have:=fA (P:=P) (items:=n.map ao.a++[⟨m,h,args,res⟩]) (ow:=F) l.toList 0 s (fun j o B=>by simpa using B);rw[h1]at this;simpa using this.symm
 have q:iu b ty R O X s cs a {w with drawn:=w.drawn+1}:=by
  obtain⟨Own,Y,Z⟩:=r.rebase;obtain⟨q1,q2,V,A,u⟩:=Y;have e:Ext w {w with drawn:=w.drawn+1}:=⟨rfl,rfl,rfl,aaq _,fun _ _=>rfl⟩;have u:aX X V s a w:=u;exact Z _ _ _ ⟨q1,q2,V,A.grow e,u.grow e⟩
 refine mA (sep:=[]) (kB S (by simp)) S (Q:=fun e W N=> ∃I k,Q e I k/\iu b ty R O X I k W N) (fun p s a w=>iu b ty R O X s (if p m then cs' else cs) a w) ⟨d9 r.rel,fun x hx=>by simp at hx⟩ E (fun p a w y H=>⟨U,cs',h2,by
  rw[if_pos (y m T)]at H;exact H⟩) (fun p i o s s1 a w K C M _ hs H hK=>?_) l.size (Array.replicate l.size false) s a _ (by simp) ?_ ?_ ?_ ?_
 ·refine Ay n ⟨m,h,args,res⟩ C G hF D z (x:=if p m then cs' else cs) (fun t=>?_) H hs (fun v N q=>hK v N ?_)
  ·have t:i=m:=t;subst t;rw[if_neg (by simp[M])]
  by_cases t:i=m
  ·subst t;simpa[cq] using q
  have J:(m==i)=false:=by simpa using abD t
  simpa[cq,t,J] using q
 ·intro j o C hp;have B:j<l.size:=(aan.1 C).1;simp[B]at hp
 ·exact aaj (abT _ _) (by simp)
 ·have:lw l.size (fun j=>(Array.replicate l.size false).getD j true)=[]:=by
   unfold lw;rw[abN];intro j B;have:=aaK.1 B;simp[this]
  rw[this];rfl
 have:(Array.replicate l.size false).getD m true=false:=by simp[T]
 simp only[this];exact q
theorem sV (m:Nat) {args:List TV} {res:CallRes} (n:CallT P b ty h args cs res cs') (j:List (ao P)) (p:List Nat) {id:Nat} {l:Array Oper} (t:jQ l m=true) (r:j.all (fun e=>e.i !=m)=true) (o:lentOk args res cs'=true) (g: ∀K:AS->Prop,(∀q,dW P b ty c Q q cs'->K q)->aT P (j.map ao.a++[⟨m,h,args,res⟩]) p (aJ l l.toList 0) (some s) K):dW P b ty (.seq (.region id l false) c) Q s cs:=
 b8 (zr m n j p t r o (g _ fun _ g=>g))
theorem ij (m:Nat) {args:List TV} {res:CallRes} (l:CallT P b ty h args cs res cs') (g:List (ao P)) (o:List Nat) {id:Nat} {j:Array Oper} (r:jQ j m=true) (q:g.all (fun c=>c.i !=m)=true) (n:lentOk args res cs'=true) (e: ∀K:AS->Prop,(∀p,Q .normal p cs'->K p)->aT P (g.map ao.a++[⟨m,h,args,res⟩]) o (aJ j j.toList 0) (some s) K):dW P b ty (.region id j false) Q s cs:=
 zr m l g o r q n (e _ fun _ e=>e)
theorem FH (p:P.follows .mixedOrders=true) (m:Nat) {args:List TV} {res:CallRes} (n:CallT P b ty h args cs res cs') (j:List (ao P)) (q:List Nat) {id:Nat} {l:Array Oper} (v:bX [] l=true) (u:jQ l m=true) (t:j.all (fun e=>e.i !=m)=true) (o:lentOk args res cs'=true) (g: ∀K:AS->Prop,(∀r,dW P b ty c Q r cs'->K r)->aT P (j.map ao.a++[⟨m,h,args,res⟩]) q (aJ l l.toList 0) (some s) K):dW P b ty (.seq (.region id l true) c) Q s cs:=
 b8 (zq p m n j q v u t o (g _ fun _ g=>g))
theorem kw (o:P.follows .mixedOrders=true) (m:Nat) {args:List TV} {res:CallRes} (l:CallT P b ty h args cs res cs') (g:List (ao P)) (p:List Nat) {id:Nat} {j:Array Oper} (u:bX [] j=true) (t:jQ j m=true) (r:g.all (fun c=>c.i !=m)=true) (n:lentOk args res cs'=true) (e: ∀K:AS->Prop,(∀q,Q .normal q cs'->K q)->aT P (g.map ao.a++[⟨m,h,args,res⟩]) p (aJ j j.toList 0) (some s) K):dW P b ty (.region id j true) Q s cs:=
 zq o m l g p u t r n (e _ fun _ e=>e)
end
/-! A box of one's own is lent. -/
def jR (d b:Nat):AV->AV
 | .sl x r c len=>if x=d then .junk else .sl x r c len
 | .ptr x r i j=>if x=d then(if r=0/\i=0/\j=0 then .raw (.pointer (some ⟨b,0,none⟩))else .junk)else .ptr x r i j
 | .fn f x e=>if x=d then .junk else .fn f x e
 |x=>x
theorem DU (d b:Nat):pm (jR d b):=fun f x e=>by
 by_cases h:x=d
 ·exact .inl (if_pos h)
 exact .inr ⟨x,e,if_neg h,rfl,fun n q c=>⟨q,c,if_neg h⟩⟩
def tj (d b:Nat):TV->TV
 | .one x=> .one (jR d b x)
 | .agg c=> .agg (c.map (jR d b))
 | .fn f c=> .fn f (c.map (jR d b))
 | .tup e=> .tup (e.map fun t=>(t.1,t.2.map (jR d b)))
theorem M0 {P:Program} {Q:Exit->AS->Prop} (d:Nat) {cs:List PV} (hd:s.H d=[⟨r,cs.length,[cs.map AV.p]⟩]) (h: ∀b,dW P b r c (fun e S _=>Q e S) ⟨s.tmps.map (tj d b),aw s.H d []⟩ cs):bo P c Q s:=fun w0 O X a w l=>by
 obtain⟨h1,al,L,m,aa⟩:=l;have aa:aX X L s a w:=aa;have J:(s.H d)[0]?=some ⟨r,cs.length,[cs.map AV.p]⟩:=by rw[hd];rfl
 obtain⟨z1,z2,z3⟩:=m.objs d 0 _ J;cases N:L d 0 with
 |none=>rw[N]at z3;cases z3
 |some bc=>
  obtain⟨b,n⟩:=bc;rw[N]at z3;obtain⟨cells,p1,p2,p3,p4,p5⟩:=z3;have af:=m.old d 0 _ b n J N;have M: ∀(x y:Nat) o,(aw s.H d [] x)[y]?=some o->x≠d/\(s.H x)[y]?=some o:=fun x y o F=>by
   by_cases B:x=d
   ·subst B;rw[aM]at F;simp at F
   rw[aD B]at F;exact⟨B,F⟩
  have ad: ∀j,Xo (fun j=>X j\/j=b) L (aw s.H d []) j->Xo X L s.H j:=fun j A=>by
   rcases A with(A|rfl)|⟨x,y,o,n',I,D⟩
   ·exact .inl A
   ·exact .inr ⟨d,0,_,n,J,N⟩
   exact .inr ⟨x,y,o,n',(M x y o I).2,D⟩
  have K: ∀x v,AV.rel L s.H (Xo X L s.H) w x v->AV.rel L (aw s.H d []) (Xo (fun j=>X j\/j=b) L (aw s.H d [])) w (jR d b x) v:=gk (DU d b) fun x v hn B=>by
   cases x with
   |fn=>cases hn
   |p x=>exact bQ.weaken (fun j _ A=>ad j A) B
   |sl x l av len=>
    simp only[jR];split
    ·trivial
    rename_i C;obtain⟨o,I,D⟩:=B;exact⟨o,by rw[aD C];exact I,D⟩
   |ptr x l i j=>
    simp only[jR];split
    ·rename_i C;subst C;split
     ·rename_i hc;obtain⟨rfl,rfl,rfl⟩:=hc;obtain⟨o,b',Z,I,D,g3,g4⟩:=B;rw[N]at D;injection D with D
      injection D with D a0
      subst D;rw[g4];simp only[ab2,aa3];exact bQ.raw _ rfl
     trivial
    rename_i C;obtain⟨o,b',Z,I,D⟩:=B;exact⟨o,b',Z,by rw[aD C];exact I,D⟩
   |junk=>trivial
  have R: ∀cs v,bI L s.H (Xo X L s.H) w cs v->bI L (aw s.H d []) (Xo (fun j=>X j\/j=b) L (aw s.H d [])) w (cs.map (jR d b)) v:=fun cs v ⟨vs,I,D,g3⟩=>by
   refine⟨vs,I,by simpa using D,fun j x B=>?_⟩;rw[u9]at B;obtain⟨y,hy,rfl⟩:=u6.1 B;obtain⟨u,u1,V,u3⟩:=g3 j y hy;exact⟨u,u1,V,K y u u3⟩
  have ag:iu b r w0 (fun j=>O j\/j=b) (fun j=>X j\/j=b) ⟨s.tmps.map (tj d b),aw s.H d []⟩ cs a w:=by
   refine⟨h1,by simpa using al,L,⟨⟨m.keep.os,m.keep.tape,m.keep.output,m.keep.size,fun k hk hn=>m.keep.block k hk (fun h=>hn (.inl h))⟩,fun x y o F=>?_,fun x y x' y' o o' j c Z F G=>m.inj x y x' y' o o' j c Z (M x y o F).2 (M x' y' o' G).2,fun x y o j c F A=>?_,fun j A=>?_,fun x y o F=>m.self x y o (M x y o F).2⟩,fun t x B=>?_,.inr rfl,.inr rfl,?_⟩
   ·obtain⟨C,G⟩:=M x y o F;obtain⟨q1,q2,q3⟩:=m.objs x y o G;refine⟨q1,q2,?_⟩;cases hr:L x y with
    |none=>rw[hr]at q3;exact q3
    |some bc=>
     obtain⟨b',Z⟩:=bc;rw[hr]at q3;obtain⟨T,r1,r2,r3,r4,r5⟩:=q3;refine⟨T,r1,r2,r3,r4,fun i e j z he hz=>?_⟩;obtain⟨u,u1,V,u3⟩:=r5 i e j z he hz;have U:=m.self x y o G e (u5 he) z (u5 hz);have:=K z u u3;refine⟨u,u1,V,?_⟩;cases z with
     |sl z _ _ _=>have U:z=x:=U;subst U;simpa[jR,C] using this
     |ptr z _ _ _=>have U:z=x:=U;subst U;simpa[jR,C] using this
     |fn _ z _=>have U:z=x:=U.1;subst U;simpa[jR,C] using this
     |p z=>exact this
     |junk=>trivial
   ·obtain⟨C,G⟩:=M x y o F;obtain⟨I,D⟩:=m.old x y o j c G A;refine⟨?_,?_⟩
    ·rcases I with g|g
     ·exact .inl g
     exact .inr (.inl g)
    rintro(g|rfl)
    ·exact D g
    exact C (m.inj x y d 0 o _ j c n G J A N).1
   ·rcases A with A|rfl
    ·exact m.bar j A
    exact(aan.1 p1).1
   ·simp only[u9]at B;obtain⟨y,hy,rfl⟩:=u6.1 B;obtain⟨v,v1,Y⟩:=aa t y hy;refine⟨v,v1,?_⟩;cases y with
    |one x=>exact K x v Y
    |agg cs=>exact R cs v Y
    |fn f cs=>obtain⟨u,h1,h2⟩:=Y;exact⟨u,R cs u h1,h2⟩
    |tup ts=>
     obtain⟨vs,I,D,g3⟩:=Y;refine⟨vs,I,by simpa using D,fun j c cs A=>?_⟩;rw[u9]at A;obtain⟨z,hz,ah⟩:=u6.1 A;obtain⟨Z,ac⟩:=z;simp at ah;obtain⟨rfl,rfl⟩:=ah;obtain⟨u,u1,V⟩:=g3 j Z ac hz;refine⟨u,u1,?_⟩;rcases V with⟨V,u3⟩|⟨V,q',rfl,u4⟩
     ·exact .inl ⟨V,R _ _ u3⟩
     exact .inr ⟨V,_,rfl,K _ _ u4⟩
   refine⟨cells,n,p1,p2,by simpa using p3,p4,z2,fun j x B=>?_⟩;obtain⟨v,v1,Y,v3⟩:=p5 0 (cs.map AV.p) j (.p x) rfl (by rw[u9,B];rfl);exact⟨v,by simpa using v1,Y,bQ.weaken (fun j _ A=>ad j A) v3⟩
  refine wp_mono (h b _ _ _ _ _ ag) fun e a' w' ⟨S,ac,hq,hr⟩=>⟨S,hq,?_⟩
  obtain⟨k1,ap,E,q,ab,_,_,_⟩:=hr;have ab:aX (fun j=>X j\/j=b) E S a' w':=ab;have an: ∀j,Xo X E S.H j->Xo (fun j=>X j\/j=b) E S.H j:=fun j A=>by
   rcases A with A|A
   ·exact .inl (.inl A)
   exact .inr A
  have W: ∀x v,AV.rel E S.H (Xo (fun j=>X j\/j=b) E S.H) w' x v->AV.rel E S.H (Xo X E S.H) w' x v:=fun x v B=>by
   cases x with
   |p x=>exact bQ.weaken (fun j _ A=>an j A) B
   |sl x l av len=>exact B
   |ptr x l i j=>exact B
   |fn=>exact B
   |junk=>trivial
  refine⟨k1,ap,E,⟨⟨q.keep.os,q.keep.tape,q.keep.output,q.keep.size,fun k hk hn=>?_⟩,fun x y o F=>dO (q.objs x y o F) rfl (fun _ _ _=>rfl) W,q.inj,fun x y o j c F A=>?_,fun j A=>q.bar j (.inl A),q.self⟩,fun t x B=>?_⟩
  ·by_cases ae:k=b
   ·subst ae;exfalso;rcases af.1 with g|g
    ·omega
    exact hn g
   exact q.keep.block k hk (fun hh=>by
    rcases hh with hh|hh
    ·exact hn hh
    exact ae hh)
  ·obtain⟨I,D⟩:=q.old x y o j c F A;refine⟨?_,fun B=>D (.inl B)⟩;rcases I with g|g|g
   ·exact .inl g
   ·exact .inr g
   exact absurd (.inr g) D
  obtain⟨v,v1,Y⟩:=ab t x B;exact⟨v,v1,TV.rel_map Y W⟩
end
theorem Of (w:World) (q:Nat) (b:Array Obj):Ext w (Sort.grow (w.drewN q) b):=
 ⟨rfl,rfl,rfl,by simp,fun k c=>by show(w.heap++b)[k]?=w.heap[k]?;grind⟩
structure NItem where
 key:Int
 vals:List Int
 at_:Option Addr
 cap:Nat
 deriving Inhabited
def NItem.val (b:NItem):Value:= .slice b.at_ b.vals.length b.cap
def NItem.agg (b:NItem):Value:= .agg #[.int .i64 b.key,.slice b.at_ b.vals.length b.cap]
def jV (a b:NItem):Int:=KI a.key a.vals b.key b.vals
def xb (a b:NItem):Bool:=jV a b==0
structure ItemOk (w:World) (g:Nat) (it:NItem):Prop where
 rd:RdI .i64 w it.at_ it.vals
 ne: ∀p,it.at_=some p->p.block≠g
 le:it.vals.length<=9223372036854775807
theorem ItemOk.ext {b:NItem} (h:ItemOk w n b) (e:Ext w W):ItemOk W n b:=⟨h.rd.ext e,h.ne,h.le⟩
theorem yJ (a b:NItem) (w:World) (g:Nat) (c:ItemOk w g a) (f:ItemOk w g b):
  Calls prog 132 #[a.agg,b.agg] w fun e j=>e= .returned (.int .i64 (jV a b))/\Ext w j:=
 (kS a.key b.key a.at_ b.at_ a.cap b.cap a.vals b.vals w c.rd f.rd c.le f.le).mono fun _ _ ⟨h,q,m,l⟩=>⟨h,by grind [Of]⟩
theorem ym (a b:NItem) (bx sx so:Nat) (w:World) (g:Nat) (ha:ItemOk w g a) (hb:ItemOk w g b) (h1:w.cell? ⟨bx,0,none⟩=some (.pointer (some ⟨sx,so,none⟩))) (h2:w.cell? ⟨sx,so+1,none⟩=some (.func (Fn.func 132) #[] #[])):
  Calls prog 200 #[a.agg,b.agg,.pointer (some ⟨bx,0,none⟩)] w fun e w'=>e= .returned (.bool (xb a b))/\Ext w w':=by
 have HA:=aae ha;have HB:=aae hb;clear ha hb;unfold NItem.agg
 go_enter func200,ntmps200
 go_wp2_with fail
 obtain⟨c1,c2,c3,c4,he,hg⟩:=AF w (.int .i64 a.key) (.slice a.at_ a.vals.length a.cap) (.int .i64 b.key) (.slice b.at_ b.vals.length b.cap) 177;have h1':=he.cell h1;have h2':=he.cell h2;have HE:=aae he;clear he hg h1 h2;generalize(w.alloc (.cells #[.int .i64 a.key,.slice a.at_ a.vals.length a.cap] 177)).alloc (.cells #[.int .i64 b.key,.slice b.at_ b.vals.length b.cap] 177)=w2 at*
 refine cW 6 (by kernel_rfl) (by kernel_rfl) ?_;simp only[abS,acJ,abR,abL];generalize w2.drew=w3 at*
 iterate 6 still_step
 refine wpStill_nil ?_;have HC:=aae (yJ a b w3 g (HA.out.ext HE.out) (HB.out.ext HE.out));unfold NItem.agg at HC
 go_wp2_with fail
 refine HC.out.mono ?_;rintro e w' ⟨rfl,he⟩;have HE2:=aae (HE.out.trans he);clear he
 go_wp2_with fail
 go_ret
 exact⟨rfl,HE2.out⟩
theorem rM {g t N:Nat}: ∀(vs:List Value) (o:Nat) (w:World) (f:Nat->Value),w.rowIs g t N f-> ∃b,(w.setCells g o vs).rowIs g t N b/\(∀j,j<o->b j=f j)/\ ∀k,k≠g->(w.setCells g o vs).heap[k]?=w.heap[k]?
 |[],o,w,f,h=>⟨f,h,fun _ _=>rfl,fun _ _=>rfl⟩
 |v::r,o,w,f,h=>by
  obtain⟨b,c,e,l⟩:=rM r (o+1) (w.setCell ⟨g,o,none⟩ v) _ (h.set o v);refine⟨b,c,fun j m=>?_,fun k n=>?_⟩
  ·grind
  show((w.setCell ⟨g,o,none⟩ v).setCells g (o+1) r).heap[k]?=_;grind [Below.heap_setCell]
theorem fz (h:Ext w W) (g:Nat):w.grownBy W (some g):=⟨h.os,h.tape,h.output,h.size,fun k b _=>h.block k b⟩
theorem jz {a:World} (h:a.grownBy w (some n)) (k:w.grownBy W (some n)):a.grownBy W (some n):=
 ⟨k.os.trans h.os,k.tape.trans h.tape,k.output.trans h.output,aaj h.size k.size,fun i f e=>(k.block i (aas f h.size) e).trans (h.block i f e)⟩
theorem Bj {a:World} (h:a.grownBy w (some n)) (o:Nat) (v:Value):a.grownBy (w.setCell ⟨n,o,none⟩ v) (some n):=
 jz h ⟨rfl,rfl,rfl,by simp,fun k _ c=>ads _ _ _ _ (fun e=>c (by rw[e]))⟩
theorem um {a b:World} {g:Nat}: ∀(vs:List Value) (o:Nat) {b:World},a.grownBy b (some g)->a.grownBy (b.setCells g o vs) (some g)
 |[],_,_,h=>h
 |v::r,o,_,h=>um (b:=b) r (o+1) (Bj h o v)
theorem oR (h:w.grownBy W (some n)) {p:Addr} (c:w.cell? p=some l) (b:p.block≠n):W.cell? p=some l:=
 h.cell c (fun e=>b (by injection e))
theorem RdI.gb {k:IntKind} {A:Option Addr} {c:List Int} (h:RdI k w A c) (f: ∀p,A=some p->p.block≠n) (m:w.grownBy W (some n)):RdI k W A c:=fun e=>by
 obtain⟨b,j,rfl,l⟩:=h e;grind [oR]
def ia (l:List Int) (a:Nat):Nat:=if a<l.length then a+1 else a
section
section
variable {P:Program} {f:FuncId} {args:List TV} {res:CallRes}
theorem Rl {fam:List OObj} {res:CallRes} (q:bD ⟨[p],famH 0 fam⟩ ⟨[res.r],Hm [(0,res.fam)]⟩) (h: ∃b:Rho,Inv w (fun _=>False) g (famH 0 fam) b W/\p.rel b (famH 0 fam) (Xo g b (famH 0 fam)) W l):
  ∃b:Rho,Inv w (fun _=>False) g (famH 0 res.fam) b W/\res.r.rel b (famH 0 res.fam) (Xo g b (famH 0 res.fam)) W l:=by
 have e:Hm [(0,res.fam)]=famH 0 res.fam:=by funext a;rfl
 rw[e]at q;obtain⟨b,s,u⟩:=h;obtain⟨_,_,n,m,y⟩:=q w (fun _=>False) g ⟨#[l],[]⟩ W ⟨rfl,rfl,b,s,fun j x c=>by
  match j,c with
  |0,c=>simp at c;subst c;exact⟨l,rfl,u⟩
  |j+1,c=>simp at c⟩
 obtain⟨A,o,z⟩:=y 0 _ rfl;simp at o;subst o;exact⟨n,m,z⟩
theorem CallC.weak {fam:List OObj} (h:CallC P f args ⟨fam,p⟩) (j:bD ⟨[p],famH 0 fam⟩ ⟨[res.r],Hm [(0,res.fam)]⟩):CallC P f args res:=
 ⟨h.1,fun X w vs b g c=>(h.2 X w vs b g c).mono fun _ _ ⟨v,e,k⟩=>⟨v,e,Rl j k⟩⟩
end
end
section
/-! Columns. -/
theorem Bs {r:Nat->Int} (p:Nat->Nat): ∀(b:List Nat) (f:List Nat->Int),gG (fun c=>r (p c)) (fun l=>f (l.map p)) b=gG r f (b.map p)
 |[],_=>rfl
 |c::b,f=>by
  rw[gG,aaC,gG];have:=Bs (r:=r) p b (fun l=>f (p c::l));grind
theorem Po {R:FF} (p:Nat->Nat): ∀(k:Nat) (b:List Nat),om (fun i c=>R i (p c)) k b=om R k (b.map p)
 |0,_=>rfl
 |k+1,b=>by
  have e:om (fun i c=>R i (p c)) k=fun l=>om R k (l.map p):=funext (Po p k)
  simp_all[om,Bs]
section
variable {R:FF} {n a b:Nat} (ha:a<n)
include ha
end
/-! Rows exchanged. -/
end
theorem ik: ∀x:List Int,dm x x=0
 |[]=>rfl
 |a::x=>by simp[dm,ik x]
theorem qJ: ∀{x y:List Int},dm x y=0->x=y
 |[],[],_=>rfl
 |[],_::_,h=>by simp[dm]at h
 |_::_,[],h=>by simp[dm]at h
 |a::x,b::y,h=>by
  unfold dm at h;split at h
  ·omega
  split at h
  ·omega
  rw[qJ h,show a=b from by omega]
theorem P7 (A B:Option Addr) (c d:Nat) (a b:List (List Int)) (w:World) (ha:sG .i64 w A a) (hb:sG .i64 w B b) (la:a.length<=9223372036854775807) (lb:b.length<=9223372036854775807):
  Calls prog 17 #[.slice A a.length c,.slice B b.length d] w fun e w'=>e= .returned (.bool (decide (a=b)))/\Ext w w':=by
 have HA:=aae ha;have HB:=aae hb;clear ha hb;by_cases hl:a.length=b.length
 ·have hlb:((a.length:Int) !=(b.length:Int))=false:=by simp[hl]
  have HL:=aae hl;have hle:a.length<=b.length:=by omega
  clear hl
  go_enter func17,ntmps17
  go_wp2_with fail
  clear hlb
  go_loopw [13,5] (fun i _ wr=> ∃k:Nat,k<=a.length/\i= .int .i64 k/\Hid (Ext w wr)/\Hid (∀j,j<k->a[j]?=b[j]?)) (fun i _ _=>a.length-(intOf i).toNat)
  case atStart=>grind [Lib.hid,Ext.refl]
  case round=>
   obtain⟨k,hk,rfl,HE,HQ⟩:=hrel;by_cases hlt:k<a.length
   ·obtain⟨x,hx⟩:=getElem?_of_lt hlt;obtain⟨y,hy⟩:=getElem?_of_lt (l:=b) (k:=k) (by omega);obtain⟨b1,o1,B1,c1,rfl,hc1,hcl1,hlx,hr1⟩:=(HA.out.ext HE.out.drew).at_ hx;obtain⟨b2,o2,B2,c2,rfl,hc2,hcl2,hly,hr2⟩:=(HB.out.ext HE.out.drew).at_ hy;have HX:=aae hx;have HY:=aae hy;have HR1:=aae hr1;have HR2:=aae hr2;have HE1:=aae HE.out.drew;have hkb:(k:Int)<(b.length:Int):=by omega
    clear hx hy hr1 hr2 HE
    go_wp2_with fail
    refine cW 8 (by kernel_rfl) (by kernel_rfl) ?_;simp only[abS,acJ,abR,abL];generalize wr.drew=w3 at*
    iterate 8 still_step
    refine wpStill_nil ?_;have HC:=aae (oA B1 B2 c1 c2 x y w3 HR1.out HR2.out hlx hly);clear hc1 hc2;by_cases h0:dm x y=0
    ·have h0':(dm x y !=0)=false:=by simp[h0]
     have H0:=aae h0;clear h0
     go_wp2_with fail
     refine HC.out.mono ?_;rintro e w4 ⟨rfl,n,rfl⟩
     go_wp2_with fail
     go_roundw
     case rel=>
      refine⟨k+1,by omega,by go_num,aae (HE1.out.drewN n),aae (fun j hj=>?_)⟩;by_cases e:j=k
      ·subst e;rw[HX.out,HY.out,qJ H0.out]
      exact HQ.out j (by omega)
     grind [intOf]
    have h0':(dm x y !=0)=true:=by simp[h0]
    go_wp2_with fail
    refine HC.out.mono ?_;rintro e w4 ⟨rfl,n,rfl⟩
    go_wp2_with fail
    go_ret
    refine⟨dX (fun h=>?_),HE1.out.drewN n⟩;subst h;have h1:=HX.out;rw[HY.out]at h1;grind [ik]
   go_wp2_with fail
   go_ret
   refine⟨BW ?_,HE.out⟩;apply aay;intro j;rcases acO j a.length with h|h
   ·exact HQ.out j (by omega)
   rw[acP h,acP (by have:=HL.out;omega)]
 have hlb:((a.length:Int) !=(b.length:Int))=true:=by simp;omega
 go_enter func17,ntmps17
 go_wp2_with fail
 go_ret
 exact⟨dX (fun h=>hl (by rw[h])),Ext.refl _⟩
end Go.Proofs.YtalmoejhjceflaaGreat
namespace Go.Proofs
open Go.Shelf
def Tryz.lays129_ren:Go.Shelf.Ren:=⟨fun|129=>185|n=>n,fun|53=>116|3=>3|4=>4|46=>164|5=>5|9=>9|n=>n,fun|n=>n⟩
theorem Tryz.lays129:Go.Proofs.Lays.n129 prog Tryz.lays129_ren:={
 mixed:=by kernel_rfl
 f129:=func185.trans (congrArg some (by kernel_rfl))
 t3:=underlying3
 a3:=isAgg3
 z3:=sizeOf3
 v3:=zeroValue3
 t4:=underlying4
 a4:=isAgg4
 z4:=sizeOf4
 v4:=zeroValue4
 t5:=underlying5
 a5:=isAgg5
 z5:=sizeOf5
 v5:=zeroValue5
 t9:=underlying9
 a9:=isAgg9
 z9:=sizeOf9
 v9:=zeroValue9
 t46:=underlying164
 a46:=isAgg164
 z46:=sizeOf164
 v46:=zeroValue164
 t53:=underlying116
 a53:=isAgg116
 z53:=sizeOf116
 v53:=zeroValue116}
end Go.Proofs
namespace Go.Proofs.YtalmoejhjceflaaGreat
open Go.RowKit Go.Proofs.Tryz
variable {w W:World} {b:Array Oper} {c e:Code} {f g:Nat->Prop} {h:FuncId} {j:Operand} {n:Nat} {l:Value} {m:List Nat} {o:List PV} {p:TV} {q:Oper} {s:AS} {r:TypeId} {t:OH} {u:Rho}
end Go.Proofs.YtalmoejhjceflaaGreat
