/-
  Part 15 of a proof (walks and plain facts).
-/
import Derived.Test.YtalmoejhjceflaaGreatQ13
set_option linter.all false
set_option maxRecDepth 100000
set_option maxHeartbeats 64000000
namespace Go.Proofs.YtalmoejhjceflaaGreat
open Go.RowKit
variable {b c:Code} {e f:Nat->Prop} {g:Array Oper} {w:World} {h:Operand} {j:Value} {l:TV}
section
theorem bS.later {w z:World} (A: ∀b,b<w.heap.size->f b->e b) (C:w.heap.size<=z.heap.size) (B: ∀p j,p.block<w.heap.size-> ¬e p.block->w.cell? p=some j->z.cell? p=some j) {x:PV} (h:bS e w x j):bS f z x j:=by
 induction h with
 |raw j h=>exact .raw j h
 |nil a c=>exact .nil a c
 |sl b q E cap I l r n u s G o H y=>exact .sl b q E cap I l (fun h=>r (A _ n h)) (acp n C) u s G (fun i g m x t F=>B ⟨b,_,none⟩ _ n r (o i g m x t F)) y
 |ptr b q D l r n o H y=>exact .ptr b q D l (fun h=>r (A _ n h)) (acp n C) (fun m x t=>B ⟨b,_,none⟩ _ n r (o m x t)) y
theorem gE {b:World} {p:Addr} (h:b.heap[p.block]?=w.heap[p.block]?):b.cell? p=w.cell? p:=by grind [World.cell?]
def mf (b:Nat) (f:TypeId) (e:List PV) (Y:Nat->Prop) (w:World):Prop:=
 ∃(cells:Array Value) (c:Nat),w.heap[b]?=some (.cells cells f (0,0))/\cells.size=c*e.length/\1<=c/\c<=9223372036854775807/\0<e.length/\
  ∀(j:Nat) x,e[j]?=some x-> ∃v:Value,cells[j]?=some v/\v.oneCell'=true/\bS Y w x v
theorem mf.later {b:Nat} {m:TypeId} {l:List PV} {w g:World} (t: ∀j,j<w.heap.size->f j->e j) (y:w.heap.size<=g.heap.size) (E:g.heap[b]?=w.heap[b]?) (F: ∀j,j<w.heap.size-> ¬e j->g.heap[j]?=w.heap[j]?) (h:mf b m l e w):mf b m l f g:=by
 obtain⟨cells,c,D,n,o,q,r,s⟩:=h;refine⟨cells,c,by grind,n,o,q,r,fun j x z=>?_⟩;obtain⟨v,A,B,C⟩:=s j x z;exact⟨v,A,B,C.later t y fun p u H G I=>by grind [gE]⟩
theorem mf.weaken {b:Nat} {g:TypeId} {c:List PV} (l: ∀j,j<w.heap.size->f j->e j) (h:mf b g c e w):mf b g c f w:=
 h.later l (acs _) rfl fun _ _ _=>rfl
section
variable {P:Program} {b:Nat} {ty:TypeId} {cs cs':List PV} {w0 w:World} {O X:Nat->Prop} {s s':AS} {a:Act}
def i9 (b:Nat) (ty:TypeId) (w0:World) (O X:Nat->Prop) (s:AS) (cs:List PV) (a:Act) (w:World):Prop:=
 a.defers=[]/\a.tmps.size=s.tmps.length/\ ∃c,Inv w0 O X s.H c w/\bo X c s a w/\O b/\X b/\mf b ty cs (Xo X c s.H) w
theorem i9.rel (h:i9 b ty w0 O X s cs a w):dq w0 O X s a w:=by
 obtain⟨c,e,j,f,g,_⟩:=h;exact⟨c,e,j,f,g⟩
theorem i9.rebase (h:i9 b ty w0 O X s cs a w): ∃Own:Nat->Prop,dq w Own X s a w/\ ∀E v F,dq w Own X E v F->i9 b ty w0 O X E cs v F:=by
 obtain⟨J,A,G,e,B,K,y,q⟩:=h;refine⟨fun j=> ∃(x r:Nat) (o:OObj) (c:Nat),(s.H x)[r]?=some o/\G x r=some (j,c),⟨J,A,G,⟨Keep.refl w,e.objs,e.inj,fun x r o j c u l=>⟨.inr ⟨x,r,o,c,u,l⟩,(e.old x r o j c u l).2⟩,e.bar,e.self⟩,B⟩,?_⟩;rintro E v F ⟨L,C,I,f,D⟩;have t: ∀j,(∃(x r:Nat) (o:OObj) (c:Nat),(s.H x)[r]?=some o/\G x r=some (j,c))->(w0.heap.size<=j\/O j)/\ ¬X j:=fun j ⟨x,r,o,c,n,p⟩=>e.old x r o j c n p
 refine⟨L,C,I,⟨⟨f.keep.os.trans e.keep.os,f.keep.tape.trans e.keep.tape,f.keep.output.trans e.keep.output,acl e.keep.size f.keep.size,fun j l z=>?_⟩,f.objs,f.inj,fun x r o j c u l=>?_,f.bar,f.self⟩,D,K,y,?_⟩
 ·rw[f.keep.block j (acp l e.keep.size) (fun m=>by
   grind)]
  exact e.keep.block j l z
 ·obtain⟨n,p⟩:=f.old x r o j c u l;refine⟨?_,p⟩;rcases n with g|g
  ·exact .inl (acl e.keep.size g)
  grind
 refine q.later (fun j l m=>?_) f.keep.size (f.keep.block b (e.bar b y) (fun m=>(t b m).2 y)) (fun j l z=>f.keep.block j l (fun m=>z (.inr m)));rcases m with m|⟨x,r,o,c,n,p⟩
 ·exact .inl m
 rcases(f.old x r o j c n p).1 with g|g
 ·omega
 exact .inr g
def eH (P:Program) (b:Nat) (ty:TypeId) (c:Code) (Q:Exit->AS->List PV->Prop) (s:AS) (cs:List PV):Prop:=
 ∀(w0:World) (O X:Nat->Prop) (a:Act) (w:World),i9 b ty w0 O X s cs a w->c.wp P (fun e f g=> ∃s' cs',Q e s' cs'/\i9 b ty w0 O X s' cs' f g) a w
def qz (next:AS->List PV->Prop) (Q:Exit->AS->List PV->Prop):Exit->AS->List PV->Prop
 | .normal,s,k=>next s k
 |e,s,k=>Q e s k
def Jf (id:Nat) (Q:Exit->AS->List PV->Prop):Exit->AS->List PV->Prop
 | .exit c,s,k=>if c=id then Q .normal s k else Q (.exit c) s k
 |e,s,k=>Q e s k
variable {Q:Exit->AS->List PV->Prop}
theorem I0 (h:bA P c (fun e s'=>Q e s' cs) s):eH P b ty c Q s cs:=fun w0 O X a w r=>by
 obtain⟨Own,j,l⟩:=r.rebase;exact wp_mono (h _ _ _ _ _ j) fun e m n ⟨s',f,g⟩=>⟨s',cs,f,l _ _ _ g⟩
theorem eH.weak (h:bJ s s') (k:eH P b ty c Q s' cs):eH P b ty c Q s cs:=fun _ _ _ _ _ r=>by
 obtain⟨Own,e,f⟩:=r.rebase;exact k _ _ _ _ _ (f _ _ _ (h _ _ _ _ _ e))
theorem i9.weak (h:bJ s s') (r:i9 b ty w0 O X s cs a w):i9 b ty w0 O X s' cs a w:=by
 obtain⟨Own,c,e⟩:=r.rebase;exact e _ _ _ (h _ _ _ _ _ c)
theorem eH.mono {f:Exit->AS->List PV->Prop} (h:eH P b ty c Q s cs) (k: ∀e s' cs',Q e s' cs'->f e s' cs'):eH P b ty c f s cs:=fun _ _ _ _ _ r=>
 wp_mono (h _ _ _ _ _ r) fun _ _ _ ⟨s',cs',g,j⟩=>⟨s',cs',k _ _ _ g,j⟩
theorem kh (h:Q .normal s cs):eH P b ty .skip Q s cs:=fun _ _ _ _ _ r=>wp_skip ⟨s,cs,h,r⟩
theorem FN {id:Nat} (h:Q (.exit id) s cs):eH P b ty (.exit id) Q s cs:=fun _ _ _ _ _ r=>wp_exit ⟨s,cs,h,r⟩
theorem n7 (h:Q .ret s cs):eH P b ty .ret Q s cs:=fun _ _ _ _ _ r=>wp_ret ⟨s,cs,h,r⟩
theorem cd {y:Code} (h:eH P b ty c (qz (eH P b ty y Q) Q) s cs):eH P b ty (.seq c y) Q s cs:=fun _ _ _ _ _ r=>
 wp_seq (wp_mono (h _ _ _ _ _ r) fun e a w ⟨s',cs',f,g⟩=>by
  cases e with
  |normal=>exact f _ _ _ _ _ g
  |_=>exact⟨s',cs',f,g⟩)
theorem dx {id:Nat} (h:eH P b ty c (Jf id Q) s cs):eH P b ty (.block id c) Q s cs:=fun _ _ _ _ _ r=>
 wp_block (wp_mono (h _ _ _ _ _ r) fun e a w ⟨s',cs',f,g⟩=>by
  cases e with
  |exit j=>
   grind [Jf,Exit.inBlock]
  |_=>exact⟨s',cs',f,g⟩)
theorem FM {y:Code} {v:Bool} (l:s.ev h=some (.raw (.bool v))) (o:v=true->eH P b ty c Q s cs) (m:v=false->eH P b ty y Q s cs):eH P b ty (.cond h c y) Q s cs:=fun _ _ _ _ _ r=>by
 obtain⟨p,n,q,g,f,_⟩:=id r;have j:=(aZ (bv f h _ l)).1;exact wp_cond_split j (fun e=>o e _ _ _ _ _ r) (fun e=>m e _ _ _ _ _ r)
theorem jf {y:Code} (f:s.ev h=some (.raw (.bool true))) (e:eH P b ty c Q s cs):eH P b ty (.cond h c y) Q s cs:=FM f (fun _=>e) (fun e=>by cases e)
theorem cK {y:Code} (f:s.ev h=some (.raw (.bool false))) (e:eH P b ty y Q s cs):eH P b ty (.cond h c y) Q s cs:=FM f (fun e=>by cases e) (fun _=>e)
theorem vR {z:Code} (f:s.ev h=some (.raw (.bool true))) (e:eH P b ty z Q s cs):eH P b ty (.seq (.cond h .skip c) z) Q s cs:=cd (jf f (kh e))
theorem vQ {z:Code} {id:Nat} (f:s.ev h=some (.raw (.bool false))) (e:Q (.exit id) s cs):eH P b ty (.seq (.cond h c (.exit id)) z) Q s cs:=cd (cK f (FN e))
theorem QC {G:Type} (St:G->AS) (Sc:G->List PV) (q:G->Nat) (t:G) (E:bJ s (St t)) (u:Sc t=cs) (round: ∀g,eH P b ty c (qz (fun s' cs'=> ∃j,q j<q g/\bJ s' (St j)/\Sc j=cs') Q) (St g) (Sc g)):eH P b ty (.loop c) Q s cs:=fun w0 O X a w r=>by
 classical
 subst u
 let p:Act->World->Nat->Prop:=fun a w n=> ∃g,q g=n/\i9 b ty w0 O X (St g) (Sc g) a w
 let m:Act->World->Nat:=fun a w=>if h: ∃n,p a w n then Classical.choose (bN h)else 0
 refine wp_loop (fun a w=> ∃n,p a w n) m ⟨_,t,rfl,r.weak E⟩ ?_;intro a w v;have H:m a w=Classical.choose (bN v):=dif_pos v;obtain⟨C,o⟩:=adz (bN v);rw[<- H]at C;obtain⟨g,L,J⟩:=C;refine wp_mono (round g _ _ _ _ _ J) fun e z D ⟨s',cs',A,B⟩=>?_
 cases e with
 |normal=>
  obtain⟨j,F,K,x⟩:=A;subst x;have l:=B.weak K;have f: ∃n,p z D n:=⟨_,j,rfl,l⟩;refine⟨f,?_⟩;have I:m z D=Classical.choose (bN f):=dif_pos f;obtain⟨_,y⟩:=adz (bN f);have:=y (q j) ⟨j,rfl,l⟩;omega
 |_=>exact⟨s',cs',A,B⟩
theorem lR {G:Type} (St:G->AS) (Sc:G->List PV) (j:G->Nat) (f:G) {id:Nat} (l:bJ s (St f)) (h:Sc f=cs) (round: ∀g,eH P b ty c (qz (fun s' cs'=> ∃e,j e<j g/\bJ s' (St e)/\Sc e=cs') (Jf id Q)) (St g) (Sc g)):eH P b ty (.block id (.loop c)) Q s cs:=
 dx (QC St Sc j f l h round)
/-! Regions without lent calls. -/
theorem yV (e:List (aq P)) (f:List Nat) {id:Nat} (h: ∀K:AS->Prop,(∀s',eH P b ty c Q s' cs->K s')->aY P (e.map aq.a) f (aK g g.toList 0) (some s) K):eH P b ty (.seq (.region id g false) c) Q s cs:=
 cd (I0 (qD e f (h _ fun _ h=>h)))
theorem QD (c:List (aq P)) (e:List Nat) {id:Nat} (h: ∀K:AS->Prop,(∀s',Q .normal s' cs->K s')->aY P (c.map aq.a) e (aK g g.toList 0) (some s) K):eH P b ty (.region id g false) Q s cs:=
 I0 (qD c e (h _ fun _ h=>h))
theorem ND (j:P.follows .mixedOrders=true) (c:List (aq P)) (e:List Nat) {id:Nat} (f:bZ [] g=true) (h: ∀K:AS->Prop,(∀s',Q .normal s' cs->K s')->aY P (c.map aq.a) e (aK g g.toList 0) (some s) K):eH P b ty (.region id g true) Q s cs:=
 I0 (qC j c e f (by simp) (fun x l=>by simp at l) (h _ fun _ h=>h))
theorem qE {id:Nat} (h: ∀K:AS->Prop,(∀s',eH P b ty c Q s' cs->K s')->aY P [] [] (aK g g.toList 0) (some s) K):eH P b ty (.seq (.region id g false) c) Q s cs:=yV [] [] h
theorem NE {id:Nat} (h: ∀K:AS->Prop,(∀s',Q .normal s' cs->K s')->aY P [] [] (aK g g.toList 0) (some s) K):eH P b ty (.region id g false) Q s cs:=QD [] [] h
theorem IZ (e:P.follows .mixedOrders=true) {id:Nat} (c:bZ [] g=true) (h: ∀K:AS->Prop,(∀s',Q .normal s' cs->K s')->aY P [] [] (aK g g.toList 0) (some s) K):eH P b ty (.region id g true) Q s cs:=ND e [] [] c h
end
def CallT (P:Program) (b:Nat) (l:TypeId) (f:FuncId) (args:List TV) (m:List PV) (res:CallRes) (g:List PV):Prop:=
 callable P f=true/\ ∀(X:Nat->Prop) (w:World) (vs:Array Value),(∀j,X j->j<w.heap.size)->X b->mf b l m X w->vs.size=args.length->
  (∀(j:Nat) t,args[j]?=some t-> ∃v:Value,vs[j]?=some v/\t.rel (fun _ _=>none) (fun _=>[]) X w v)->
  Calls P f vs w fun e h=> ∃v,e= .returned v/\ ∃c:Rho,Inv w (fun j=>j=b) X (famH 0 res.fam) c h/\res.r.rel c (famH 0 res.fam) (Xo X c (famH 0 res.fam)) h v/\mf b l g (Xo X c (famH 0 res.fam)) h
section
variable {P:Program} {b:Nat} {ty:TypeId} {cs cs':List PV} {w0 w:World} {O X:Nat->Prop} {ρ:Rho} {s:AS} {a:Act}
theorem GP {L:cG P} {d:Nat} (h1:a.defers=[]) (al:a.tmps.size=s.tmps.length) (p:Inv w0 O X s.H ρ w) (an:bo X ρ s a w) (hO:O b) (W:X b) {F:List OObj} (ht:renTV d L.res.r=l) (hF:L.res.fam.map (renO d)=F) (hd:F≠[]->s.H d=[]) {D:World} {ρc:Rho} (U:Inv w (fun m=>m=b) (Xo X ρ s.H) (famH 0 L.res.fam) ρc D) (K:L.res.r.rel ρc (famH 0 L.res.fam) (Xo (Xo X ρ s.H) ρc (famH 0 L.res.fam)) D j) (N:mf b ty cs' (Xo (Xo X ρ s.H) ρc (famH 0 L.res.fam)) D):i9 b ty w0 O X (jJ s d l F) cs' (a.put (some d) j) D:=by
 have y:But b w D:=⟨U.keep.os,U.keep.tape,U.keep.output,U.keep.size,fun k hk av=>U.keep.block k hk av⟩;have ae: ∀(x r:Nat) o M c,(s.H x)[r]?=some o->ρ x r=some (M,c)->D.heap[M]?=w.heap[M]?:=fun x r o M c q J=>y.block M (bz (p.objs x r o q) J) (by rintro rfl;exact(p.old x r o M c q J).2 W)
 by_cases Y:L.res.fam=[]
 ·rw[Y]at U K N;have aa:F=[]:=by grind
  subst aa;have mono: ∀x u,AV.rel ρ s.H (Xo X ρ s.H) w x u->AV.rel ρ s.H (Xo X ρ s.H) D x u:=fun x u A=>pU (.inl W) y (fun a r o q=>⟨o,q,rfl,acs _,rfl⟩) (fun a r o M c q hb _=> .inr ⟨a,r,o,c,q,hb⟩) A
  have ab:Inv w0 O X s.H ρ D:=⟨p.keep.but y (.inr hO),fun x r o q=>d9 (p.objs x r o q) rfl (fun M c J=>ae x r o M c q J) mono,p.inj,p.old,fun m E=>acp (p.bar m E) y.size,p.self⟩;have Q:bo X ρ s a D:=fun k x A=>by
   obtain⟨u,Z,S⟩:=an k x A;exact⟨u,Z,TV.rel_map S mono⟩
  have hv:l.rel ρ s.H (Xo X ρ s.H) D j:=by
   rw[<- ht];exact qY K (fun x u A=>ya (fun r R C=>by simp at C) (fun m _ E=> .inl E) A)
  show i9 b ty w0 O X (s.put (some d) l) cs' _ _;refine⟨by grind [gX],by grind [kK,ke],ρ,by grind [gP],qo al Q hv,hO,W,?_⟩;rw[gP];exact N.weaken fun m _ E=> .inl E
 have aa:F≠[]:=by rw[<- hF];simpa using Y
 have a2:=hd aa;have ah:jJ s d l F=AS.put ⟨s.tmps,aF s.H d F⟩ (some d) l:=by
  grind [jJ]
 rw[ah]
 let f:Nat->Option (Nat×Nat):=fun r=>if r<L.res.fam.length then ρc 0 r else none
 have T: ∀r m n,f r=some (m,n)->(∃R,L.res.fam[r]?=some R)/\ρc 0 r=some (m,n):=fun r m n h=>by
  simp only[f]at h;simp_all
 have af: ∀(r m n:Nat),f r=some (m,n)->w.heap.size<=m:=fun r m n h=>by
  obtain⟨⟨R,C⟩,g⟩:=T r m n h;have:=U.old 0 r R m n (by grind [famH]) g;rcases this.1 with h|h
  ·exact h
  exact absurd (h▸ .inl W) this.2
 have ac: ∀m,Xo X (newρ ρ d f) (aF s.H d F) m->Xo (Xo X ρ s.H) ρc (famH 0 L.res.fam) m:=fun m E=>by
  rcases E with E|⟨x',y',R,n,Z,S⟩
  ·exact .inl (.inl E)
  by_cases B:x'=d
  ·subst B;rw[newρ_eq]at S;obtain⟨⟨o2,V⟩,g3⟩:=T y' m n S;exact .inr ⟨0,y',o2,n,by grind [famH],g3⟩
  rw[aM B]at Z;rw[newρ_ne B]at S;exact .inl (.inr ⟨x',y',R,n,Z,S⟩)
 have mono: ∀x u,AV.rel ρ s.H (Xo X ρ s.H) w x u->AV.rel (newρ ρ d f) (aF s.H d F) (Xo X (newρ ρ d f) (aF s.H d F)) D x u:=fun x u A=>by
  refine pU (.inl W) y (fun x r o q=>?_) (fun x r o M c q hb a3=>?_) A
  ·grind [aM,newρ_ne]
  by_cases B:x=d
  ·grind [newρ_eq]
  rw[aM B]at q;rw[newρ_ne B]at hb;exact .inr ⟨x,r,o,c,q,hb⟩
 have ad: ∀x u,AV.rel ρc (famH 0 L.res.fam) (Xo (Xo X ρ s.H) ρc (famH 0 L.res.fam)) D x u->AV.rel (newρ ρ d f) (aF s.H d F) (Xo X (newρ ρ d f) (aF s.H d F)) D (b6 d x) u:=fun x u A=>by
  refine ya (fun r R C=>?_) (fun m _ E=>ac m E) A;grind [aS,newρ_eq]
 have ab:Inv w0 O X (aF s.H d F) (newρ ρ d f) D:=by
  refine⟨p.keep.but y (.inr hO),fun x r o q=>?_,fun x r x' r' o R m c c' q C K G=>?_,fun x r o m c q K=>?_,fun m E=>acp (p.bar m E) y.size,fun x r o q=>?_⟩
  ·by_cases B:x=d
   ·subst B;rw[aS,<- hF,ach]at q;obtain⟨o2,V,rfl⟩:=acf.1 q;have ag:=U.objs 0 r o2 (by grind [famH]);obtain⟨z1,z2,z3⟩:=ag;refine⟨fun e he=>?_,z2,?_⟩
    ·grind [renO]
    rw[newρ_eq];simp only[f];rw[if_pos (aci.1 V).1];cases a0:ρc 0 r with
    |none=>grind [renO]
    |some bc=>
     obtain⟨m,n⟩:=bc;rw[a0]at z3;obtain⟨cells,p1,p2,p3,p4,p5⟩:=z3;refine⟨cells,p1,p2,by grind [renO],p4,fun i e m z he hz=>?_⟩;simp only[renO,ach]at he;obtain⟨e',ap,rfl⟩:=acf.1 he;rw[ach]at hz;obtain⟨z',a1,rfl⟩:=acf.1 hz;obtain⟨u,u1,u2,u3⟩:=p5 i e' m z' ap a1;exact⟨u,u1,u2,ad z' u u3⟩
   rw[aM B]at q;exact d9 (p.objs x r o q) (newρ_ne B r) (fun M c J=>ae x r o M c q J) mono
  ·by_cases A:x=d
   ·subst A;rw[newρ_eq]at K;by_cases I:x'=x
    ·subst I;rw[newρ_eq]at G;obtain⟨⟨o1,a4⟩,Z⟩:=T r m c K;obtain⟨⟨o2,V⟩,S⟩:=T r' m c' G;exact⟨rfl,(U.inj 0 r 0 r' o1 o2 m c c' (by grind [famH]) (by grind [famH]) Z S).2⟩
    rw[newρ_ne I]at G;rw[aM I]at C;have:=bz (p.objs x' r' R C) G;grind
   rw[newρ_ne A]at K;rw[aM A]at q;by_cases I:x'=d
   ·subst I;rw[newρ_eq]at G;have:=bz (p.objs x r o q) K;grind
   rw[newρ_ne I]at G;rw[aM I]at C;exact p.inj x r x' r' o R m c c' q C K G
  ·by_cases A:x=d
   ·subst A;rw[newρ_eq]at K;have:=af _ _ _ K;have hk:=p.keep.size;exact⟨.inl (by omega),fun W=>by have:=p.bar m W;omega⟩
   rw[newρ_ne A]at K;rw[aM A]at q;exact p.old x r o m c q K
  by_cases A:x=d
  ·subst A;rw[aS,<- hF,ach]at q;obtain⟨o2,V,rfl⟩:=acf.1 q;intro e he z hz;grind [renO,dM]
  rw[aM A]at q;exact p.self x r o q
 have Q:bo X (newρ ρ d f) ⟨s.tmps,aF s.H d F⟩ a D:=fun k x A=>by
  obtain⟨u,Z,S⟩:=an k x A;grind [TV.rel_map]
 have hv:l.rel (newρ ρ d f) (aF s.H d F) (Xo X (newρ ρ d f) (aF s.H d F)) D j:=by
  grind [qY]
 refine⟨by grind [gX],by grind [kK,ke],newρ ρ d f,by grind [gP],qo (s:=⟨s.tmps,aF s.H d F⟩) al Q hv,hO,W,?_⟩;rw[gP];exact N.weaken fun m _ E=>ac m E
theorem SK {H:OH} (h:rJ (lk H l)=true):lk H l=l:=by
 unfold lk at h⊢;split
 ·rename_i a r c len;simp only at h;split at h<;>cases h
 ·cases h
 rfl
theorem CZ {H y:OH} {o:Rho} {E:World} (h:rJ l=true) (q:l.rel ρ H e w j):l.rel o y f E j:=by
 have D: ∀x u,uI x=true->AV.rel ρ H e w x u->AV.rel o y f E x u:=fun x u n J=>by
  cases x with
  |p x=>
   cases x with
   |raw z=>
    obtain⟨rfl,C⟩:=aZ (ρ:=ρ) (H:=H) J;exact bS.raw _ C
   |sl N=>cases n
   |ptr cs=>cases n
  |sl a r K len=>cases n
  |ptr a r i m=>cases n
  |junk=>cases n
  |fn=>cases n
 have agg: ∀cs j,cs.all uI=true->bM ρ H e w cs j->bM o y f E cs j:=fun cs j I ⟨vs,A,B,F⟩=>by
  simp only[acr]at I;exact⟨vs,A,B,fun m x n=>by grind⟩
 cases l with
 |one x=>exact D x j h q
 |agg cs=>exact agg cs j h q
 |fn g cs=>obtain⟨u,C,G⟩:=q;exact⟨u,agg cs u h C,G⟩
 |tup M=>
  simp only[rJ,acr]at h;obtain⟨vs,A,B,F⟩:=q;refine⟨vs,A,B,fun m c cs L=>?_⟩;grind
def Tb:PV->Bool
 | .raw _=>true
 |_=>false
def lentOk (args:List TV) (res:CallRes) (cs:List PV):Bool:=args.all rJ||!res.plain||cs.all Tb
theorem mf.raw {Y g:Nat->Prop} (e:cs.all Tb=true) (h:mf b ty cs Y w):mf b ty cs g w:=by
 obtain⟨cells,c,l,m,n,o,p,q⟩:=h;refine⟨cells,c,l,m,n,o,p,fun j x f=>?_⟩;obtain⟨v,r,t,u⟩:=q j x f;rw[acr]at e;have:=e x (acd f);cases x with
 |raw z=>cases u with|raw _ h=>exact⟨_,r,t,.raw _ h⟩
 |sl y=>cases this
 |ptr cs=>cases this
theorem CD {m:cG P} {d:Nat} (h1:a.defers=[]) (U:a.tmps.size=s.tmps.length) (g:Inv w0 O X s.H ρ w) (V:bo X ρ s a w) (hO:O b) (J:X b) (D:mf b ty cs (Xo X ρ s.H) w) (ac:lentOk m.args m.res cs'=true) (p:CallT P b ty m.f m.args cs m.res cs') {N:List TV} (Z:N.map (lk s.H)=m.args) (Q:N.all (iB m.res.plain s.H)=true) {vs:Array Value} (ad:vs.size=N.length) (hv: ∀(j:Nat) l,N[j]?=some l-> ∃v:Value,vs[j]?=some v/\l.rel ρ s.H (Xo X ρ s.H) w v) {F:List OObj} (ht:renTV d m.res.r=l) (hF:m.res.fam.map (renO d)=F) (T:F≠[]->s.H d=[]):
  Calls P m.f vs w fun e w1=> ∃v,e= .returned v/\i9 b ty w0 O X (jJ s d l F) cs' (a.put (some d) v) w1:=by
 obtain⟨_,p⟩:=p;have z: ∀j,Xo X ρ s.H j->j<w.heap.size:=fun j A=>by
  rcases A with A|⟨x,y,o',n,g1,g2⟩
  ·exact g.bar j A
  exact bz (g.objs x y o' g1) g2
 simp only[acr]at Q;by_cases G:m.args.all rJ=true\/m.res.plain=false
 ·refine(p (Xo X ρ s.H) w vs z (.inl J) D ?_ ?_).mono ?_
  ·grind
  ·intro j u K;have hu0:=K;rw[<- Z,ach]at K;obtain⟨t0,B,rfl⟩:=acf.1 K;obtain⟨v,W,Y⟩:=hv j t0 B;refine⟨v,W,?_⟩;rcases G with aa|I
   ·grind [SK,CZ]
   have:=Q t0 (acd B);rw[I]at this;exact ut g.objs (fun _ h=>h) (fun h=>by cases h) Y this
  grind [GP]
 have ab:m.args.all rJ=false:=by grind
 have I:m.res.plain=true:=by grind
 have S:cs'.all Tb=true:=by
  grind [lentOk]
 have q:=I;unfold CallRes.plain at q;rw[acN]at q;have L:m.res.fam=[]:=List.isEmpty_iff.1 q.1;refine(p (fun j=>j=b) w vs (fun j A=>by subst A;exact z j (.inl J)) rfl (D.weaken fun j _ A=>by subst A;exact .inl J) ?_ ?_).mono ?_
 ·grind
 ·intro j u K;rw[<- Z,ach]at K;obtain⟨t0,B,rfl⟩:=acf.1 K;obtain⟨v,W,Y⟩:=hv j t0 B;refine⟨v,W,?_⟩;exact CU g.objs (fun j A=>by subst A;exact .inl J) (fun _ x y o b' c C E R=>by subst R;exact(g.old x y o b' c C E).2 J) Y (Q t0 (acd B))
 rintro e w1 ⟨v,rfl,M,hi,hr,E⟩;refine⟨v,rfl,GP h1 U g V hO J ht hF T (ρc:=M) ?_ (CZ q.2 hr) (E.raw S)⟩;rw[L];exact⟨hi.keep,fun x r o C=>by simp[famH]at C,fun x r x' r' o o' j c c' C=>by simp[famH]at C,fun x r o j c C=>by simp[famH]at C,fun j A=>acp (z j A) hi.keep.size,fun x r o C=>by simp[famH]at C⟩
theorem V7 {p:List (cG P)} {ow:List Nat} {i:Nat} {s1:AS} (M:i9 b ty w0 O X s cs a w) {o:Oper} {c:Call} (G:o.op= .call c) (l:c.callee= .value h) (hy:(∃f,h= .func f)\/ ∃k,h= .tmp k) {I:cG P} (L:p.find? (·.i==i)=some I) (C:lentOk I.args I.res cs'=true) (q:CallT P b ty I.f I.args cs I.res cs') (g:dY P p ow i o s=some s1) {K:Act->World->Prop} {Q:Exit->Act->World->Prop} (hK: ∀v w',i9 b ty w0 O X s1 cs' (a.put o.dst v) w'->K (a.put o.dst v) w'):o.wp P a w K Q:=by
 obtain⟨h1,N,ρ,B,z,hO,hX,A⟩:=M;have hM:pF o.op=false:=by rw[G];show VU c.callee=false;rw[l];rfl
 have hR:Bw o.op=false:=by
  obtain⟨callee,args,ac⟩:=c;simp only at l;subst l;rw[G];rfl
 have hD:iv P s.ev s.H o.op=none:=by
  obtain⟨callee,args,ac⟩:=c;simp only at l;subst l;rw[G];rfl
 unfold dY at g;simp only[hM,hR,hD,ada,if_false]at g;obtain⟨d,t,F,ad,n,J,aa⟩: ∃d t F,o.dst=some d/\cB P p ow i d s.ev s.H o.op=some (t,F)/\(F≠[]->s.H d=[])/\s1=jJ s d t F:=by
  grind [jJ]
 subst aa;rw[G]at n;rcases hy with⟨f,rfl⟩|⟨k,rfl⟩
 ·simp only[cB,l]at n;rw[L]at n;split at n
  ·rename_i ab ts m D;injection m with m
   subst m;split at n
   ·rename_i Y;obtain⟨R,S,T,_⟩:=Y;injection n with n
    injection n with ht W
    subst R;obtain⟨e1,U⟩:=bP D;have u:=fW (w:=w) G l (e:=a.eval) rfl q.1;unfold Oper.wp;rw[u];simp only[Oper.upon];refine(CD h1 N B z hO hX A C q S T (vs:=c.args.map a.eval) (by simp[e1]) (fun j t0 r=>?_) ht W J).mono ?_
    ·obtain⟨x,hx,E⟩:=U j t0 r;exact⟨a.eval x,by grind,bv z x t0 E⟩
    grind
   cases n
  cases n
 simp only[cB,l]at n;rw[L]at n;split at n
 ·rename_i f V ab ts Z m D;injection m with m
  subst m;split at n
  ·rename_i Y;obtain⟨R,S,T,_⟩:=Y;injection n with n
   injection n with ht W
   subst R;obtain⟨e1,U⟩:=bP D;obtain⟨us,k1,k2,k3⟩:=lD (v:=a.eval (.tmp k)) (fun t0 r=>bv z (.tmp k) t0 r) Z;have u:=lL (w:=w) G l (e:=a.eval) k1 q.1;unfold Oper.wp;rw[u];simp only[Oper.upon];refine(CD h1 N B z hO hX A C q S T (vs:=c.args.map a.eval++us) (by grind) (fun j t0 r=>?_) ht W J).mono ?_
   ·by_cases hj:j<ts.length
    ·rw[acx hj]at r;obtain⟨x,hx,E⟩:=U j t0 r;exact⟨a.eval x,by grind,bv z x t0 E⟩
    grind
   grind
  cases n
 cases n
end
end
end Go.Proofs.YtalmoejhjceflaaGreat
