/-
  Part 11 of a proof (walks and plain facts).
-/
import Derived.Test.YtalmoejhjceflaaGreatV09
import Derived.Scope
set_option linter.all false
set_option maxRecDepth 100000
set_option maxHeartbeats 64000000
namespace Go.Proofs.YtalmoejhjceflaaGreat
open Go.RowKit
variable {b c:List OObj} {e:Nat->Prop} {f:Array Oper} {g:List PV} {h:TV} {n:Nat} {j:Exit->AS->Prop} {l:FuncId} {m:Code} {o:Rho} {p:Value} {w:World} {P:Program} {q:TypeId} {r:Oper}
section
section
variable {P:Program} {b:Nat} {ty:TypeId} {cs cs':List PV} {Q:Exit->AS->List PV->Prop} {s:AS}
theorem BZ {w0:World} {O X:Nat->Prop} (g:List (ar P)) (m:dD P) {I:List Nat} {n:Array Oper} (D:gR n m.i=true) (C:g.all (fun c=>c.i !=m.i)=true) (q:lentOk m.args m.res cs'=true) (p:CallT P b ty m.f m.args cs m.res cs') {Q:Exit->Act->World->Prop} {t:List Nat}:
  ∀(l:List Oper) (k:Nat) (s u:AS) (a:Act) (w:World),(∀(j:Nat) o,l[j]?=some o->n[k+j]?=some o)->ja P (g.map ar.a++[m]) I n (l.zipIdx k) s=some u->jl b ty w0 O X s (if k<=m.i then cs else cs') a w->
   (∀z y,jl b ty w0 O X u (if k+l.length<=m.i then cs else cs') z y->wpOps P n Q t z y)->wpOps P n Q (List.range' k l.length++t) a w
 |[],k,s,u,a,w,_,h,r,A=>by
  simp only[ag8,ja]at h;injection h with h
  subst h;exact A a w r
 |o::l,k,s,u,a,w,E,h,r,A=>by
  simp only[agt,ja]at h;split at h
  ·rename_i J B;simp only[ae6,afj,agr,wpOps];have F:n[k]?=some o:=by have:=E 0 o rfl;omega
   rw[F];simp only;have:=xW (Q:=Q) g m F D C q p (x:=if k<=m.i then cs else cs') (fun M=>if_pos (by omega)) r B (K:=wpOps P n Q (List.range' (k+1) l.length++t)) (fun v y G=>BZ g m D C q p l (k+1) J u _ _ (fun j o L=>by have:=E (j+1) o (by grind);grind) h (by
    have e:(if k=m.i then cs' else if k<=m.i then cs else cs')=if k+1<=m.i then cs else cs':=by
     grind
    rw[e]at G;exact G) (fun z y H=>A z y (by grind)))
   grind
  cases h
theorem Qr (q J:Nat) {f1 f2:FuncId} {n p:List TV} {t u:CallRes} {x:List PV} (y:CallT P b ty f1 n cs t g) (z:CallT P b ty f2 p g u x) (l:List (ar P)) (K:List Nat) {id:Nat} (G:gR f q=true) (H:gR f J=true) (L:l.all (fun c=>c.i !=q)=true) (M:l.all (fun c=>c.i !=J)=true) (A:lentOk n t g=true) (B:lentOk p u x=true) (hm:q<J) (hl:s.tmps.length<=1000000) (h:bM P (l.map ar.a++[⟨q,f1,n,t⟩]) K (aV f (f.toList.take (q+1)) 0) (some s) (fun D=>D.tmps.length<=1000000/\bM P (l.map ar.a++[⟨J,f2,p,u⟩]) K (aV f (f.toList.drop (q+1)) (q+1)) (some D) (fun v=>Q .normal v x))):fx P b ty (.region id f false) Q s cs:=fun F O X a w r=>by
 obtain⟨D,T,Z,U⟩:=aO P _ K f _ 0 s _ h;obtain⟨v,V,W⟩:=aO P _ K f _ (q+1) D _ U;refine wp_region ?_;have I: ∀{m},gR f m=true->m<f.size:=fun{m} hL=>by
  grind [gR]
 have aa:=I G;have ab:=I H;have N:(f.toList.take (q+1)).length=q+1:=by grind
 have R:f.size=(f.toList.take (q+1)).length+(f.toList.drop (q+1)).length:=by grind
 rw[R,afi,<- afk,afm];refine BZ (w0:=F) (O:=O) (X:=X) l ⟨q,f1,n,t⟩ G L A y (Q:=fun e C E=> ∃v k,Q e v k/\jl b ty F O X v k C E) (f.toList.take (q+1)) 0 s D a w (fun j o Y=>?_) T (by grind) fun C E S=>?_
 ·grind
 rw[if_neg (by grind)]at S;rw[N];refine xP (w0:=F) (O:=O) (X:=X) l ⟨J,f2,p,u⟩ H M B z (Q:=fun e C E=> ∃v k,Q e v k/\jl b ty F O X v k C E) (f.toList.drop (q+1)) (q+1) D v C E (fun j o Y=>?_) V ?_ (fun C E S=>⟨v,x,W,?_⟩)
 ·grind
 ·grind
 grind
theorem KI (p w:Nat) {f1 f2:FuncId} {j l:List TV} {n o:CallRes} {q:List PV} (r:CallT P b ty f1 j cs n g) (t:CallT P b ty f2 l g o q) (e:List (ar P)) (D:List Nat) {id:Nat} (B:gR f p=true) (C:gR f w=true) (z:e.all (fun c=>c.i !=p)=true) (A:e.all (fun c=>c.i !=w)=true) (u:lentOk j n g=true) (v:lentOk l o q=true) (G:p<w) (F:s.tmps.length<=1000000) (h: ∀K:AS->Prop,(∀x,(x.tmps.length<=1000000/\ ∀K:AS->Prop,(∀E,fx P b ty m Q E q->K E)->bM P (e.map ar.a++[⟨w,f2,l,o⟩]) D (aV f (f.toList.drop (p+1)) (p+1)) (some x) K)->K x)->bM P (e.map ar.a++[⟨p,f1,j,n⟩]) D (aV f (f.toList.take (p+1)) 0) (some s) K):fx P b ty (.seq (.region id f false) m) Q s cs:=
 ck (Qr p w r t e D B C z A u v G F (h _ fun x ⟨H,I⟩=>⟨H,I _ fun _ h=>h⟩))
end
def Ar (d b:Nat):AV->AV
 | .p (.raw (.pointer (some ⟨c,0,none⟩)))=>if c=b then .ptr d 0 0 0 else .p (.raw (.pointer (some ⟨c,0,none⟩)))
 |x=>x
def HV (d b:Nat):TV->TV
 | .one x=> .one (Ar d b x)
 | .agg c=> .agg (c.map (Ar d b))
 | .fn f c=> .fn f (c.map (Ar d b))
 | .tup e=> .tup (e.map fun t=>(t.1,t.2.map (Ar d b)))
theorem HO {X:Nat->Prop} {a:Act} {m:World} {s:AS} {d:Nat} (ab:w.heap.size<=n\/e n) (ae: ¬X n) (hd:s.H d=[]) (r:jl n q w (fun j=>e j\/j=n) (fun j=>X j\/j=n) s g a m):
  dP w e X ⟨s.tmps.map (HV d n),aK s.H d [⟨q,g.length,[g.map AV.p]⟩]⟩ a m:=by
 obtain⟨k1,af,Q,u,T,_,_,cells,h,p1,p2,p3,p4,p5,p6⟩:=r;have T:bz (fun j=>X j\/j=n) Q s a m:=T;generalize R:newρ Q d (fun r=>if r=0 then some (n,h)else none)=ρ2;generalize W:aK s.H d [⟨q,g.length,[g.map AV.p]⟩]=I;have ac:I d=[⟨q,g.length,[g.map AV.p]⟩]:=by rw[<- W,be]
 have C: ∀x,x≠d->I x=s.H x:=fun x A=>by rw[<- W,aU A]
 have M: ∀r,ρ2 d r=if r=0 then some (n,h)else none:=fun r=>by rw[<- R,newρ_eq]
 have J: ∀x r,x≠d->ρ2 x r=Q x r:=fun x r A=>by rw[<- R,newρ_ne A]
 have G: ∀(y:Nat) o,(I d)[y]?=some o->y=0/\o=⟨q,g.length,[g.map AV.p]⟩:=fun y o B=>by
  grind
 have Y: ∀j,Xo X ρ2 I j->Xo (fun j=>X j\/j=n) Q s.H j:=fun j D=>by
  rcases D with D|⟨x,y,o,c,V,L⟩
  ·exact .inl (.inl D)
  by_cases A:x=d
  ·subst A;obtain⟨rfl,_⟩:=G y o V;rw[M,if_pos rfl]at L;injection L with L
   injection L with L
   exact .inl (.inr L.symm)
  rw[C x A]at V;rw[J x y A]at L;exact .inr ⟨x,y,o,c,V,L⟩
 have Z: ∀x v,AV.rel Q s.H (Xo (fun j=>X j\/j=n) Q s.H) m x v->AV.rel ρ2 I (Xo X ρ2 I) m x v:=uR fun x v hn A=>by
  cases x with
  |fn=>cases hn
  |p x=>exact bS.weaken (fun j _ D=>Y j D) A
  |sl x r ag len=>
   obtain⟨o,V,L⟩:=A;have aa:x≠d:=by grind
   exact⟨o,by grind,by grind⟩
  |ptr x r i j=>
   obtain⟨o,b',c,V,L,g3⟩:=A;have aa:x≠d:=by grind
   exact⟨o,b',c,by grind,by grind,g3⟩
  |junk=>trivial
 have S: ∀x v,AV.rel Q s.H (Xo (fun j=>X j\/j=n) Q s.H) m x v->AV.rel ρ2 I (Xo X ρ2 I) m (Ar d n x) v:=fun x v A=>by
  unfold Ar;split
  ·split
   ·rename_i hb;subst hb;obtain⟨rfl,_⟩:=bo (ρ:=Q) (H:=s.H) A;exact⟨⟨q,g.length,[g.map AV.p]⟩,_,h,by grind,by rw[M,if_pos rfl],by simp,by simp⟩
   grind
  grind
 refine⟨k1,by grind,ρ2,⟨⟨u.keep.os,u.keep.tape,u.keep.output,u.keep.size,fun k hk hn=>?_⟩,fun x y o B=>?_,fun x y P U o o' j c c' B F D E=>?_,fun x y o j c B D=>?_,fun j D=>u.bar j (.inl D),fun x y o B=>?_⟩,fun t x A=>?_⟩
 ·by_cases ad:k=n
  ·grind
  exact u.keep.block k hk (fun hh=>by
   grind)
 ·by_cases A:x=d
  ·subst A;obtain⟨rfl,rfl⟩:=G y o B;refine⟨fun f N=>by grind,p5,?_⟩;rw[M,if_pos rfl];refine⟨cells,p1,p2,by omega,p4,fun i f j z N hz=>?_⟩
   match i,N with
   |0,N=>
    simp at N;subst N;rw[aeG]at hz;obtain⟨y,hy,rfl⟩:=adT.1 hz;obtain⟨v,v1,v2,v3⟩:=p6 j y hy;exact⟨v,by grind,v2,bS.weaken (fun j _ D=>Y j D) v3⟩
   |i+1,N=>simp at N
  replace B:(I x)[y]?=some o:=B
  rw[C x A]at B;exact gt (u.objs x y o B) (J x y A) (fun _ _ _=>rfl) Z
 ·by_cases A:x=d
  ·subst A;obtain⟨rfl,_⟩:=G y o B;rw[M,if_pos rfl]at D;injection D with D
   injection D with D _
   subst D;by_cases K:P=x
   ·grind
   replace F:(I P)[U]?=some o':=F
   rw[C P K]at F;rw[J P U K]at E;exact absurd (.inr rfl) (u.old P U o' _ c' F E).2
  replace B:(I x)[y]?=some o:=B
  rw[C x A]at B;rw[J x y A]at D;by_cases K:P=d
  ·subst K;obtain⟨rfl,_⟩:=G U o' F;rw[M,if_pos rfl]at E;injection E with E
   injection E with E _
   subst E;exact absurd (.inr rfl) (u.old x y o _ c B D).2
  replace F:(I P)[U]?=some o':=F
  rw[C P K]at F;rw[J P U K]at E;exact u.inj x y P U o o' j c c' B F D E
 ·by_cases A:x=d
  ·grind
  replace B:(I x)[y]?=some o:=B
  rw[C x A]at B;rw[J x y A]at D;obtain⟨V,L⟩:=u.old x y o j c B D;grind
 ·by_cases A:x=d
  ·subst A;obtain⟨_,rfl⟩:=G y o B;intro f N z hz;simp at N;subst N;obtain⟨l,_,rfl⟩:=aeL.1 hz;trivial
  replace B:(I x)[y]?=some o:=B
  rw[C x A]at B;exact u.self x y o B
 simp only[aeG]at A;obtain⟨y,hy,rfl⟩:=adT.1 A;obtain⟨v,v1,v2⟩:=T t y hy;refine⟨v,v1,?_⟩;have:=jK v2 S;cases y<;>exact this
theorem tu {s:AS} (d:Nat) {cs:List PV} (v:s.H d=[⟨q,cs.length,[cs.map AV.p]⟩]) (h: ∀b,fx P b q m (fun e g f=>g.H d=[]/\j e ⟨g.tmps.map (HV d b),aK g.H d [⟨q,f.length,[f.map AV.p]⟩]⟩) ⟨s.tmps.map (yT d b),aK s.H d []⟩ cs):bv P m j s:=fun A O X a w r=>by
 obtain⟨b,o,t,u⟩:=Bi d v r;exact wp_mono (h b _ _ _ _ _ u) fun e y z ⟨g,f,⟨l,n⟩,x⟩=>⟨_,n,HO o t l x⟩
end
section
def noG (Q:Exit->AS->Prop):Exit->AS->Prop
 | .goto _,_=>False
 |e,s=>Q e s
section
variable {P:Program} {s:AS} {Q:Exit->AS->Prop}
theorem Qj (h:bv P m (noG Q) s):bv P (.scope m) Q s:=fun _ _ _ _ _ r=>
 wp_scope_straight (wp_mono (h _ _ _ _ _ r) fun e a w ⟨g,b,f⟩=>by
  cases e<;>first|exact⟨g,b,f⟩|exact b.elim)
theorem Qh (h:Q .normal s):bv P (.label n) Q s:=fun _ _ _ _ _ r=>wp_label ⟨s,h,r⟩
end
section
variable {P:Program} {b:Nat} {ty:TypeId} {cs:List PV} {s:AS} {Q:Exit->AS->List PV->Prop}
theorem Hr (k d:Nat) (D:s.tmps[k]?=some (.raw (.pointer (some ⟨b,0,none⟩)))) (C:s.H d=[]) (h:Hd P k m (fun e o=> ∃f,o.H d=[⟨ty,f.length,[f.map AV.p]⟩]/\o.tmps[k]?=some (.one (.ptr d 0 0 0))/\Q e ⟨o.tmps.map (yT d b),aK o.H d []⟩ f) ⟨s.tmps.map (HV d b),aK s.H d [⟨ty,cs.length,[cs.map AV.p]⟩]⟩):fx P b ty m Q s cs:=fun J O X a w r=>by
 have t:O b:=by obtain⟨_,_,_,_,_,t,_⟩:=r;exact t
 have z:X b:=by obtain⟨_,_,_,_,_,_,z,_⟩:=r;exact z
 have L:(fun j=>O j\/j=b)=O:=by
  grind
 have M:(fun j=>(X j/\j≠b)\/j=b)=X:=by
  grind
 have g:a.tmps[k]?=some (.pointer (some ⟨b,0,none⟩)):=by
  obtain⟨_,_,x,_,l,_⟩:=r;obtain⟨v,q,u⟩:=l k _ D;rw[q,(bo (H:=s.H) (ρ:=x) u).1]
 have I:jl b ty J (fun j=>O j\/j=b) (fun j=>(X j/\j≠b)\/j=b) s cs a w:=by grind
 have n:=HO (.inr t) (fun h=>h.2 rfl) C I;refine wp_mono (h _ _ _ _ _ _ ⟨n,g⟩) fun e K U ⟨o,⟨f,G,S,T⟩,E,F⟩=>?_
 obtain⟨y,N,R,A⟩:=Bi d G E;have B:y=b:=by
  obtain⟨_,_,x,_,l,_⟩:=id A;obtain⟨v,q,u⟩:=l k (.raw (.pointer (some ⟨y,0,none⟩))) (by
   grind [yT,qz])
  rw[F]at q;injection q with q
  have:=(bo u).1;grind
 subst B;grind
end
end
section
def p7:TV->Bool
 | .one (.p _)=>true
 | .agg b=>b.all isPure
 | .fn _ b=>b.all isPure
 |_=>false
theorem mY {l:Rho} {H q:OH} {m:Nat->Prop} {v:Value} (s: ∀b,m b->e b) (n:p7 h=true) (c:h.rel o H e w v):h.rel l q m w v:=by
 have F: ∀x u,isPure x=true->AV.rel o H e w x u->AV.rel l q m w x u:=fun x u y E=>by
  cases x with
  |p x=>exact bS.weaken (fun b _ r=>s b r) E
  |_=>cases y
 have agg: ∀g v,g.all isPure=true->dK o H e w g v->dK l q m w g v:=fun g v D ⟨vs,z,A,G⟩=>by
  simp only[aeP]at D;exact⟨vs,z,A,fun j x y=>by grind⟩
 cases h with
 |one x=>
  cases x with
  |p x=>exact bS.weaken (fun b _ r=>s b r) c
  |_=>cases n
 |agg g=>exact agg g v n c
 |fn f g=>obtain⟨u,B,C⟩:=c;exact⟨u,agg g u n B,C⟩
 |tup I=>cases n
def rA (k:Nat):Nat->List TV->Bool
 |_,[]=>true
 |i,t::l=>(i==k||p7 t)&&rA k (i+1) l
theorem yB {k:Nat}: ∀{l:List TV} {i j:Nat} {t:TV},rA k i l=true->i+j≠k->l[j]?=some t->p7 t=true
 |[],_,_,_,_,_,h=>by simp at h
 |u::l,i,0,t,h,b,c=>by
  grind [rA]
 |u::l,i,j+1,t,h,b,c=>by
  simp only[rA,afb]at h;exact yB (i:=i+1) (j:=j) h.2 (by omega) (by grind)
def famB (F:List OObj) (b:Rho):Nat->Prop:=fun j=> ∃(r:Nat) (o:OObj) (c:Nat),F[r]?=some o/\b 0 r=some (j,c)
theorem LQ {l:Rho} {H q:OH} {m:Nat->Prop} {v:Value} (D: ∀j,j<w.heap.size->m j->e j) (n:noRefTV h=true) (b:h.rel o H e w v):h.rel l q m w v:=by
 have z: ∀x u,iu x=true->AV.rel o H e w x u->AV.rel l q m w x u:=fun x u y F=>by
  cases x with
  |p x=>exact bS.weaken D F
  |junk=>trivial
  |_=>cases y
 have agg: ∀g v,g.all iu=true->dK o H e w g v->dK l q m w g v:=fun g v E ⟨vs,s,t,A⟩=>by
  simp only[aeP]at E;exact⟨vs,s,t,fun j x y=>by grind⟩
 cases h with
 |one x=>exact z x v n b
 |agg g=>exact agg g v n b
 |fn f g=>obtain⟨u,B,C⟩:=b;exact⟨u,agg g u n B,C⟩
 |tup I=>
  simp only[noRefTV,aeP]at n;obtain⟨vs,s,t,A⟩:=b;refine⟨vs,s,t,fun j c g G=>?_⟩;grind
section
variable {P:Program} {s:AS} {a:Act} {w0 w:World} {O X:Nat->Prop}
end
end
section
section
variable {ρ ρ':Rho} {H H':OH} {Y Y':Nat->Prop} {w w':World} {d:Nat}
theorem RN (m:selfTV 0 h) (b:h.rel ρ H Y w p) (k: ∀x p,bJ 0 x->AV.rel ρ H Y w x p->AV.rel ρ' H' Y' w' (dA d x) p):(renTV d h).rel ρ' H' Y' w' p:=by
 have agg: ∀g p,(∀x∈g,bJ 0 x)->dK ρ H Y w g p->dK ρ' H' Y' w' (g.map (dA d)) p:=fun g p C ⟨vs,n,y,q⟩=>by
  refine⟨vs,n,by grind,fun j x D=>?_⟩;grind
 cases h with
 |one x=>exact k x p m b
 |agg g=>exact agg g p m b
 |fn f g=>obtain⟨u,z,A⟩:=b;exact⟨u,agg g u m z,A⟩
 |tup E=>
  obtain⟨vs,n,y,q⟩:=b;refine⟨vs,n,by grind,fun j c g r=>?_⟩;rw[aeG]at r;obtain⟨⟨o,l⟩,s,e⟩:=adT.1 r;simp at e;obtain⟨rfl,rfl⟩:=e;obtain⟨u,F,G⟩:=q j o l s;have B: ∀x∈l,bJ 0 x:=m (o,l) (adQ s);grind
theorem Mg (m:selfTV 0 h) (b:(renTV d h).rel ρ H Y w p) (k: ∀x p,bJ 0 x->AV.rel ρ H Y w (dA d x) p->AV.rel ρ' H' Y' w' x p):h.rel ρ' H' Y' w' p:=by
 have agg: ∀g p,(∀x∈g,bJ 0 x)->dK ρ H Y w (g.map (dA d)) p->dK ρ' H' Y' w' g p:=fun g p E ⟨vs,o,s,q⟩=>by
  refine⟨vs,o,by grind,fun j x F=>?_⟩;obtain⟨u,r,n,D⟩:=q j (dA d x) (by grind);grind
 cases h with
 |one x=>exact k x p m b
 |agg g=>exact agg g p m b
 |fn f g=>obtain⟨u,z,A⟩:=b;exact⟨u,agg g u m z,A⟩
 |tup G=>
  obtain⟨vs,o,s,q⟩:=b;refine⟨vs,o,by grind,fun j c g B=>?_⟩;obtain⟨u,r,n⟩:=q j c (g.map (dA d)) (by grind);have C: ∀x∈g,bJ 0 x:=m (c,g) (adQ B);refine⟨u,r,?_⟩;rcases n with⟨n,D⟩|⟨n,x,e,I⟩
  ·grind
  cases g with
  |nil=>cases e
  |cons y l=>
   simp at e;grind
end
structure qm (P:Program) (f:FuncId) (args:List TV) (F F':List OObj) (r:TV):Prop where
 able:callable P f=true
 sA: ∀t∈args,selfTV 0 t
 sR:selfTV 0 r
 sF: ∀o∈F,selfO 0 o
 sF': ∀o∈F',selfO 0 o
 calls: ∀(X:Nat->Prop) (w:World) (vs:Array Value) (ρ:Rho),Inv w (famB F ρ) X (famH 0 F) ρ w->vs.size=args.length->
  (∀(j:Nat) t,args[j]?=some t-> ∃v:Value,vs[j]?=some v/\t.rel ρ (famH 0 F) (Xo X ρ (famH 0 F)) w v)->
  Calls P f vs w fun e w'=> ∃v,e= .returned v/\ ∃ρ':Rho,Inv w (famB F ρ) X (famH 0 F') ρ' w'/\r.rel ρ' (famH 0 F') (Xo X ρ' (famH 0 F')) w' v
def abB (P:Program) (c:Func) (b:List OObj) (r:TV) (s:AS):Prop:=s.H=famH 0 b/\uh P s c.results.toList=some r
theorem H5 {z:Func} {args:List TV} (M:P.funcs[l]?=some z) (L:z.body=some m) (N:callable P l=true) (S: ∀t∈args,selfTV 0 t) (U:selfTV 0 h) (T: ∀o∈b,selfO 0 o) (sF': ∀o∈c,selfO 0 o) (g:bv P m (fun e s=>(e= .normal\/e= .ret)/\ ∃H,bN s H/\abB P z c h H) ⟨args++List.replicate (z.ntmps-args.length) .undef,famH 0 b⟩):qm P l args b c h:=by
 refine⟨N,S,U,T,sF',fun X w vs J q B p=>?_⟩;refine calls_of_wp M L ?_;have A:dP w (famB b J) X ⟨args++List.replicate (z.ntmps-args.length) .undef,famH 0 b⟩ {tmps:=vs++Array.replicate (z.ntmps-vs.size) undef,defers:=[]} w:=⟨rfl,by simp[B],J,q,r6 B p⟩;refine wp_mono (g _ _ _ _ _ A) fun e K V ⟨W,⟨D,R,Q,n,C⟩,u⟩=>?_
 obtain⟨G,O,y,j,x⟩:=Q _ _ _ _ _ u;have x:bz X y R K V:=x;rw[n]at j;obtain⟨v,I,E⟩:=gU (by rw[n];exact j) x C;rw[n]at E;rcases D with rfl|rfl
 ·exact⟨G,v,I,v,rfl,y,j,E⟩
 exact⟨G,v,I,v,rfl,y,j,E⟩
theorem qm.toC {args:List TV} {k:Nat} (m:qm P l args [⟨q,n,[]⟩] b h) (s:0<n) (A:args[k]?=some (.one (.sl 0 0 0 0))) (M:rA k 0 args=true):
  CallC P l (args.set k (.one (.p (.raw (.slice none 0 0))))) ⟨b,h⟩:=by
 refine⟨m.able,fun X w vs E I z=>?_⟩;have L:famB [⟨q,n,[]⟩] (fun _ _=>none)=fun _=>False:=by
  funext j;apply propext;constructor
  ·rintro⟨_,_,_,_,m⟩;cases m
  simp
 have D:Xo X (fun _ _=>none) (famH 0 [⟨q,n,[]⟩])=X:=by
  funext j;apply propext;constructor
  ·rintro(m|⟨_,_,_,_,_,m⟩)
   ·exact m
   cases m
  exact .inl
 have G:=(aeI.1 A).1;have:=m.calls X w vs (fun _ _=>none) ⟨Keep.refl w,fun a h o y=>?_,fun a h J O o N g c K _ _ x=>(by cases x),fun a h o g c _ x=>(by cases x),E,fun a h o y=>?_⟩ (by grind) (fun j t u=>?_)
 ·grind
 ·obtain⟨rfl,rfl,rfl⟩:=QS y;exact⟨fun e s=>(by cases s),s,rfl⟩
 ·obtain⟨rfl,rfl,rfl⟩:=QS y;exact fun e s=>by cases s
 rw[D];by_cases F:j=k
 ·subst F;obtain⟨v,B,C⟩:=z j _ (afu G);rw[A]at u;injection u with u
  subst u;have:=(bo (ρ:=fun _ _=>none) (H:=fun _=>[]) C).1;exact⟨v,B,_,rfl,by simp,.inl ⟨rfl,this,rfl,rfl⟩⟩
 obtain⟨v,B,C⟩:=z j t (by grind);grind [mY,yB]
def kF (b:Nat):Nat->Nat->Bool:=fun x _=>x==b
section
variable {P:Program} {s:AS} {a:Act} {w0 w:World} {O X:Nat->Prop}
theorem Dy {B:Nat->Prop} (h1:a.defers=[]) (bt:a.tmps.size=s.tmps.length) (D:Inv w0 O X s.H o w) (bw:bz X o s a w) (hB: ∀j,B j->O j/\X j) (sR:selfTV 0 h) (ap: ∀C∈b,selfO 0 C) (ag: ∀C∈c,selfO 0 C) (ba:n<=4999) (bp:s.H n=b.map (renO n)):
  ∃(X1:Nat->Prop) (R:Rho),Inv w (fun j=>famB b R j\/B j) X1 (famH 0 b) R w/\(∀j,B j->X1 j)/\
   (∀t v,selfTV 0 t->(renTV n t).rel o s.H (Xo X o s.H) w v->t.rel R (famH 0 b) (Xo X1 R (famH 0 b)) w v)/\
   (∀j,famB b R j-> ∃(y:Nat) (C:OObj) (l:Nat),(s.H n)[y]?=some C/\o n y=some (j,l))/\
   (∀y,R 0 y=o n y)/\
   ∀v w1 V,Inv w (fun j=>famB b R j\/B j) X1 (famH 0 c) V w1->h.rel V (famH 0 c) (Xo X1 V (famH 0 c)) w1 v-> ∃J:Rho,(∀y,J n y=V 0 y)/\Inv w0 O X (aK s.H n (c.map (renO n))) J w1/\(∀x v,AV.rel o s.H (Xo X o s.H) w x v->AV.rel J (aK s.H n (c.map (renO n))) (Xo X J (aK s.H n (c.map (renO n)))) w1 (aY (kF n) x) v)/\(renTV n h).rel J (aK s.H n (c.map (renO n))) (Xo X J (aK s.H n (c.map (renO n)))) w1 v:=by
 have hF: ∀(y:Nat) E,(s.H n)[y]?=some E↔ ∃C,b[y]?=some C/\E=renO n C:=fun y E=>by
  grind
 let R:Rho:=fun x y=>if x=0 then o n y else none
 have af: ∀y,R 0 y=o n y:=fun y=>if_pos rfl
 let own:Nat->Prop:=famB b R
 have N: ∀j,own j↔ ∃(y:Nat) (E:OObj) (I:Nat),(s.H n)[y]?=some E/\o n y=some (j,I):=fun j=>by
  constructor
  ·rintro⟨y,C,I,K,M⟩;grind
  rintro⟨y,E,I,K,M⟩;obtain⟨C,g3,_⟩:=(hF y E).1 K;exact⟨y,C,I,g3,by grind⟩
 have bm: ∀j,own j->Xo X o s.H j:=fun j S=>by
  obtain⟨y,E,I,K,M⟩:=(N j).1 S;exact .inr ⟨n,y,E,I,K,M⟩
 let X1:Nat->Prop:=fun j=>Xo X o s.H j/\ ¬own j
 have a4: ∀j,Xo X o s.H j->j<w.heap.size:=fun f hb=>by
  rcases hb with hb|⟨x,y,E,A,K,M⟩
  ·exact D.bar f hb
  exact bI (D.objs x y E K) M
 have a6:Xo X1 R (famH 0 b)=Xo X o s.H:=by
  funext j;apply propext;constructor
  ·rintro(m|⟨x,y,E,I,K,M⟩)
   ·exact m.1
   grind [famH]
  intro m;by_cases S:own j
  ·obtain⟨y,E,I,K,M⟩:=S;exact .inr ⟨0,y,E,I,by grind [famH],M⟩
  exact .inl ⟨m,S⟩
 have f0: ∀(x y:Nat) E,(famH 0 b x)[y]?=some E->x=0/\b[y]?=some E:=fun x y E m=>by
  grind [famH]
 have ai: ∀x v,bJ 0 x->AV.rel o s.H (Xo X o s.H) w (dA n x) v->AV.rel R (famH 0 b) (Xo X o s.H) w x v:=Qv fun x v hn W m=>by
  cases x with
  |fn=>cases hn
  |p x=>exact m
  |junk=>trivial
  |sl z y a7 len=>
   have W:z=0:=W;subst W;obtain⟨E,K,M,g3⟩:=m;obtain⟨Y,g4,rfl⟩:=(hF y E).1 K;exact⟨Y,by grind [famH],by grind [renO],Cj ba g3 (af y)⟩
  |ptr z y i j=>
   have W:z=0:=W;subst W;obtain⟨E,b',I,K,M,g3,g5⟩:=m;obtain⟨Y,g4,rfl⟩:=(hF y E).1 K;exact⟨Y,b',I,by grind [famH],by grind,by grind [renO],g5⟩
 have a2: ∀j,B j->X1 j:=fun j S=>⟨.inl (hB j S).2,fun⟨y,E,I,K,M⟩=>(D.old n y _ j I ((hF y _).2 ⟨E,K,rfl⟩) (by grind)).2 (hB j S).2⟩
 have an:Inv w (fun j=>own j\/B j) X1 (famH 0 b) R w:=by
  refine⟨Keep.refl w,fun x y E G=>?_,fun x y x' y' o1 Y j c1 c2 aa L q1 q2=>?_,fun x y E j I G q=>?_,fun j S=>a4 j S.1,fun x y E G=>?_⟩
  ·obtain⟨rfl,G⟩:=f0 x y E G;rw[a6];obtain⟨z1,z2,z3⟩:=D.objs n y (renO n E) ((hF y _).2 ⟨E,G,rfl⟩);refine⟨fun e he=>?_,z2,?_⟩
   ·have:=z1 (e.map (dA n)) (by grind [renO]);grind [renO]
   rw[af];cases hr:o n y with
   |none=>rw[hr]at z3;simpa[renO] using z3
   |some bc=>
    obtain⟨b',I⟩:=bc;rw[hr]at z3;obtain⟨cells,p1,p2,p3,p4,p5⟩:=z3;refine⟨cells,p1,p2,by grind [renO],p4,fun i e j z he hz=>?_⟩;obtain⟨u,u1,u2,u3⟩:=p5 i (e.map (dA n)) j (dA n z) (by simp[renO,he]) (by grind);exact⟨u,u1,u2,ai z u (ap E (adQ G) e (adQ he) z (adQ hz)) u3⟩
  ·obtain⟨rfl,aa⟩:=f0 x y o1 aa;obtain⟨rfl,L⟩:=f0 x' y' Y L;exact⟨rfl,(D.inj n y n y' _ _ j c1 c2 ((hF y _).2 ⟨o1,aa,rfl⟩) ((hF y' _).2 ⟨Y,L,rfl⟩) (by grind) (by grind)).2⟩
  ·grind
  grind
 refine⟨X1,R,an,a2,fun t v W m=>?_,fun j S=>(N j).1 S,af,?_⟩
 ·grind [Mg]
 intro v w1 V hi br;have f1: ∀(x y:Nat) E,(famH 0 c x)[y]?=some E->x=0/\c[y]?=some E:=fun x y E m=>by
  grind [famH]
 generalize a3:aK s.H n (c.map (renO n))=H1;generalize bn:(fun x y=>if x=n then V 0 y else o x y:Rho)=J;have bq:H1 n=c.map (renO n):=by rw[<- a3];exact be
 have ab: ∀x,x≠n->H1 x=s.H x:=fun x m=>by rw[<- a3];exact aU m
 have T: ∀y,J n y=V 0 y:=fun y=>by grind
 have U: ∀x y,x≠n->J x y=o x y:=fun x y m=>by grind
 have Z: ∀(y:Nat) E,(H1 n)[y]?=some E↔ ∃C,c[y]?=some C/\E=renO n C:=fun y E=>by
  grind
 have ah: ∀j,j<w.heap.size-> ¬own j-> ¬B j->w1.heap[j]?=w.heap[j]?:=fun j S ae bl=>hi.keep.block j S fun m=>m.elim ae bl
 have ad: ∀(y:Nat) E j I,c[y]?=some E->V 0 y=some (j,I)->(w.heap.size<=j\/own j)/\ ¬X1 j:=fun y E j I K M=>by
  obtain⟨k1,k2⟩:=hi.old 0 y E j I (by grind [famH]) M;grind
 have a9: ∀j,j<w.heap.size->Xo X J H1 j->Xo X o s.H j:=fun j S m=>by
  rcases m with m|⟨x,y,E,I,K,M⟩
  ·exact .inl m
  by_cases Q:x=n
  ·grind
  rw[ab x Q]at K;rw[U x y Q]at M;exact .inr ⟨x,y,E,I,K,M⟩
 have a1: ∀x v,bS (Xo X o s.H) w x v->bS (Xo X J H1) w1 x v:=fun x v m=>bS.later (fun j S Q=>a9 j S Q) hi.keep.size (fun p v hp ae hc=>by
  grind [iX]) m
 -- what the call says of the family, told of number n
 have av: ∀j,j<w1.heap.size->Xo X J H1 j->Xo X1 V (famH 0 c) j:=fun j _ m=>by
  rcases m with m|⟨x,y,E,I,K,M⟩
  ·have S:=D.bar j m;by_cases L:own j
   ·obtain⟨y,E,I,K,M⟩:=(N j).1 L;exact absurd m (D.old n y E j I K M).2
   exact .inl ⟨.inl m,L⟩
  by_cases Q:x=n
  ·subst Q;obtain⟨Y,g3,_⟩:=(Z y E).1 K;rw[T]at M;exact .inr ⟨0,y,Y,I,by grind [famH],M⟩
  rw[ab x Q]at K;rw[U x y Q]at M;by_cases L:own j
  ·obtain⟨y',Y,c2,k1,k2⟩:=(N j).1 L;exact absurd (D.inj x y n y' E Y j I c2 K k1 M k2).1 Q
  exact .inl ⟨.inr ⟨x,y,E,I,K,M⟩,L⟩
 have a8: ∀x v,bJ 0 x->AV.rel V (famH 0 c) (Xo X1 V (famH 0 c)) w1 x v->AV.rel J H1 (Xo X J H1) w1 (dA n x) v:=oz (c:=bJ 0) (fun _ _ _ _ _ _ m=>m.1) (xx n) fun x v hn W m=>by
  cases x with
  |fn=>cases hn
  |p x=>exact bS.weaken (fun j S Q=>av j S Q) m
  |junk=>trivial
  |sl z y a7 len=>
   have W:z=0:=W;subst W;obtain⟨E,K,M,g3⟩:=m;obtain⟨_,K⟩:=f1 0 y E K;exact⟨renO n E,(Z y _).2 ⟨E,K,rfl⟩,by grind [renO],Cj (by decide) g3 (T y)⟩
  |ptr z y i j=>
   have W:z=0:=W;subst W;obtain⟨E,b',I,K,M,g3,g5⟩:=m;obtain⟨_,K⟩:=f1 0 y E K;exact⟨renO n E,b',I,(Z y _).2 ⟨E,K,rfl⟩,by grind,by grind [renO],g5⟩
 have mono: ∀x v,AV.rel o s.H (Xo X o s.H) w x v->AV.rel J H1 (Xo X J H1) w1 (aY (kF n) x) v:=kW (t7 _) fun x v hn m=>by
  cases x with
  |fn=>cases hn
  |p x=>exact a1 x v m
  |junk=>trivial
  |sl z y a7 len=>
   obtain⟨E,K,M,g3⟩:=m;simp only[aY];by_cases hz:z=n
   ·rw[if_pos (by simp[kF,hz])];trivial
   rw[if_neg (by simp[kF,hz])];exact⟨E,by grind,M,by grind⟩
  |ptr z y i j=>
   obtain⟨E,b',I,K,M,g3,g5⟩:=m;simp only[aY];by_cases hz:z=n
   ·rw[if_pos (by simp[kF,hz])];trivial
   rw[if_neg (by simp[kF,hz])];exact⟨E,b',I,by grind,by grind,g3,g5⟩
 have a0: ∀(z:Nat) x v,z≠n->bJ z x->AV.rel o s.H (Xo X o s.H) w x v->AV.rel J H1 (Xo X J H1) w1 x v:=fun z x v hz W m=>by
  have:=mono x v m;cases x with
  |sl y _ _ _=>have W:y=z:=W;grind [aY,kF]
  |ptr y _ _ _=>have W:y=z:=W;grind [aY,kF]
  |fn _ y _=>have W:y=z:=W.1;grind [aY,kF]
  |p x=>exact this
  |junk=>trivial
 have bb:Inv w0 O X H1 J w1:=by
  refine⟨⟨hi.keep.os.trans D.keep.os,hi.keep.tape.trans D.keep.tape,hi.keep.output.trans D.keep.output,aeN D.keep.size hi.keep.size,fun j S ae=>?_⟩,fun x y E G=>?_,fun x y x' y' o1 Y j c1 c2 aa L q1 q2=>?_,fun x y E j I G q=>?_,fun j S=>aeT (D.bar j S) hi.keep.size,fun x y E G=>?_⟩
  ·rw[ah j (aeT S D.keep.size) (fun m=>?_) (fun m=>ae (hB j m).1)]
   ·exact D.keep.block j S ae
   obtain⟨y,E,I,K,M⟩:=(N j).1 m;rcases(D.old n y E j I K M).1 with g|g
   ·omega
   grind
  ·by_cases Q:x=n
   ·subst Q;obtain⟨Y,g3,rfl⟩:=(Z y E).1 G;exact iO (hi.objs 0 y Y (by grind [famH])) (T _) rfl (fun _ _ _=>rfl) fun e he z hz u u3=>a8 z u (ag Y (adQ g3) e he z hz) u3
   rw[ab x Q]at G;have a5:=D.objs x y E G;exact dV a5 (U x y Q) (fun b' I hr=>ah b' (bI a5 hr) (fun m=>by
    obtain⟨y',Y,c2,k1,k2⟩:=(N b').1 m;exact Q (D.inj x y n y' E Y b' I c2 G k1 hr k2).1) fun m=>(D.old x y E b' I G hr).2 (hB b' m).2) fun e he z hz u u3=>a0 x z u Q (D.self x y E G e he z hz) u3
  ·by_cases Q:x=n
   ·subst Q;obtain⟨o3,g3,_⟩:=(Z y o1).1 aa;rw[T]at q1;by_cases ac:x'=x
    ·subst ac;obtain⟨o4,g4,_⟩:=(Z y' Y).1 L;rw[T]at q2;exact⟨rfl,(hi.inj 0 y 0 y' o3 o4 j c1 c2 (by grind [famH]) (by grind [famH]) q1 q2).2⟩
    rw[ab x' ac]at L;rw[U x' y' ac]at q2;exfalso;have bh:=bI (D.objs x' y' Y L) q2;rcases(ad y o3 j c1 g3 q1).1 with g|g
    ·omega
    obtain⟨y3,o5,c5,k1,k2⟩:=(N j).1 g;exact ac (D.inj x' y' x y3 Y o5 j c2 c5 L k1 q2 k2).1
   rw[ab x Q]at aa;rw[U x y Q]at q1;by_cases ac:x'=n
   ·subst ac;obtain⟨o4,g4,_⟩:=(Z y' Y).1 L;rw[T]at q2;exfalso;have bh:=bI (D.objs x y o1 aa) q1;rcases(ad y' o4 j c2 g4 q2).1 with g|g
    ·omega
    obtain⟨y3,o5,c5,k1,k2⟩:=(N j).1 g;exact Q (D.inj x y x' y3 o1 o5 j c1 c5 aa k1 q1 k2).1
   rw[ab x' ac]at L;rw[U x' y' ac]at q2;exact D.inj x y x' y' o1 Y j c1 c2 aa L q1 q2
  ·by_cases Q:x=n
   ·subst Q;obtain⟨o3,g3,_⟩:=(Z y E).1 G;rw[T]at q;rcases(ad y o3 j I g3 q).1 with g|g
    ·refine⟨.inl (aeN D.keep.size g),fun hX=>?_⟩;have:=D.bar j hX;omega
    obtain⟨y3,o5,c5,k1,k2⟩:=(N j).1 g;exact D.old x y3 o5 j c5 k1 k2
   rw[ab x Q]at G;rw[U x y Q]at q;exact D.old x y E j I G q
  by_cases Q:x=n
  ·subst Q;obtain⟨o3,g3,rfl⟩:=(Z y E).1 G;intro e he z hz;simp only[renO,aeL]at he;grind [gk]
  rw[ab x Q]at G;exact D.self x y E G
 grind [RN]
theorem tQ {B:Nat->Prop} (S:a.defers=[]) (J:a.tmps.size=s.tmps.length) (C:Inv w0 O X s.H o w) (D:bz X o s a w) (T: ∀j,B j->O j/\X j) (Z:selfTV 0 h) (q: ∀f∈b,selfO 0 f) (m: ∀f∈c,selfO 0 f) (I:n<=4999) (A:s.H n=b.map (renO n)):
  ∃(p:Nat->Prop) (g:Rho),Inv w (fun j=>famB b g j\/B j) p (famH 0 b) g w/\(∀j,B j->p j)/\
   (∀t v,selfTV 0 t->(renTV n t).rel o s.H (Xo X o s.H) w v->t.rel g (famH 0 b) (Xo p g (famH 0 b)) w v)/\
   (∀j,famB b g j-> ∃(y:Nat) (f:OObj) (e:Nat),(s.H n)[y]?=some f/\o n y=some (j,e))/\
   ∀v z l,Inv w (fun j=>famB b g j\/B j) p (famH 0 c) l z->h.rel l (famH 0 c) (Xo p l (famH 0 c)) z v-> ∀d,dP w0 O X (AS.put ⟨s.tmps.map (bi (kF n)),aK s.H n (c.map (renO n))⟩ d (renTV n h)) (a.put d v) z:=by
 obtain⟨p,g,L,M,N,Q,_,R⟩:=Dy S J C D T Z q m I A;refine⟨p,g,L,M,N,Q,fun v z l U V d=>?_⟩;obtain⟨G,_,k1,k2,Y⟩:=R v z l U V;have E:bz X G ⟨s.tmps.map (bi (kF n)),aK s.H n (c.map (renO n))⟩ a z:=fun t x K=>by
  simp only[aeG]at K;obtain⟨y,W,rfl⟩:=adT.1 K;obtain⟨u,u1,u2⟩:=D t y W;grind [A9]
 exact⟨by grind [kR],by grind [oU,nL],G,by grind [js],xI (s:=⟨s.tmps.map (bi (kF n)),aK s.H n (c.map (renO n))⟩) (by grind) E Y⟩
theorem UF (D:dP w0 O X s a w) {g:Call} (W:r.op= .call g) (z:g.callee= .value (.func l)) {args:List TV} (p:qm P l args b c h) (I:n<=4999) (G:gy s.ev g.args.toList=some (args.map (renTV n))) (A:s.H n=b.map (renO n)) {K:Act->World->Prop} {Q:Exit->Act->World->Prop} (hK: ∀v N,dP w0 O X (AS.put ⟨s.tmps.map (bi (kF n)),aK s.H n (c.map (renO n))⟩ r.dst (renTV n h)) (a.put r.dst v) N->K (a.put r.dst v) N):r.wp P a w K Q:=by
 obtain⟨V,J,Z,C,q⟩:=D;have q:bz X Z s a w:=q;obtain⟨e1,T⟩:=co G;obtain⟨R,x,M,_,U,_,g4⟩:=tQ (B:=fun _=>False) V J C q (fun _ m=>m.elim) p.sR p.sF p.sF' I A;have S:(fun j=>famB b x j\/False)=famB b x:=funext fun j=>propext (or_iff_left id)
 rw[S]at M;have E:=gY (w:=w) W z (e:=a.eval) rfl p.able;unfold Oper.wp;rw[E];simp only[Oper.upon];have u:g.args.size=args.length:=by grind
 refine(p.calls R w (g.args.map a.eval) x M (by simp[u]) ?_).mono ?_
 ·intro j t Y;obtain⟨y,hy,L⟩:=T j (renTV n t) (by grind);refine⟨a.eval y,?_,U t _ (p.sA t (adQ Y)) (bE q y _ L)⟩;grind
 grind
structure adp (ops:Array Oper) (m:Nat) (f:FuncId) (args:List TV) (fa:Nat) (F:List OObj) (s:AS):Prop where
 ts:cwTs ops m s=some (f,args.map (renTV fa))
 fam:s.H fa=F.map (renO fa)
def TZ (c:Array Oper) (m:Nat) (r:TV) (b:Nat) (e:List OObj) (s:AS):AS:=AS.put ⟨s.tmps.map (bi (kF b)),aK s.H b (e.map (renO b))⟩ (cwD c m) (renTV b r)
theorem Qf (m:Nat) {args:List TV} (A:qm P l args b c h) (v:Nat) (p:List (ar P)) (t:List Nat) {id:Nat} (G:v<=4999) (T:m<f.toList.length) (g:bM P (p.map ar.a) t (aV f (f.toList.take m) 0) (some s) (fun u=>adp f m l args v b u/\bM P (p.map ar.a) t (aV f (f.toList.drop (m+1)) (m+1)) (some (TZ f m h v c u)) (j .normal))):bv P (.region id f false) j s:=fun w0 O X a w J=>by
 obtain⟨u,D,⟨q,U⟩,E⟩:=aO P (p.map ar.a) t f _ 0 s _ g;obtain⟨W,M,N⟩:=aO P (p.map ar.a) t f _ (m+1) _ _ E;obtain⟨o,B⟩: ∃o,f[m]?=some o:=⟨f[m],by simp⟩;unfold cwTs at q;rw[B]at q;simp only at q;split at q
 ·rename_i e R C;split at q
  ·rename_i L z;split at q
   ·rename_i Y H;injection q with q
    injection q with q I
    subst q I;refine wp_region ?_;have y:f.size=(f.toList.take m).length+(1+(f.toList.drop (m+1)).length):=by grind
    rw[y,afi,<- afk,afm];have x:(f.toList.take m).length=m:=by grind
    refine jt (ar.ok p) (f.toList.take m) 0 s u a w (fun n o S=>?_) D J fun K Z V=>?_
    ·grind
    rw[x,agn 1,afj];simp only[wpOps,B];grind [Region.wanted,UF,fC,ar.ok,cwD,TZ]
   cases q
  cases q
 cases q
theorem Ad (g:Nat) {args:List TV} (o:qm P l args b c h) (p:Nat) (n:List (ar P)) (u:List Nat) {id:Nat} (t:p<=4999) (x:g<f.toList.length) (e: ∀K:AS->Prop,(∀q,(adp f g l args p b q/\ ∀K:AS->Prop,(∀v,bv P m j v->K v)->bM P (n.map ar.a) u (aV f (f.toList.drop (g+1)) (g+1)) (some (TZ f g h p c q)) K)->K q)->bM P (n.map ar.a) u (aV f (f.toList.take g) 0) (some s) K):bv P (.seq (.region id f false) m) j s:=
 aj (Qf g o p n u t x (e _ fun q ⟨z,A⟩=>⟨z,A _ fun _ e=>e⟩))
end
end
section
section
variable {P:Program} {k:Nat} {s s':AS} {Q:Exit->AS->Prop}
def acg (b:Array Oper) (m:Nat):Bool:=(match b[m]? with|some o=>o.dst.isSome|none=>false)&&((List.range m).all fun i=>((qv b.toList []).getD m 0).testBit i)&&
 (List.range b.size).all fun j=>decide (j<=m)||(((qv b.toList []).getD j 0).testBit m&&match b[j]? with|some o=>qp o.op&&o.guard.isNone|none=>false)
theorem ME {b:List (dD P)} {c:List Nat} {i:Nat} (e:qp r.op=true) (g:r.guard=none):bs P b c f i r s=(kH P s.ev r.op).map (s.put r.dst):=by
 grind [bs,fo]
theorem Ef {M:dD P} {b:List (dD P)} {g:List Nat} {i:Nat} (j:M.i≠i):bs P (M::b) g f i r s=bs P b g f i r s:=by
 have e:(M::b).find? (·.i==i)=b.find? (·.i==i):=by
  grind
 have h: ∀(d:Nat) (ev:Operand->Option TV) (H:OH) (op:Op),dM P (M::b) g i d ev H op=dM P b g i d ev H op:=fun d ev H op=>by
  cases op with
  |call c=>
   grind [dM]
  |_=>rfl
 unfold bs fo;simp only[h]
theorem Ju {M:dD P} {b:List (dD P)} {e:List Nat} {c:Array Oper}: ∀(l:List Nat) (s:AS),(∀i∈l,M.i≠i)->dS P (M::b) e c l s=dS P b e c l s
 |[],_,_=>rfl
 |i::l,s,h=>by
  simp only[dS];have:eK P (M::b) e c i s=eK P b e c i s:=by
   grind [eK,Ef]
  rw[this];cases eK P b e c i s with
  |none=>rfl
  |some g=>exact Ju l g fun j f=>h j (by simp[f])
theorem vZ {m:Nat} {p:Nat->Bool} (g:m<=n) (b: ∀j,j<m->p j=true) (f: ∀j,j<n->m<=j->p j=false):oX n p=List.range m:=by
 unfold oX;have e:List.range n=List.range m++List.range' m (n-m):=by
  have:=afk (s:=0) (m:=m) (n:=n-m);grind [List.range_eq_range']
 rw[e,aiN,aiB.2 (fun j c=>b j (afE.1 c)),ahv.2,afz];grind
end
end
end Go.Proofs.YtalmoejhjceflaaGreat
