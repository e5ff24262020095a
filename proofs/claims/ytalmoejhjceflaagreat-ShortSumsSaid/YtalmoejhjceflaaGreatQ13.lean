/-
  Part 14 of a proof (walks and plain facts).
-/
import Derived.Test.YtalmoejhjceflaaGreatQ12
set_option linter.all false
set_option maxRecDepth 100000
set_option maxHeartbeats 64000000
namespace Go.Proofs.YtalmoejhjceflaaGreat
open Go.RowKit
variable {b:OObj} {s:AS} {c:Nat->Prop} {n:Nat} {w:World} {e:Value} {f:Rho} {g:AV}
section
def IA:PV->PV
 | .raw (.slice none 0 0)=> .sl []
 |x=>x
def Fl:AV->AV
 | .p x=> .p (IA x)
 |x=>x
def zO (o:OObj):OObj:={o with elems:=o.elems.map (List.map Fl)}
theorem X3 {x:PV} (h:bS c w x e):bS c w (IA x) e:=by
 unfold IA;split
 ·cases h;exact .nil none 0
 exact h
theorem X0 {H:OH} (h:g.rel f H c w e):(Fl g).rel f H c w e:=by
 cases g with
 |p g=>exact X3 h
 |sl a r b len=>exact h
 |ptr a r i j=>exact h
 |fn=>exact h
 |junk=>exact h
section
variable {H:OH} {d:Nat}
def zH (H:OH) (d:Nat):OH:=aF H d ((H d).map zO)
theorem wM {a:Nat} (h:(zH H d a)[n]?=some b): ∃c,(H a)[n]?=some c/\((a=d/\b=zO c)\/b=c):=by
 unfold zH at h;grind [aS,aM]
theorem UF {a:Nat} (h:(H a)[n]?=some b): ∃c,(zH H d a)[n]?=some c/\c.es=b.es/\c.elems.length=b.elems.length:=by
 unfold zH;grind [zO,aS,aM]
theorem YT (X:Nat->Prop) (l:Rho):Xo X l (zH H d)=Xo X l H:=by
 funext b;apply propext;constructor
 ·rintro(h|⟨a,r,o,c,f,g⟩)
  ·exact .inl h
  obtain⟨j,e,_⟩:=wM f;exact .inr ⟨a,r,j,c,e,g⟩
 rintro(h|⟨a,r,o,c,f,g⟩)
 ·exact .inl h
 obtain⟨j,e,_⟩:=UF (d:=d) f;exact .inr ⟨a,r,j,c,e,g⟩
theorem Iz {x:AV} (h:x.rel f H c w e):x.rel f (zH H d) c w e:=by
 refine tM (fun x e y h=>?_) x e h;cases x with
 |fn=>cases y
 |p x=>exact h
 |junk=>trivial
 |sl a r z len=>
  obtain⟨o,m,q,u⟩:=h;obtain⟨n,l,s,t⟩:=UF (d:=d) m;exact⟨n,l,by omega,by grind⟩
 |ptr a r i j=>
  obtain⟨o,b,g,m,q,u,A⟩:=h;obtain⟨n,l,s,t⟩:=UF (d:=d) m;exact⟨n,b,g,l,q,by omega,by grind⟩
theorem abM {t:TV} (h:t.rel f H c w e):t.rel f (zH H d) c w e:=by
 have agg: ∀{l:List AV} {e:Value},bM f H c w l e->bM f (zH H d) c w l e:=fun{l e} ⟨vs,m,n,o⟩=>
  ⟨vs,m,n,fun j x q=>by grind [Iz]⟩
 cases t with
 |one x=>exact Iz (x:=x) h
 |agg l=>exact agg h
 |fn g l=>obtain⟨u,m,n⟩:=h;exact⟨u,agg m,n⟩
 |tup r=>
  obtain⟨vs,m,n,o⟩:=h;refine⟨vs,m,n,fun j b l p=>?_⟩;grind [Iz]
theorem UG {a:Nat} (h:objRel f H c w a n b):objRel f (zH H d) c w a n (zO b)/\objRel f (zH H d) c w a n b:=by
 obtain⟨F,t,u⟩:=h;refine⟨⟨fun e M=>?_,t,?_⟩,⟨F,t,?_⟩⟩
 ·grind [zO]
 ·cases m:f a n with
  |none=>grind [zO]
  |some s=>
   obtain⟨g,l⟩:=s;rw[m]at u;obtain⟨cells,B,C,L,D,E⟩:=u;refine⟨cells,B,C,by grind [zO],D,fun i e j x y z=>?_⟩;simp only[zO,ach]at y;obtain⟨A,p,rfl⟩:=acf.1 y;simp only[ach]at z;obtain⟨K,q,rfl⟩:=acf.1 z;obtain⟨v,G,I,J⟩:=E i A j K p q;exact⟨v,G,I,X0 (Iz J)⟩
 cases m:f a n with
 |none=>grind
 |some s=>
  grind [Iz]
end
theorem g7 (d:Nat):bJ s ⟨s.tmps,zH s.H d⟩:=by
 rintro L O X a w ⟨G,v,A,f,I⟩;refine⟨G,v,A,⟨f.keep,fun a r o h=>?_,fun a r D K o l b c E h u m n=>?_,fun a r o b c h m=>?_,f.bar,fun a r o h=>?_⟩,fun t x y=>?_⟩
 ·obtain⟨l,g,j⟩:=wM h;show objRel A (zH s.H d) (Xo X A (zH s.H d)) w a r o;rw[YT];rcases j with⟨_,rfl⟩|rfl
  ·exact(UG (f.objs a r l g)).1
  exact(UG (f.objs a r o g)).2
 ·obtain⟨p,g,_⟩:=wM h;obtain⟨J,j,_⟩:=wM u;exact f.inj a r D K p J b c E g j m n
 ·obtain⟨p,g,_⟩:=wM h;exact f.old a r p b c g m
 ·obtain⟨l,g,j⟩:=wM h;have:=f.self a r l g;rcases j with⟨_,rfl⟩|rfl
  ·intro e B x y;simp only[zO,acn]at B;obtain⟨F,q,rfl⟩:=B;simp only[acn]at y;obtain⟨C,z,rfl⟩:=y;have:=this F q C z;cases C<;>first|exact this|trivial
  omega
 grind [YT,abM]
theorem Lz (k:Nat) (j:s.tmps[k]?=some (.raw (.slice none 0 0))):bJ s ⟨s.tmps.set k (.one (.p (.sl []))),s.H⟩:=by
 rintro q O X a w ⟨m,n,l,b,g⟩;refine⟨m,by grind,l,b,fun t x c=>?_⟩;by_cases f:t=k
 ·subst f;obtain⟨v,o,h⟩:=g t _ j;have e:=(aci.1 j).1;rw[acS e]at c;injection c with c
  subst c;have h:bS (Xo X l s.H) w (.raw (.slice none 0 0)) v:=h;cases h;exact⟨_,o,bS.nil none 0⟩
 grind
end
section
def sw (p q r:Nat):Nat:=if r=p then q else if r=q then p else r
theorem TQ (p q r:Nat):sw p q (sw p q r)=r:=by
 grind [sw]
def UO (a p q b r:Nat):Nat:=if b=a then sw p q r else r
theorem VZ (a p q b r:Nat):UO a p q b (UO a p q b r)=r:=by
 grind [UO,TQ]
def gW (P:Nat->Nat->Nat×Nat):AV->AV
 | .sl b r c len=> .sl (P b r).1 (P b r).2 c len
 | .ptr b r i j=> .ptr (P b r).1 (P b r).2 i j
 | .fn f b e=>match e with
  |[]=> .junk
  |q::l=>if(q::l).all (fun x=>(P b x.1).1==(P b q.1).1)then .fn f (P b q.1).1 ((q::l).map fun x=>((P b x.1).2,x.2))else .junk
 |x=>x
theorem Sr (P:Nat->Nat->Nat×Nat):rE (gW P):=fun f b c=>by
 cases c with
 |nil=>exact .inl rfl
 |cons q l=>
  grind [gW]
def oW (P:Nat->Nat->Nat×Nat):TV->TV
 | .one x=> .one (gW P x)
 | .agg b=> .agg (b.map (gW P))
 | .fn f b=> .fn f (b.map (gW P))
 | .tup c=> .tup (c.map fun t=>(t.1,t.2.map (gW P)))
def vC (P:Nat->Nat->Nat×Nat) (o:OObj):OObj:={o with elems:=o.elems.map (List.map (gW P))}
open Classical in
theorem FA (P:Nat->Nat->Nat×Nat) (C:OH) (N: ∀(b r:Nat) (o:OObj),(s.H b)[r]?=some o->(C (P b r).1)[(P b r).2]?=some (vC P o)) (K: ∀(b r:Nat) (g:OObj),(C b)[r]?=some g-> ∃(n A:Nat) (o:OObj),(s.H n)[A]?=some o/\g=vC P o/\P n A=(b,r)) (ah: ∀(b r L W:Nat) (o g:OObj),(s.H b)[r]?=some o->(s.H L)[W]?=some g->P b r=P L W->b=L/\r=W) (ab: ∀b r,(P b r).1<=4999->b<=4999) (ae: ∀(b r:Nat) (g:OObj),(C b)[r]?=some g->selfO b g):bJ s ⟨s.tmps.map (oW P),C⟩:=by
 rintro w0 O X al w ⟨Z,an,Q,l,af⟩
 let m:Rho:=fun b r=>if h: ∃p:Nat×Nat,(∃o,(s.H p.1)[p.2]?=some o)/\P p.1 p.2=(b,r)then Q h.choose.1 h.choose.2 else none
 have F: ∀(b r:Nat) (o:OObj),(s.H b)[r]?=some o->m (P b r).1 (P b r).2=Q b r:=fun b r o D=>by
  have h: ∃p:Nat×Nat,(∃o,(s.H p.1)[p.2]?=some o)/\P p.1 p.2=((P b r).1,(P b r).2):=⟨(b,r),⟨o,D⟩,rfl⟩;grind
 have S:Xo X m C=Xo X Q s.H:=by
  funext b;apply propext;constructor
  ·rintro(h|⟨x,r,o,c,e,I⟩)
   ·exact .inl h
   obtain⟨n,A,g,B,_,g5⟩:=K x r o e;have:=F n A g B;rw[g5]at this;exact .inr ⟨n,A,g,c,B,this.symm.trans I⟩
  rintro(h|⟨x,r,o,c,e,I⟩)
  ·exact .inl h
  exact .inr ⟨_,_,_,c,N x r o e,(F x r o e).trans I⟩
 have T: ∀(Y:Nat->Prop) x v,AV.rel Q s.H Y w x v->AV.rel m C Y w (gW P x) v:=fun Y=>ic (Sr P) fun x v hn h=>by
  cases x with
  |fn=>cases hn
  |p x=>exact h
  |junk=>trivial
  |sl b r ap len=>
   obtain⟨o,e,I,B⟩:=h;refine⟨_,N b r o e,by grind [vC],?_⟩;rw[F b r o e];rcases B with B|⟨q,c,cap,k1,k2,k3,k4⟩
   ·grind
   exact .inr ⟨q,c,cap,k1,k2,k3,fun hl=>k4 (ab b r hl)⟩
  |ptr b r i j=>
   obtain⟨o,L,c,e,I,B,M⟩:=h;exact⟨_,L,c,N b r o e,by grind,by grind [vC],M⟩
 have J: ∀(Y:Nat->Prop) G v,bM Q s.H Y w G v->bM m C Y w (G.map (gW P)) v:=fun Y G v ⟨vs,e,I,B⟩=>by
  refine⟨vs,e,by grind,fun j x hx=>?_⟩;grind
 have E: ∀(b r:Nat) (g:OObj),(C b)[r]?=some g-> ∃(n A:Nat) (o:OObj),(s.H n)[A]?=some o/\g=vC P o/\P n A=(b,r)/\m b r=Q n A:=fun b r g D=>by
  obtain⟨n,A,o,e,I,B⟩:=K b r g D;have:=F n A o e;rw[B]at this;grind
 refine⟨Z,by grind,m,⟨l.keep,fun b r g D=>?_,fun b r L W o g x c c' D ac U V=>?_,fun b r o x c D U=>?_,l.bar,fun b r g D=>?_⟩,fun t x hx=>?_⟩
 ·obtain⟨n,A,o,e,rfl,_,M⟩:=E b r g D;have ad:=l.objs _ _ o e;rw[S];obtain⟨q1,q2,q3⟩:=ad;refine⟨fun z he=>?_,q2,?_⟩
  ·simp only[vC,acn]at he;grind [vC]
  rw[M];cases hr:Q n A with
  |none=>grind [vC]
  |some bc=>
   obtain⟨b2,c⟩:=bc;rw[hr]at q3;obtain⟨cells,p1,p2,p3,p4,p5⟩:=q3;refine⟨cells,p1,p2,by grind [vC],p4,fun i z j x hi hj=>?_⟩;simp only[vC,ach]at hi;obtain⟨e',aa,rfl⟩:=acf.1 hi;simp only[ach]at hj;obtain⟨x',ag,rfl⟩:=acf.1 hj;obtain⟨v,v1,R,v3⟩:=p5 i e' j x' aa ag;exact⟨v,v1,R,T _ _ _ v3⟩
 ·obtain⟨n,A,o1,e,_,B,M⟩:=E b r o D;obtain⟨b1,r1,o2,k1,_,k3,k4⟩:=E L W g ac;rw[M]at U;rw[k4]at V;obtain⟨e1,e2⟩:=l.inj _ _ _ _ o1 o2 x c c' e k1 U V;grind
 ·obtain⟨n,A,o1,e,_,_,M⟩:=E b r o D;rw[M]at U;exact l.old _ _ o1 x c e U
 ·grind
 simp only[ach]at hx;obtain⟨y,hy,rfl⟩:=acf.1 hx;obtain⟨v,v1,R⟩:=af t y hy;refine⟨v,v1,?_⟩;show TV.rel m C (Xo X m C) w (oW P y) v;rw[S];cases y with
 |one x=>exact T _ x v R
 |agg G=>exact J _ G v R
 |fn f G=>obtain⟨u,Z,h2⟩:=R;exact⟨u,J _ G u Z,h2⟩
 |tup ts=>
  obtain⟨vs,e,I,B⟩:=R;refine⟨vs,e,by grind,fun j c G hj=>?_⟩;grind
theorem Eb {g:AV->AV} {l:List (List AV)} (h: ∀e∈l,∀z∈e,g z=z):l.map (List.map g)=l:=by
 have:l.map (List.map g)=l.map id:=acH fun e b=>by
  have:e.map g=e.map id:=acH fun z c=>h e b z c
  simp_all
 simp_all
section
variable {P:Nat->Nat->Nat×Nat} {b:Nat}
theorem WF (h: ∀r,P b r=(b,r)) (c:bH b g):gW P g=g:=by
 cases g with
 |sl x r e len=>have c:x=b:=c;grind [gW]
 |ptr x r i j=>have c:x=b:=c;grind [gW]
 |fn f x m=>
  obtain⟨c,n⟩:=c;subst c;cases m with
  |nil=>grind
  |cons q l=>simp[gW,h]
 |_=>rfl
theorem Ki (h: ∀r,P b r=(b,r)) {o:OObj} (f:selfO b o):vC P o=o:=by
 have:o.elems.map (List.map (gW P))=o.elems:=Eb fun e c z g=>WF h (f e c z g)
 simp_all[vC]
theorem Ay {o:OObj} (h:eB o):vC P o=o:=by
 have:o.elems.map (List.map (gW P))=o.elems:=Eb fun e c z f=>by
  have:=h e c z f;cases z<;>first|rfl|cases this
 simp_all[vC]
theorem O2 {d:Nat} (h: ∀r,(P b r).1=d) (c:bH b g):bH d (gW P g):=by
 cases g with
 |sl y r e len=>have c:y=b:=c;subst c;exact h r
 |ptr y r i j=>have c:y=b:=c;subst c;exact h r
 |fn f y m=>
  obtain⟨c,n⟩:=c;subst c;cases m with
  |nil=>grind
  |cons q l=>simp[gW,h,bH]
 |_=>trivial
theorem Hf {d:Nat} (h: ∀r,(P b r).1=d) {o:OObj} (l:selfO b o):selfO d (vC P o):=fun e g x m=>by
 simp only[vC,acn]at g;obtain⟨j,c,rfl⟩:=g;obtain⟨n,f,rfl⟩:=acn.1 m;exact O2 h (l j c n f)
end
abbrev swP (a p q b r:Nat):Nat×Nat:=(b,UO a p q b r)
abbrev abH (a p q:Nat):AV->AV:=gW (swP a p q)
abbrev aaM (a p q:Nat):TV->TV:=oW (swP a p q)
abbrev swO (a p q:Nat):OObj->OObj:=vC (swP a p q)
theorem Ly (a p q:Nat) (F:List OObj) (n: ∀r:Nat,F[r]?=((s.H a)[sw p q r]?).map (swO a p q)):bJ s ⟨s.tmps.map (aaM a p q),aF s.H a F⟩:=by
 intro y O X g w j;obtain⟨A,u,E,c,v⟩:=id j;have hid: ∀b,b≠a-> ∀r,swP a p q b r=(b,r):=fun b f r=>by grind [UO]
 refine FA (swP a p q) _ (fun b r o e=>?_) (fun b r o e=>?_) (fun b r z D o C e t B=>?_) (fun b r h=>h) (fun b r o e=>?_) y O X g w j
 ·by_cases f:b=a
  ·grind [UO,aS,TQ]
  rw[hid b f,Ki (hid b f) (c.self b r o e)];grind [aM]
 ·by_cases f:b=a
  ·grind [aS,UO,TQ]
  rw[aM f]at e;exact⟨b,r,o,e,(Ki (hid b f) (c.self b r o e)).symm,hid b f r⟩
 ·grind [VZ]
 by_cases f:b=a
 ·subst f;rw[aS,n]at e;obtain⟨x,l,m⟩:=acf.1 e;subst m;exact Hf (fun _=>rfl) (c.self b _ x l)
 rw[aM f]at e;exact c.self b r o e
def rY (a d m:Nat) (b r:Nat):Nat×Nat:=if b=a then(d,m+r)else(b,r)
theorem Zn {a d b:Nat} (h:b≠a) (r:Nat):rY a d n b r=(b,r):=if_neg h
theorem Kh {a d x:Nat} (c:x≠a) (h:selfO x b):vC (rY a d n) b=b:=Ki (Zn c) h
theorem d7 {s:AS} (a d:Nat) (n:d≠a) (E:a<=4999):bJ s ⟨s.tmps.map (oW (rY a d (s.H d).length)),aF (aF s.H a []) d (s.H d++(s.H a).map (vC (rY a d (s.H d).length)))⟩:=by
 intro B O X q w p;obtain⟨D,y,K,c,z⟩:=id p;generalize G:(s.H d).length=m;have j:aF (aF s.H a []) d (s.H d++(s.H a).map (vC (rY a d m))) d=s.H d++(s.H a).map (vC (rY a d m)):=aS;have u:aF (aF s.H a []) d (s.H d++(s.H a).map (vC (rY a d m))) a=[]:=by grind [aM,aS]
 have l: ∀x,x≠d->x≠a->aF (aF s.H a []) d (s.H d++(s.H a).map (vC (rY a d m))) x=s.H x:=fun x h k=>by grind [aM]
 refine FA (rY a d m) _ (fun b r o e=>?_) (fun b r o e=>?_) (fun b r C J o I e v F=>?_) (fun b r h=>?_) (fun b r o e=>?_) B O X q w p
 ·by_cases g:b=a
  ·grind [rY]
  rw[Kh g (c.self b r o e)];grind [rY]
 ·by_cases g:b=d
  ·subst g;rw[j]at e;by_cases p:r<m
   ·rw[acx (by omega)]at e;exact⟨b,r,o,e,(Kh n (c.self b r o e)).symm,if_neg n⟩
   grind [rY]
  by_cases f:b=a
  ·grind
  rw[l b g f]at e;exact⟨b,r,o,e,(Kh f (c.self b r o e)).symm,if_neg f⟩
 ·grind [rY]
 ·grind [rY]
 by_cases g:b=d
 ·subst g;rw[j]at e;by_cases p:r<m
  ·rw[acx (by omega)]at e;exact c.self b r o e
  rw[acD (by omega),ach]at e;obtain⟨A,t,rfl⟩:=acf.1 e;exact Hf (fun r=>by simp[rY]) (c.self a _ A t)
 by_cases f:b=a
 ·grind
 rw[l b g f]at e;exact c.self b r o e
abbrev Oj (a e d:Nat):TV->TV:=oW (rY e d 1)∘oW (rY a d 0)
theorem nf (a e d:Nat) {oa oe:OObj} (p:s.H a=[oa]) (t:s.H e=[oe]) (r:s.H d=[]) (j:eB oa) (l:eB oe) (q:a≠e) (c:a<=4999) (g:e<=4999):
  bJ s ⟨s.tmps.map (Oj a e d),aF (aF (aF s.H a []) e []) d [oa,oe]⟩:=by
 have f:d≠a:=by grind
 have h:d≠e:=by grind
 have b:=d7 (s:=s) a d f c;rw[r,p]at b;simp only[aei,adP,acA,acT,Ay j]at b;have m:=d7 (s:=⟨s.tmps.map (oW (rY a d 0)),aF (aF s.H a []) d [oa]⟩) e d h g;have n:aF (aF s.H a []) d [oa] d=[oa]:=aS;have o:aF (aF s.H a []) d [oa] e=[oe]:=by grind [aM]
 have e:aF (aF (aF (aF s.H a []) d [oa]) e []) d [oa,oe]=aF (aF (aF s.H a []) e []) d [oa,oe]:=by
  funext x;by_cases u:x=d
  ·grind [aS]
  grind [aM,aS]
 simp only[n,o,acC,aei,acA,acT,Ay l,ad9,adP,e]at m;rw[<- adH];exact b.trans m
theorem Qi (a d:Nat) (g:s.H a=[b]) (f:eB b) (e:d≠a) (c:a<=4999):bJ s ⟨s.tmps.map (oW (rY a d (s.H d).length)),aF (aF s.H a []) d (s.H d++[b])⟩:=by
 grind [d7,Ay]
end
section
section
variable {P:Program}
theorem kN {c:List (cG P)} (q:iJ P c) {z:List Nat} {b:Array Oper} {u:World} {O X:Nat->Prop} {Q:Exit->Act->World->Prop} {e:List Nat}: ∀(l:List Oper) (k:Nat) (s f:AS) (a:Act) (w:World),(∀(j:Nat) o,l[j]?=some o->b[k+j]?=some o)->
  gB P c z b (l.zipIdx k) s=some f->dq u O X s a w->(∀p n,dq u O X f p n->wpOps P b Q e p n)->wpOps P b Q (List.range' k l.length++e) a w
 |[],k,s,f,a,w,_,h,r,g=>by
  simp only[aek,gB]at h;injection h with h
  subst h;exact g a w r
 |o::l,k,s,f,a,w,t,h,r,g=>by
  simp only[adQ,gB]at h;split at h
  ·rename_i A m;simp only[acC,acW,ad9,wpOps];have x:b[k]?=some o:=by have:=t 0 o rfl;omega
   rw[x];simp only;have:=jT (Q:=Q) q r m (K:=wpOps P b Q (List.range' (k+1) l.length++e)) (fun v n y=>kN q l (k+1) A f _ _ (fun j o B=>by have:=t (j+1) o (by grind);grind) h y g);grind
  cases h
theorem wS (m:Nat) (c:List (cG P)) (q:iJ P c) (t:List Nat) {id:Nat} {b:Array Oper} {n p f:AS} {Q:Exit->AS->Prop} (u:gB P c t b ((b.toList.take m).zipIdx 0) s=some n) (A:bJ n p) (v:gB P c t b ((b.toList.drop m).zipIdx (b.toList.take m).length) p=some f) (x:Q .normal f):bA P (.region id b false) Q s:=fun C O X a w r=>by
 refine wp_region ?_;have l:b.size=(b.toList.take m).length+(b.toList.drop m).length:=by simp;omega
 rw[l,acK,<- ac7,acQ];refine kN q (b.toList.take m) 0 s n a w (fun j o y=>?_) u r fun g h B=>?_
 ·grind
 refine gn q (Q:=fun e g h=> ∃f,Q e f/\dq C O X f g h) (b.toList.drop m) _ p f g h (fun j o y=>?_) v (A _ _ _ _ _ B) (fun g h z=>⟨f,x,z⟩);grind
theorem ia (m:Nat) (b:List (aq P)) (e:List Nat) {id:Nat} {c:Array Oper} {y:Code} {Q:Exit->AS->Prop} (t:s.tmps.length<=1000000) (u:m<=c.toList.length) (h: ∀K:AS->Prop,(∀j,(∃f,bJ j f/\f.tmps.length<=1000000/\ ∀K:AS->Prop,(∀g,bA P y Q g->K g)->aY P (b.map aq.a) e (aK c (c.toList.drop m) m) (some f) K)->K j)->aY P (b.map aq.a) e (aK c (c.toList.take m) 0) (some s) K):bA P (.seq (.region id c false) y) Q s:=by
 obtain⟨j,l,f,q,p,n⟩:=aP P (b.map aq.a) e c _ 0 s _ (h _ fun _ h=>h);obtain⟨g,r,o⟩:=aP P (b.map aq.a) e c _ m f _ (n _ fun _ h=>h);refine ai (wS m _ (aq.ok b) e l q ?_ o);grind
end
end
end Go.Proofs.YtalmoejhjceflaaGreat
