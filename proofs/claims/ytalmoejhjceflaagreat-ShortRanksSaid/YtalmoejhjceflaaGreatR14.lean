/-
  Part 15 of a proof (walks and plain facts).
-/
import Derived.Test.YtalmoejhjceflaaGreatR13
set_option linter.all false
set_option maxRecDepth 100000
set_option maxHeartbeats 64000000
namespace Go.Proofs.YtalmoejhjceflaaGreat
open Go.RowKit Go.Proofs.Tryz
variable {b c:Code} {e:Array Oper} {f g:Nat->Prop} {w:World} {s:AS} {h:Operand} {j:OObj} {n:Nat} {l:Value} {m:TV}
section
def sw (p q r:Nat):Nat:=if r=p then q else if r=q then p else r
theorem Qt (p q r:Nat):sw p q (sw p q r)=r:=by
 grind [sw]
def Ov (a p q b r:Nat):Nat:=if b=a then sw p q r else r
theorem SW (a p q b r:Nat):Ov a p q b (Ov a p q b r)=r:=by
 grind [Ov,Qt]
def fp (P:Nat->Nat->Nat×Nat):AV->AV
 | .sl b r c len=> .sl (P b r).1 (P b r).2 c len
 | .ptr b r i j=> .ptr (P b r).1 (P b r).2 i j
 | .fn f b e=>match e with
  |[]=> .junk
  |q::l=>if(q::l).all (fun x=>(P b x.1).1==(P b q.1).1)then .fn f (P b q.1).1 ((q::l).map fun x=>((P b x.1).2,x.2))else .junk
 |x=>x
theorem OU (P:Nat->Nat->Nat×Nat):oR (fp P):=fun f b c=>by
 cases c with
 |nil=>exact .inl rfl
 |cons q l=>
  grind [fp]
def lS (P:Nat->Nat->Nat×Nat):TV->TV
 | .one x=> .one (fp P x)
 | .agg b=> .agg (b.map (fp P))
 | .fn f b=> .fn f (b.map (fp P))
 | .tup c=> .tup (c.map fun t=>(t.1,t.2.map (fp P)))
def rY (P:Nat->Nat->Nat×Nat) (o:OObj):OObj:={o with elems:=o.elems.map (List.map (fp P))}
open Classical in
theorem CH (P:Nat->Nat->Nat×Nat) (C:OH) (N: ∀(b r:Nat) (o:OObj),(s.H b)[r]?=some o->(C (P b r).1)[(P b r).2]?=some (rY P o)) (K: ∀(b r:Nat) (g:OObj),(C b)[r]?=some g-> ∃(n A:Nat) (o:OObj),(s.H n)[A]?=some o/\g=rY P o/\P n A=(b,r)) (ah: ∀(b r L W:Nat) (o g:OObj),(s.H b)[r]?=some o->(s.H L)[W]?=some g->P b r=P L W->b=L/\r=W) (ab: ∀b r,(P b r).1<=4999->b<=4999) (ae: ∀(b r:Nat) (g:OObj),(C b)[r]?=some g->selfO b g):bG s ⟨s.tmps.map (lS P),C⟩:=by
 rintro w0 O X al w ⟨Z,ap,Q,l,af⟩
 let m:Rho:=fun b r=>if h: ∃p:Nat×Nat,(∃o,(s.H p.1)[p.2]?=some o)/\P p.1 p.2=(b,r)then Q h.choose.1 h.choose.2 else none
 have F: ∀(b r:Nat) (o:OObj),(s.H b)[r]?=some o->m (P b r).1 (P b r).2=Q b r:=fun b r o D=>by
  have h: ∃p:Nat×Nat,(∃o,(s.H p.1)[p.2]?=some o)/\P p.1 p.2=((P b r).1,(P b r).2):=⟨(b,r),⟨o,D⟩,rfl⟩;grind
 have S:Xo X m C=Xo X Q s.H:=by
  funext b;apply propext;constructor
  ·rintro(h|⟨x,r,o,c,e,I⟩)
   ·exact .inl h
   obtain⟨n,A,g,B,_,g5⟩:=K x r o e;have:=F n A g B;rw[g5]at this;exact .inr ⟨n,A,g,c,B,this.symm.trans I⟩
  rintro(h|⟨x,r,o,c,e,I⟩)
  ·exact .inl h
  exact .inr ⟨_,_,_,c,N x r o e,(F x r o e).trans I⟩
 have T: ∀(Y:Nat->Prop) x v,AV.rel Q s.H Y w x v->AV.rel m C Y w (fp P x) v:=fun Y=>gp (OU P) fun x v hn h=>by
  cases x with
  |fn=>cases hn
  |p x=>exact h
  |junk=>trivial
  |sl b r av len=>
   obtain⟨o,e,I,B⟩:=h;refine⟨_,N b r o e,by grind [rY],?_⟩;rw[F b r o e];rcases B with B|⟨q,c,cap,k1,k2,k3,k4⟩
   ·grind
   exact .inr ⟨q,c,cap,k1,k2,k3,fun hl=>k4 (ab b r hl)⟩
  |ptr b r i j=>
   obtain⟨o,L,c,e,I,B,M⟩:=h;exact⟨_,L,c,N b r o e,by grind,by grind [rY],M⟩
 have J: ∀(Y:Nat->Prop) G v,bH Q s.H Y w G v->bH m C Y w (G.map (fp P)) v:=fun Y G v ⟨vs,e,I,B⟩=>by
  refine⟨vs,e,by grind,fun j x hx=>?_⟩;grind
 have E: ∀(b r:Nat) (g:OObj),(C b)[r]?=some g-> ∃(n A:Nat) (o:OObj),(s.H n)[A]?=some o/\g=rY P o/\P n A=(b,r)/\m b r=Q n A:=fun b r g D=>by
  obtain⟨n,A,o,e,I,B⟩:=K b r g D;have:=F n A o e;rw[B]at this;grind
 refine⟨Z,by grind,m,⟨l.keep,fun b r g D=>?_,fun b r L W o g x c c' D ac U V=>?_,fun b r o x c D U=>?_,l.bar,fun b r g D=>?_⟩,fun t x hx=>?_⟩
 ·obtain⟨n,A,o,e,rfl,_,M⟩:=E b r g D;have ad:=l.objs _ _ o e;rw[S];obtain⟨q1,q2,q3⟩:=ad;refine⟨fun z he=>?_,q2,?_⟩
  ·simp only[rY,aau]at he;grind [rY]
  rw[M];cases hr:Q n A with
  |none=>grind [rY]
  |some bc=>
   obtain⟨b2,c⟩:=bc;rw[hr]at q3;obtain⟨cells,p1,p2,p3,p4,p5⟩:=q3;refine⟨cells,p1,p2,by grind [rY],p4,fun i z j x hi hj=>?_⟩;simp only[rY,aam]at hi;obtain⟨e',aa,rfl⟩:=aak.1 hi;simp only[aam]at hj;obtain⟨x',ag,rfl⟩:=aak.1 hj;obtain⟨v,v1,R,v3⟩:=p5 i e' j x' aa ag;exact⟨v,v1,R,T _ _ _ v3⟩
 ·obtain⟨n,A,o1,e,_,B,M⟩:=E b r o D;obtain⟨b1,r1,o2,k1,_,k3,k4⟩:=E L W g ac;rw[M]at U;rw[k4]at V;obtain⟨e1,e2⟩:=l.inj _ _ _ _ o1 o2 x c c' e k1 U V;grind
 ·obtain⟨n,A,o1,e,_,_,M⟩:=E b r o D;rw[M]at U;exact l.old _ _ o1 x c e U
 ·grind
 simp only[aam]at hx;obtain⟨y,hy,rfl⟩:=aak.1 hx;obtain⟨v,v1,R⟩:=af t y hy;refine⟨v,v1,?_⟩;show TV.rel m C (Xo X m C) w (lS P y) v;rw[S];cases y with
 |one x=>exact T _ x v R
 |agg G=>exact J _ G v R
 |fn f G=>obtain⟨u,Z,h2⟩:=R;exact⟨u,J _ G u Z,h2⟩
 |tup ts=>
  obtain⟨vs,e,I,B⟩:=R;refine⟨vs,e,by grind,fun j c G hj=>?_⟩;grind
theorem Bl {g:AV->AV} {l:List (List AV)} (h: ∀e∈l,∀z∈e,g z=z):l.map (List.map g)=l:=by
 have:l.map (List.map g)=l.map id:=aaN fun e b=>by
  have:e.map g=e.map id:=aaN fun z c=>h e b z c
  simp_all
 simp_all
section
variable {P:Nat->Nat->Nat×Nat} {b:Nat}
theorem Tw (h: ∀r,P b r=(b,r)) {y:AV} (c:bs b y):fp P y=y:=by
 cases y with
 |sl x r e len=>have c:x=b:=c;grind [fp]
 |ptr x r i j=>have c:x=b:=c;grind [fp]
 |fn f x g=>
  obtain⟨c,m⟩:=c;subst c;cases g with
  |nil=>grind
  |cons q l=>simp[fp,h]
 |_=>rfl
theorem GX (h: ∀r,P b r=(b,r)) (f:selfO b j):rY P j=j:=by
 have:j.elems.map (List.map (fp P))=j.elems:=Bl fun e c z g=>Tw h (f e c z g)
 simp_all[rY]
theorem xh (h:dT j):rY P j=j:=by
 have:j.elems.map (List.map (fp P))=j.elems:=Bl fun e c z f=>by
  have:=h e c z f;cases z<;>first|rfl|cases this
 simp_all[rY]
theorem LI {d:Nat} (h: ∀r,(P b r).1=d) {x:AV} (c:bs b x):bs d (fp P x):=by
 cases x with
 |sl y r e len=>have c:y=b:=c;subst c;exact h r
 |ptr y r i j=>have c:y=b:=c;subst c;exact h r
 |fn f y g=>
  obtain⟨c,m⟩:=c;subst c;cases g with
  |nil=>grind
  |cons q l=>simp[fp,h,bs]
 |_=>trivial
theorem D8 {d:Nat} (h: ∀r,(P b r).1=d) (m:selfO b j):selfO d (rY P j):=fun e g x n=>by
 simp only[rY,aau]at g;obtain⟨l,c,rfl⟩:=g;obtain⟨p,f,rfl⟩:=aau.1 n;exact LI h (m l c p f)
end
abbrev Vq (a p q b r:Nat):Nat×Nat:=(b,Ov a p q b r)
abbrev Xx (a p q:Nat):AV->AV:=fp (Vq a p q)
abbrev Ub (a p q:Nat):TV->TV:=lS (Vq a p q)
abbrev Za (a p q:Nat):OObj->OObj:=rY (Vq a p q)
theorem AC (a p q:Nat) (F:List OObj) (n: ∀r:Nat,F[r]?=((s.H a)[sw p q r]?).map (Za a p q)):bG s ⟨s.tmps.map (Ub a p q),ax s.H a F⟩:=by
 intro y O X g w j;obtain⟨A,u,E,c,v⟩:=id j;have hid: ∀b,b≠a-> ∀r,Vq a p q b r=(b,r):=fun b f r=>by grind [Ov]
 refine CH (Vq a p q) _ (fun b r o e=>?_) (fun b r o e=>?_) (fun b r z D o C e t B=>?_) (fun b r h=>h) (fun b r o e=>?_) y O X g w j
 ·by_cases f:b=a
  ·grind [Ov,aM,Qt]
  rw[hid b f,GX (hid b f) (c.self b r o e)];grind [aG]
 ·by_cases f:b=a
  ·grind [aM,Ov,Qt]
  rw[aG f]at e;exact⟨b,r,o,e,(GX (hid b f) (c.self b r o e)).symm,hid b f r⟩
 ·grind [SW]
 by_cases f:b=a
 ·subst f;rw[aM,n]at e;obtain⟨x,l,m⟩:=aak.1 e;subst m;exact D8 (fun _=>rfl) (c.self b _ x l)
 rw[aG f]at e;exact c.self b r o e
def pn (a d m:Nat) (b r:Nat):Nat×Nat:=if b=a then(d,m+r)else(b,r)
theorem V3 {a d b:Nat} (h:b≠a) (r:Nat):pn a d n b r=(b,r):=if_neg h
theorem GW {a d x:Nat} (b:x≠a) (h:selfO x j):rY (pn a d n) j=j:=GX (V3 b) h
theorem dL {s:AS} (a d:Nat) (n:d≠a) (E:a<=4999):bG s ⟨s.tmps.map (lS (pn a d (s.H d).length)),ax (ax s.H a []) d (s.H d++(s.H a).map (rY (pn a d (s.H d).length)))⟩:=by
 intro B O X q w p;obtain⟨D,y,K,c,z⟩:=id p;generalize G:(s.H d).length=m;have j:ax (ax s.H a []) d (s.H d++(s.H a).map (rY (pn a d m))) d=s.H d++(s.H a).map (rY (pn a d m)):=aM;have u:ax (ax s.H a []) d (s.H d++(s.H a).map (rY (pn a d m))) a=[]:=by grind [aG,aM]
 have l: ∀x,x≠d->x≠a->ax (ax s.H a []) d (s.H d++(s.H a).map (rY (pn a d m))) x=s.H x:=fun x h k=>by grind [aG]
 refine CH (pn a d m) _ (fun b r o e=>?_) (fun b r o e=>?_) (fun b r C J o I e v F=>?_) (fun b r h=>?_) (fun b r o e=>?_) B O X q w p
 ·by_cases g:b=a
  ·grind [pn]
  rw[GW g (c.self b r o e)];grind [pn]
 ·by_cases g:b=d
  ·subst g;rw[j]at e;by_cases p:r<m
   ·rw[aaB (by omega)]at e;exact⟨b,r,o,e,(GW n (c.self b r o e)).symm,if_neg n⟩
   grind [pn]
  by_cases f:b=a
  ·grind
  rw[l b g f]at e;exact⟨b,r,o,e,(GW f (c.self b r o e)).symm,if_neg f⟩
 ·grind [pn]
 ·grind [pn]
 by_cases g:b=d
 ·subst g;rw[j]at e;by_cases p:r<m
  ·rw[aaB (by omega)]at e;exact c.self b r o e
  rw[aaE (by omega),aam]at e;obtain⟨A,t,rfl⟩:=aak.1 e;exact D8 (fun r=>by simp[pn]) (c.self a _ A t)
 by_cases f:b=a
 ·grind
 rw[l b g f]at e;exact c.self b r o e
abbrev K7 (a e d:Nat):TV->TV:=lS (pn e d 1)∘lS (pn a d 0)
theorem lk (a e d:Nat) {oa oe:OObj} (p:s.H a=[oa]) (t:s.H e=[oe]) (r:s.H d=[]) (j:dT oa) (l:dT oe) (q:a≠e) (c:a<=4999) (g:e<=4999):
  bG s ⟨s.tmps.map (K7 a e d),ax (ax (ax s.H a []) e []) d [oa,oe]⟩:=by
 have f:d≠a:=by grind
 have h:d≠e:=by grind
 have b:=dL (s:=s) a d f c;rw[r,p]at b;simp only[abO,ab1,aaI,aaY,xh j]at b;have m:=dL (s:=⟨s.tmps.map (lS (pn a d 0)),ax (ax s.H a []) d [oa]⟩) e d h g;have n:ax (ax s.H a []) d [oa] d=[oa]:=aM;have o:ax (ax s.H a []) d [oa] e=[oe]:=by grind [aG]
 have e:ax (ax (ax (ax s.H a []) d [oa]) e []) d [oa,oe]=ax (ax (ax s.H a []) e []) d [oa,oe]:=by
  funext x;by_cases u:x=d
  ·grind [aM]
  grind [aG,aM]
 simp only[n,o,aaP,abO,aaI,aaY,xh l,aca,ab1,e]at m;rw[<- abV];exact b.trans m
theorem MW (a d:Nat) (f:s.H a=[j]) (e:dT j) (c:d≠a) (b:a<=4999):bG s ⟨s.tmps.map (lS (pn a d (s.H d).length)),ax (ax s.H a []) d (s.H d++[j])⟩:=by
 grind [dL,xh]
end
section
section
variable {P:Program}
theorem rp {c:List (df P)} (q:gV P c) {z:List Nat} {b:Array Oper} {u:World} {O X:Nat->Prop} {Q:Exit->Act->World->Prop} {e:List Nat}: ∀(l:List Oper) (k:Nat) (s f:AS) (a:Act) (w:World),(∀(j:Nat) o,l[j]?=some o->b[k+j]?=some o)->
  ib P c z b (l.zipIdx k) s=some f->dx u O X s a w->(∀p n,dx u O X f p n->wpOps P b Q e p n)->wpOps P b Q (List.range' k l.length++e) a w
 |[],k,s,f,a,w,_,h,r,g=>by
  simp only[acV,ib]at h;injection h with h
  subst h;exact g a w r
 |o::l,k,s,f,a,w,t,h,r,g=>by
  simp only[acb,ib]at h;split at h
  ·rename_i A m;simp only[aaP,abb,aca,wpOps];have x:b[k]?=some o:=by have:=t 0 o rfl;omega
   rw[x];simp only;have:=iv (Q:=Q) q r m (K:=wpOps P b Q (List.range' (k+1) l.length++e)) (fun v n y=>rp q l (k+1) A f _ _ (fun j o B=>by have:=t (j+1) o (by grind);grind) h y g);grind
  cases h
theorem tw (m:Nat) (c:List (df P)) (q:gV P c) (t:List Nat) {id:Nat} {n p f:AS} {Q:Exit->AS->Prop} (u:ib P c t e ((e.toList.take m).zipIdx 0) s=some n) (A:bG n p) (v:ib P c t e ((e.toList.drop m).zipIdx (e.toList.take m).length) p=some f) (x:Q .normal f):bf P (.region id e false) Q s:=fun C O X a w r=>by
 refine wp_region ?_;have l:e.size=(e.toList.take m).length+(e.toList.drop m).length:=by simp;omega
 rw[l,aaX,<- abr,aa6];refine rp q (e.toList.take m) 0 s n a w (fun j o y=>?_) u r fun g h B=>?_
 ·grind
 refine km q (Q:=fun b g h=> ∃f,Q b f/\dx C O X f g h) (e.toList.drop m) _ p f g h (fun j o y=>?_) v (A _ _ _ _ _ B) (fun g h z=>⟨f,x,z⟩);grind
theorem iq (m:Nat) (c:List (ao P)) (f:List Nat) {id:Nat} {Q:Exit->AS->Prop} (u:s.tmps.length<=1000000) (v:m<=e.toList.length) (h: ∀K:AS->Prop,(∀l,(∃g,bG l g/\g.tmps.length<=1000000/\ ∀K:AS->Prop,(∀j,bf P b Q j->K j)->aS P (c.map ao.a) f (aJ e (e.toList.drop m) m) (some g) K)->K l)->aS P (c.map ao.a) f (aJ e (e.toList.take m) 0) (some s) K):bf P (.seq (.region id e false) b) Q s:=by
 obtain⟨l,n,g,r,q,o⟩:=aR P (c.map ao.a) f e _ 0 s _ (h _ fun _ h=>h);obtain⟨j,t,p⟩:=aR P (c.map ao.a) f e _ m g _ (o _ fun _ h=>h);refine ai (tw m _ (ao.ok c) f n r ?_ p);grind
end
end
def lf (b:List (List Int)) (x:List Int):Bool:=isReducedM b&&FitB b.length x
theorem MB (A B:Option Addr) (c d:Nat) (rows:List (List Int)) (x:List Int) (w:World) (hR:oP .i64 w A rows) (hx:RdI .i64 w B x) (lr:rows.length<=9223372036854775807) (hc:rows.length<=c) (lx:x.length<=9223372036854775807):
  Calls prog 62 #[.slice A rows.length c,.slice B x.length d] w fun e w'=>e= .returned (.bool (lf rows x))/\Ext w w':=by
 have HR:=aal hR;have HX:=aal hx;clear hR hx;cases hI:isReducedM rows with
 |false=>
  have HV:Hid (lf rows x=false):=aal (by simp[lf,hI])
  go_enter func62,ntmps62
  go_wp2_with (go_at_call 36;refine(gf A c rows _ HR.out lr hc).mono ?_;rintro e w1 ⟨rfl,he⟩)
  go_ret
  exact⟨fG HV.out.symm,he⟩
 |true=>
  have HV:Hid (lf rows x=FitB rows.length x):=aal (by simp[lf,hI])
  go_enter func62,ntmps62
  go_wp2_with (first|(go_at_call 36;refine(gf A c rows _ HR.out lr hc).mono ?_;rintro e w1 ⟨rfl,he⟩;have HE:=aal he;clear he)|(go_at_call 116;refine(wv rows.length B d x _ (HX.out.ext HE.out) lx).mono ?_;rintro e w2 ⟨rfl,rfl⟩))
  go_ret
  exact⟨fG HV.out.symm,HE.out⟩
section
theorem bM.later {w z:World} (A: ∀b,b<w.heap.size->g b->f b) (C:w.heap.size<=z.heap.size) (B: ∀p l,p.block<w.heap.size-> ¬f p.block->w.cell? p=some l->z.cell? p=some l) {x:PV} (h:bM f w x l):bM g z x l:=by
 induction h with
 |raw l h=>exact .raw l h
 |nil a c=>exact .nil a c
 |sl b q E cap I m r n u s G o H y=>exact .sl b q E cap I m (fun h=>r (A _ n h)) (aaA n C) u s G (fun i e j x t F=>B ⟨b,_,none⟩ _ n r (o i e j x t F)) y
 |ptr b q D m r n o H y=>exact .ptr b q D m (fun h=>r (A _ n h)) (aaA n C) (fun j x t=>B ⟨b,_,none⟩ _ n r (o j x t)) y
theorem iz {b:World} {p:Addr} (h:b.heap[p.block]?=w.heap[p.block]?):b.cell? p=w.cell? p:=by grind [World.cell?]
def kq (b:Nat) (f:TypeId) (e:List PV) (Y:Nat->Prop) (w:World):Prop:=
 ∃(cells:Array Value) (c:Nat),w.heap[b]?=some (.cells cells f (0,0))/\cells.size=c*e.length/\1<=c/\c<=9223372036854775807/\0<e.length/\
  ∀(j:Nat) x,e[j]?=some x-> ∃v:Value,cells[j]?=some v/\v.oneCell'=true/\bM Y w x v
theorem kq.later {m:TypeId} {l:List PV} {w e:World} (y: ∀j,j<w.heap.size->g j->f j) (z:w.heap.size<=e.heap.size) (F:e.heap[n]?=w.heap[n]?) (G: ∀j,j<w.heap.size-> ¬f j->e.heap[j]?=w.heap[j]?) (h:kq n m l f w):kq n m l g e:=by
 obtain⟨cells,c,E,o,q,r,s,t⟩:=h;refine⟨cells,c,by grind,o,q,r,s,fun j x A=>?_⟩;obtain⟨v,B,C,D⟩:=t j x A;exact⟨v,B,C,D.later y z fun p u I H J=>by grind [iz]⟩
theorem kq.weaken {e:TypeId} {c:List PV} (l: ∀j,j<w.heap.size->g j->f j) (h:kq n e c f w):kq n e c g w:=
 h.later l (aar _) rfl fun _ _ _=>rfl
section
variable {P:Program} {b:Nat} {ty:TypeId} {cs cs':List PV} {w0 w:World} {O X:Nat->Prop} {s s':AS} {a:Act}
def gT (b:Nat) (ty:TypeId) (w0:World) (O X:Nat->Prop) (s:AS) (cs:List PV) (a:Act) (w:World):Prop:=
 a.defers=[]/\a.tmps.size=s.tmps.length/\ ∃c,Inv w0 O X s.H c w/\aV X c s a w/\O b/\X b/\kq b ty cs (Xo X c s.H) w
theorem gT.rel (h:gT b ty w0 O X s cs a w):dx w0 O X s a w:=by
 obtain⟨c,e,j,f,g,_⟩:=h;exact⟨c,e,j,f,g⟩
theorem gT.rebase (h:gT b ty w0 O X s cs a w): ∃Own:Nat->Prop,dx w Own X s a w/\ ∀E v F,dx w Own X E v F->gT b ty w0 O X E cs v F:=by
 obtain⟨J,A,G,e,B,K,y,q⟩:=h;refine⟨fun j=> ∃(x r:Nat) (o:OObj) (c:Nat),(s.H x)[r]?=some o/\G x r=some (j,c),⟨J,A,G,⟨Keep.refl w,e.objs,e.inj,fun x r o j c u l=>⟨.inr ⟨x,r,o,c,u,l⟩,(e.old x r o j c u l).2⟩,e.bar,e.self⟩,B⟩,?_⟩;rintro E v F ⟨L,C,I,f,D⟩;have t: ∀j,(∃(x r:Nat) (o:OObj) (c:Nat),(s.H x)[r]?=some o/\G x r=some (j,c))->(w0.heap.size<=j\/O j)/\ ¬X j:=fun j ⟨x,r,o,c,n,p⟩=>e.old x r o j c n p
 refine⟨L,C,I,⟨⟨f.keep.os.trans e.keep.os,f.keep.tape.trans e.keep.tape,f.keep.output.trans e.keep.output,aap e.keep.size f.keep.size,fun j l z=>?_⟩,f.objs,f.inj,fun x r o j c u l=>?_,f.bar,f.self⟩,D,K,y,?_⟩
 ·rw[f.keep.block j (aaA l e.keep.size) (fun m=>by
   grind)]
  exact e.keep.block j l z
 ·obtain⟨n,p⟩:=f.old x r o j c u l;refine⟨?_,p⟩;rcases n with g|g
  ·exact .inl (aap e.keep.size g)
  grind
 refine q.later (fun j l m=>?_) f.keep.size (f.keep.block b (e.bar b y) (fun m=>(t b m).2 y)) (fun j l z=>f.keep.block j l (fun m=>z (.inr m)));rcases m with m|⟨x,r,o,c,n,p⟩
 ·exact .inl m
 rcases(f.old x r o j c n p).1 with g|g
 ·omega
 exact .inr g
def dV (P:Program) (b:Nat) (ty:TypeId) (c:Code) (Q:Exit->AS->List PV->Prop) (s:AS) (cs:List PV):Prop:=
 ∀(w0:World) (O X:Nat->Prop) (a:Act) (w:World),gT b ty w0 O X s cs a w->c.wp P (fun e f g=> ∃s' cs',Q e s' cs'/\gT b ty w0 O X s' cs' f g) a w
def oX (next:AS->List PV->Prop) (Q:Exit->AS->List PV->Prop):Exit->AS->List PV->Prop
 | .normal,s,k=>next s k
 |e,s,k=>Q e s k
def FT (id:Nat) (Q:Exit->AS->List PV->Prop):Exit->AS->List PV->Prop
 | .exit c,s,k=>if c=id then Q .normal s k else Q (.exit c) s k
 |e,s,k=>Q e s k
variable {Q:Exit->AS->List PV->Prop}
theorem FE (h:bf P c (fun e s'=>Q e s' cs) s):dV P b ty c Q s cs:=fun w0 O X a w r=>by
 obtain⟨Own,j,l⟩:=r.rebase;exact wp_mono (h _ _ _ _ _ j) fun e m n ⟨s',f,g⟩=>⟨s',cs,f,l _ _ _ g⟩
theorem dV.weak (h:bG s s') (k:dV P b ty c Q s' cs):dV P b ty c Q s cs:=fun _ _ _ _ _ r=>by
 obtain⟨Own,e,f⟩:=r.rebase;exact k _ _ _ _ _ (f _ _ _ (h _ _ _ _ _ e))
theorem gT.weak (h:bG s s') (r:gT b ty w0 O X s cs a w):gT b ty w0 O X s' cs a w:=by
 obtain⟨Own,c,e⟩:=r.rebase;exact e _ _ _ (h _ _ _ _ _ c)
theorem dV.mono {f:Exit->AS->List PV->Prop} (h:dV P b ty c Q s cs) (k: ∀e s' cs',Q e s' cs'->f e s' cs'):dV P b ty c f s cs:=fun _ _ _ _ _ r=>
 wp_mono (h _ _ _ _ _ r) fun _ _ _ ⟨s',cs',g,j⟩=>⟨s',cs',k _ _ _ g,j⟩
theorem iP (h:Q .normal s cs):dV P b ty .skip Q s cs:=fun _ _ _ _ _ r=>wp_skip ⟨s,cs,h,r⟩
theorem CW {id:Nat} (h:Q (.exit id) s cs):dV P b ty (.exit id) Q s cs:=fun _ _ _ _ _ r=>wp_exit ⟨s,cs,h,r⟩
theorem ky (h:Q .ret s cs):dV P b ty .ret Q s cs:=fun _ _ _ _ _ r=>wp_ret ⟨s,cs,h,r⟩
theorem b6 {y:Code} (h:dV P b ty c (oX (dV P b ty y Q) Q) s cs):dV P b ty (.seq c y) Q s cs:=fun _ _ _ _ _ r=>
 wp_seq (wp_mono (h _ _ _ _ _ r) fun e a w ⟨s',cs',f,g⟩=>by
  cases e with
  |normal=>exact f _ _ _ _ _ g
  |_=>exact⟨s',cs',f,g⟩)
theorem cA {id:Nat} (h:dV P b ty c (FT id Q) s cs):dV P b ty (.block id c) Q s cs:=fun _ _ _ _ _ r=>
 wp_block (wp_mono (h _ _ _ _ _ r) fun e a w ⟨s',cs',f,g⟩=>by
  cases e with
  |exit j=>
   grind [FT,Exit.inBlock]
  |_=>exact⟨s',cs',f,g⟩)
theorem CV {y:Code} {v:Bool} (l:s.ev h=some (.raw (.bool v))) (o:v=true->dV P b ty c Q s cs) (m:v=false->dV P b ty y Q s cs):dV P b ty (.cond h c y) Q s cs:=fun _ _ _ _ _ r=>by
 obtain⟨p,n,q,g,f,_⟩:=id r;have j:=(aX (bz f h _ l)).1;exact wp_cond_split j (fun e=>o e _ _ _ _ _ r) (fun e=>m e _ _ _ _ _ r)
theorem gW {y:Code} (f:s.ev h=some (.raw (.bool true))) (e:dV P b ty c Q s cs):dV P b ty (.cond h c y) Q s cs:=CV f (fun _=>e) (fun e=>by cases e)
theorem ck {y:Code} (f:s.ev h=some (.raw (.bool false))) (e:dV P b ty y Q s cs):dV P b ty (.cond h c y) Q s cs:=CV f (fun e=>by cases e) (fun _=>e)
theorem pe {z:Code} (f:s.ev h=some (.raw (.bool true))) (e:dV P b ty z Q s cs):dV P b ty (.seq (.cond h .skip c) z) Q s cs:=b6 (gW f (iP e))
theorem pb {z:Code} {id:Nat} (f:s.ev h=some (.raw (.bool false))) (e:Q (.exit id) s cs):dV P b ty (.seq (.cond h c (.exit id)) z) Q s cs:=b6 (ck f (CW e))
theorem Nh {G:Type} (St:G->AS) (Sc:G->List PV) (q:G->Nat) (t:G) (E:bG s (St t)) (u:Sc t=cs) (round: ∀g,dV P b ty c (oX (fun s' cs'=> ∃j,q j<q g/\bG s' (St j)/\Sc j=cs') Q) (St g) (Sc g)):dV P b ty (.loop c) Q s cs:=fun w0 O X a w r=>by
 classical
 subst u
 let p:Act->World->Nat->Prop:=fun a w n=> ∃g,q g=n/\gT b ty w0 O X (St g) (Sc g) a w
 let m:Act->World->Nat:=fun a w=>if h: ∃n,p a w n then Classical.choose (bE h)else 0
 refine wp_loop (fun a w=> ∃n,p a w n) m ⟨_,t,rfl,r.weak E⟩ ?_;intro a w v;have H:m a w=Classical.choose (bE v):=dif_pos v;obtain⟨C,o⟩:=abw (bE v);rw[<- H]at C;obtain⟨g,L,J⟩:=C;refine wp_mono (round g _ _ _ _ _ J) fun e z D ⟨s',cs',A,B⟩=>?_
 cases e with
 |normal=>
  obtain⟨j,F,K,x⟩:=A;subst x;have l:=B.weak K;have f: ∃n,p z D n:=⟨_,j,rfl,l⟩;refine⟨f,?_⟩;have I:m z D=Classical.choose (bE f):=dif_pos f;obtain⟨_,y⟩:=abw (bE f);have:=y (q j) ⟨j,rfl,l⟩;omega
 |_=>exact⟨s',cs',A,B⟩
theorem iO {G:Type} (St:G->AS) (Sc:G->List PV) (j:G->Nat) (f:G) {id:Nat} (l:bG s (St f)) (h:Sc f=cs) (round: ∀g,dV P b ty c (oX (fun s' cs'=> ∃e,j e<j g/\bG s' (St e)/\Sc e=cs') (FT id Q)) (St g) (Sc g)):dV P b ty (.block id (.loop c)) Q s cs:=
 cA (Nh St Sc j f l h round)
/-! Regions without lent calls. -/
theorem vF (f:List (ao P)) (g:List Nat) {id:Nat} (h: ∀K:AS->Prop,(∀s',dV P b ty c Q s' cs->K s')->aS P (f.map ao.a) g (aJ e e.toList 0) (some s) K):dV P b ty (.seq (.region id e false) c) Q s cs:=
 b6 (FE (qh f g (h _ fun _ h=>h)))
theorem Ni (c:List (ao P)) (f:List Nat) {id:Nat} (h: ∀K:AS->Prop,(∀s',Q .normal s' cs->K s')->aS P (c.map ao.a) f (aJ e e.toList 0) (some s) K):dV P b ty (.region id e false) Q s cs:=
 FE (qh c f (h _ fun _ h=>h))
theorem Ko (j:P.follows .mixedOrders=true) (c:List (ao P)) (f:List Nat) {id:Nat} (g:bY [] e=true) (h: ∀K:AS->Prop,(∀s',Q .normal s' cs->K s')->aS P (c.map ao.a) f (aJ e e.toList 0) (some s) K):dV P b ty (.region id e true) Q s cs:=
 FE (og j c f g (by simp) (fun x l=>by simp at l) (h _ fun _ h=>h))
theorem oo {id:Nat} (h: ∀K:AS->Prop,(∀s',dV P b ty c Q s' cs->K s')->aS P [] [] (aJ e e.toList 0) (some s) K):dV P b ty (.seq (.region id e false) c) Q s cs:=vF [] [] h
theorem Kp {id:Nat} (h: ∀K:AS->Prop,(∀s',Q .normal s' cs->K s')->aS P [] [] (aJ e e.toList 0) (some s) K):dV P b ty (.region id e false) Q s cs:=Ni [] [] h
theorem FD (f:P.follows .mixedOrders=true) {id:Nat} (c:bY [] e=true) (h: ∀K:AS->Prop,(∀s',Q .normal s' cs->K s')->aS P [] [] (aJ e e.toList 0) (some s) K):dV P b ty (.region id e true) Q s cs:=Ko f [] [] c h
end
def CallT (P:Program) (b:Nat) (l:TypeId) (f:FuncId) (args:List TV) (m:List PV) (res:CallRes) (g:List PV):Prop:=
 callable P f=true/\ ∀(X:Nat->Prop) (w:World) (vs:Array Value),(∀j,X j->j<w.heap.size)->X b->kq b l m X w->vs.size=args.length->
  (∀(j:Nat) t,args[j]?=some t-> ∃v:Value,vs[j]?=some v/\t.rel (fun _ _=>none) (fun _=>[]) X w v)->
  Calls P f vs w fun e h=> ∃v,e= .returned v/\ ∃c:Rho,Inv w (fun j=>j=b) X (famH 0 res.fam) c h/\res.r.rel c (famH 0 res.fam) (Xo X c (famH 0 res.fam)) h v/\kq b l g (Xo X c (famH 0 res.fam)) h
section
variable {P:Program} {b:Nat} {ty:TypeId} {cs cs':List PV} {w0 w:World} {O X:Nat->Prop} {ρ:Rho} {s:AS} {a:Act}
theorem DL {L:df P} {d:Nat} (h1:a.defers=[]) (al:a.tmps.size=s.tmps.length) (p:Inv w0 O X s.H ρ w) (ap:aV X ρ s a w) (hO:O b) (W:X b) {F:List OObj} (ht:renTV d L.res.r=m) (hF:L.res.fam.map (renO d)=F) (hd:F≠[]->s.H d=[]) {D:World} {ρc:Rho} (U:Inv w (fun j=>j=b) (Xo X ρ s.H) (famH 0 L.res.fam) ρc D) (K:L.res.r.rel ρc (famH 0 L.res.fam) (Xo (Xo X ρ s.H) ρc (famH 0 L.res.fam)) D l) (N:kq b ty cs' (Xo (Xo X ρ s.H) ρc (famH 0 L.res.fam)) D):gT b ty w0 O X (jj s d m F) cs' (a.put (some d) l) D:=by
 have y:But b w D:=⟨U.keep.os,U.keep.tape,U.keep.output,U.keep.size,fun k hk a0=>U.keep.block k hk a0⟩;have ae: ∀(x r:Nat) o M c,(s.H x)[r]?=some o->ρ x r=some (M,c)->D.heap[M]?=w.heap[M]?:=fun x r o M c q J=>y.block M (bJ (p.objs x r o q) J) (by rintro rfl;exact(p.old x r o M c q J).2 W)
 by_cases Y:L.res.fam=[]
 ·rw[Y]at U K N;have aa:F=[]:=by grind
  subst aa;have mono: ∀x u,AV.rel ρ s.H (Xo X ρ s.H) w x u->AV.rel ρ s.H (Xo X ρ s.H) D x u:=fun x u A=>ns (.inl W) y (fun a r o q=>⟨o,q,rfl,aar _,rfl⟩) (fun a r o M c q hb _=> .inr ⟨a,r,o,c,q,hb⟩) A
  have ab:Inv w0 O X s.H ρ D:=⟨p.keep.but y (.inr hO),fun x r o q=>dP (p.objs x r o q) rfl (fun M c J=>ae x r o M c q J) mono,p.inj,p.old,fun j E=>aaA (p.bar j E) y.size,p.self⟩;have Q:aV X ρ s a D:=fun k x A=>by
   obtain⟨u,Z,S⟩:=ap k x A;exact⟨u,Z,TV.rel_map S mono⟩
  have hv:m.rel ρ s.H (Xo X ρ s.H) D l:=by
   rw[<- ht];exact oH K (fun x u A=>uN (fun r R C=>by simp at C) (fun j _ E=> .inl E) A)
  show gT b ty w0 O X (s.put (some d) m) cs' _ _;refine⟨by grind [gJ],by grind [kh,jH],ρ,by grind [fE],pP al Q hv,hO,W,?_⟩;rw[fE];exact N.weaken fun j _ E=> .inl E
 have aa:F≠[]:=by rw[<- hF];simpa using Y
 have a3:=hd aa;have ah:jj s d m F=AS.put ⟨s.tmps,ax s.H d F⟩ (some d) m:=by
  grind [jj]
 rw[ah]
 let f:Nat->Option (Nat×Nat):=fun r=>if r<L.res.fam.length then ρc 0 r else none
 have T: ∀r j n,f r=some (j,n)->(∃R,L.res.fam[r]?=some R)/\ρc 0 r=some (j,n):=fun r j n h=>by
  simp only[f]at h;simp_all
 have af: ∀(r j n:Nat),f r=some (j,n)->w.heap.size<=j:=fun r j n h=>by
  obtain⟨⟨R,C⟩,g⟩:=T r j n h;have:=U.old 0 r R j n (by grind [famH]) g;rcases this.1 with h|h
  ·exact h
  exact absurd (h▸ .inl W) this.2
 have ac: ∀j,Xo X (newρ ρ d f) (ax s.H d F) j->Xo (Xo X ρ s.H) ρc (famH 0 L.res.fam) j:=fun j E=>by
  rcases E with E|⟨x',y',R,n,Z,S⟩
  ·exact .inl (.inl E)
  by_cases B:x'=d
  ·subst B;rw[newρ_eq]at S;obtain⟨⟨o2,V⟩,g3⟩:=T y' j n S;exact .inr ⟨0,y',o2,n,by grind [famH],g3⟩
  rw[aG B]at Z;rw[newρ_ne B]at S;exact .inl (.inr ⟨x',y',R,n,Z,S⟩)
 have mono: ∀x u,AV.rel ρ s.H (Xo X ρ s.H) w x u->AV.rel (newρ ρ d f) (ax s.H d F) (Xo X (newρ ρ d f) (ax s.H d F)) D x u:=fun x u A=>by
  refine ns (.inl W) y (fun x r o q=>?_) (fun x r o M c q hb a4=>?_) A
  ·grind [aG,newρ_ne]
  by_cases B:x=d
  ·grind [newρ_eq]
  rw[aG B]at q;rw[newρ_ne B]at hb;exact .inr ⟨x,r,o,c,q,hb⟩
 have ad: ∀x u,AV.rel ρc (famH 0 L.res.fam) (Xo (Xo X ρ s.H) ρc (famH 0 L.res.fam)) D x u->AV.rel (newρ ρ d f) (ax s.H d F) (Xo X (newρ ρ d f) (ax s.H d F)) D (cb d x) u:=fun x u A=>by
  refine uN (fun r R C=>?_) (fun j _ E=>ac j E) A;grind [aM,newρ_eq]
 have ab:Inv w0 O X (ax s.H d F) (newρ ρ d f) D:=by
  refine⟨p.keep.but y (.inr hO),fun x r o q=>?_,fun x r x' r' o R j c c' q C K G=>?_,fun x r o j c q K=>?_,fun j E=>aaA (p.bar j E) y.size,fun x r o q=>?_⟩
  ·by_cases B:x=d
   ·subst B;rw[aM,<- hF,aam]at q;obtain⟨o2,V,rfl⟩:=aak.1 q;have ag:=U.objs 0 r o2 (by grind [famH]);obtain⟨z1,z2,z3⟩:=ag;refine⟨fun e he=>?_,z2,?_⟩
    ·grind [renO]
    rw[newρ_eq];simp only[f];rw[if_pos (aao.1 V).1];cases a1:ρc 0 r with
    |none=>grind [renO]
    |some bc=>
     obtain⟨j,n⟩:=bc;rw[a1]at z3;obtain⟨cells,p1,p2,p3,p4,p5⟩:=z3;refine⟨cells,p1,p2,by grind [renO],p4,fun i e j z he hz=>?_⟩;simp only[renO,aam]at he;obtain⟨e',av,rfl⟩:=aak.1 he;rw[aam]at hz;obtain⟨z',a2,rfl⟩:=aak.1 hz;obtain⟨u,u1,u2,u3⟩:=p5 i e' j z' av a2;exact⟨u,u1,u2,ad z' u u3⟩
   rw[aG B]at q;exact dP (p.objs x r o q) (newρ_ne B r) (fun M c J=>ae x r o M c q J) mono
  ·by_cases A:x=d
   ·subst A;rw[newρ_eq]at K;by_cases I:x'=x
    ·subst I;rw[newρ_eq]at G;obtain⟨⟨o1,a5⟩,Z⟩:=T r j c K;obtain⟨⟨o2,V⟩,S⟩:=T r' j c' G;exact⟨rfl,(U.inj 0 r 0 r' o1 o2 j c c' (by grind [famH]) (by grind [famH]) Z S).2⟩
    rw[newρ_ne I]at G;rw[aG I]at C;have:=bJ (p.objs x' r' R C) G;grind
   rw[newρ_ne A]at K;rw[aG A]at q;by_cases I:x'=d
   ·subst I;rw[newρ_eq]at G;have:=bJ (p.objs x r o q) K;grind
   rw[newρ_ne I]at G;rw[aG I]at C;exact p.inj x r x' r' o R j c c' q C K G
  ·by_cases A:x=d
   ·subst A;rw[newρ_eq]at K;have:=af _ _ _ K;have hk:=p.keep.size;exact⟨.inl (by omega),fun W=>by have:=p.bar j W;omega⟩
   rw[newρ_ne A]at K;rw[aG A]at q;exact p.old x r o j c q K
  by_cases A:x=d
  ·subst A;rw[aM,<- hF,aam]at q;obtain⟨o2,V,rfl⟩:=aak.1 q;intro e he z hz;grind [renO,dB]
  rw[aG A]at q;exact p.self x r o q
 have Q:aV X (newρ ρ d f) ⟨s.tmps,ax s.H d F⟩ a D:=fun k x A=>by
  obtain⟨u,Z,S⟩:=ap k x A;grind [TV.rel_map]
 have hv:m.rel (newρ ρ d f) (ax s.H d F) (Xo X (newρ ρ d f) (ax s.H d F)) D l:=by
  grind [oH]
 refine⟨by grind [gJ],by grind [kh,jH],newρ ρ d f,by grind [fE],pP (s:=⟨s.tmps,ax s.H d F⟩) al Q hv,hO,W,?_⟩;rw[fE];exact N.weaken fun j _ E=>ac j E
theorem Pd {H:OH} (h:oW (j9 H m)=true):j9 H m=m:=by
 unfold j9 at h⊢;split
 ·rename_i a r c len;simp only at h;split at h<;>cases h
 ·cases h
 rfl
theorem zT {H y:OH} {o:Rho} {E:World} (h:oW m=true) (q:m.rel ρ H f w l):m.rel o y g E l:=by
 have D: ∀x u,ri x=true->AV.rel ρ H f w x u->AV.rel o y g E x u:=fun x u n J=>by
  cases x with
  |p x=>
   cases x with
   |raw z=>
    obtain⟨rfl,C⟩:=aX (ρ:=ρ) (H:=H) J;exact bM.raw _ C
   |sl N=>cases n
   |ptr cs=>cases n
  |sl a r K len=>cases n
  |ptr a r i j=>cases n
  |junk=>cases n
  |fn=>cases n
 have agg: ∀cs l,cs.all ri=true->bH ρ H f w cs l->bH o y g E cs l:=fun cs l I ⟨vs,A,B,F⟩=>by
  simp only[aat]at I;exact⟨vs,A,B,fun j x n=>by grind⟩
 cases m with
 |one x=>exact D x l h q
 |agg cs=>exact agg cs l h q
 |fn e cs=>obtain⟨u,C,G⟩:=q;exact⟨u,agg cs u h C,G⟩
 |tup M=>
  simp only[oW,aat]at h;obtain⟨vs,A,B,F⟩:=q;refine⟨vs,A,B,fun j c cs L=>?_⟩;grind
def PL:PV->Bool
 | .raw _=>true
 |_=>false
def lentOk (args:List TV) (res:CallRes) (cs:List PV):Bool:=args.all oW||!res.plain||cs.all PL
theorem kq.raw {Y g:Nat->Prop} (e:cs.all PL=true) (h:kq b ty cs Y w):kq b ty cs g w:=by
 obtain⟨cells,c,l,m,n,o,p,q⟩:=h;refine⟨cells,c,l,m,n,o,p,fun j x f=>?_⟩;obtain⟨v,r,t,u⟩:=q j x f;rw[aat]at e;have:=e x (aai f);cases x with
 |raw z=>cases u with|raw _ h=>exact⟨_,r,t,.raw _ h⟩
 |sl y=>cases this
 |ptr cs=>cases this
theorem zt {l:df P} {d:Nat} (h1:a.defers=[]) (U:a.tmps.size=s.tmps.length) (g:Inv w0 O X s.H ρ w) (V:aV X ρ s a w) (hO:O b) (J:X b) (D:kq b ty cs (Xo X ρ s.H) w) (ac:lentOk l.args l.res cs'=true) (p:CallT P b ty l.f l.args cs l.res cs') {N:List TV} (Z:N.map (j9 s.H)=l.args) (Q:N.all (g9 l.res.plain s.H)=true) {vs:Array Value} (ad:vs.size=N.length) (hv: ∀(j:Nat) m,N[j]?=some m-> ∃v:Value,vs[j]?=some v/\m.rel ρ s.H (Xo X ρ s.H) w v) {F:List OObj} (ht:renTV d l.res.r=m) (hF:l.res.fam.map (renO d)=F) (T:F≠[]->s.H d=[]):
  Calls P l.f vs w fun e w1=> ∃v,e= .returned v/\gT b ty w0 O X (jj s d m F) cs' (a.put (some d) v) w1:=by
 obtain⟨_,p⟩:=p;have z: ∀j,Xo X ρ s.H j->j<w.heap.size:=fun j A=>by
  rcases A with A|⟨x,y,o',n,g1,g2⟩
  ·exact g.bar j A
  exact bJ (g.objs x y o' g1) g2
 simp only[aat]at Q;by_cases G:l.args.all oW=true\/l.res.plain=false
 ·refine(p (Xo X ρ s.H) w vs z (.inl J) D ?_ ?_).mono ?_
  ·grind
  ·intro j u K;have hu0:=K;rw[<- Z,aam]at K;obtain⟨t0,B,rfl⟩:=aak.1 K;obtain⟨v,W,Y⟩:=hv j t0 B;refine⟨v,W,?_⟩;rcases G with aa|I
   ·grind [Pd,zT]
   have:=Q t0 (aai B);rw[I]at this;exact qT g.objs (fun _ h=>h) (fun h=>by cases h) Y this
  grind [DL]
 have ab:l.args.all oW=false:=by grind
 have I:l.res.plain=true:=by grind
 have S:cs'.all PL=true:=by
  grind [lentOk]
 have q:=I;unfold CallRes.plain at q;rw[aaO]at q;have L:l.res.fam=[]:=List.isEmpty_iff.1 q.1;refine(p (fun j=>j=b) w vs (fun j A=>by subst A;exact z j (.inl J)) rfl (D.weaken fun j _ A=>by subst A;exact .inl J) ?_ ?_).mono ?_
 ·grind
 ·intro j u K;rw[<- Z,aam]at K;obtain⟨t0,B,rfl⟩:=aak.1 K;obtain⟨v,W,Y⟩:=hv j t0 B;refine⟨v,W,?_⟩;exact zK g.objs (fun j A=>by subst A;exact .inl J) (fun _ x y o b' c C E R=>by subst R;exact(g.old x y o b' c C E).2 J) Y (Q t0 (aai B))
 rintro e w1 ⟨v,rfl,M,hi,hr,E⟩;refine⟨v,rfl,DL h1 U g V hO J ht hF T (ρc:=M) ?_ (zT q.2 hr) (E.raw S)⟩;rw[L];exact⟨hi.keep,fun x r o C=>by simp[famH]at C,fun x r x' r' o o' j c c' C=>by simp[famH]at C,fun x r o j c C=>by simp[famH]at C,fun j A=>aaA (z j A) hi.keep.size,fun x r o C=>by simp[famH]at C⟩
theorem S3 {p:List (df P)} {ow:List Nat} {i:Nat} {s1:AS} (M:gT b ty w0 O X s cs a w) {o:Oper} {c:Call} (G:o.op= .call c) (l:c.callee= .value h) (hy:(∃f,h= .func f)\/ ∃k,h= .tmp k) {I:df P} (L:p.find? (·.i==i)=some I) (C:lentOk I.args I.res cs'=true) (q:CallT P b ty I.f I.args cs I.res cs') (g:d6 P p ow i o s=some s1) {K:Act->World->Prop} {Q:Exit->Act->World->Prop} (hK: ∀v w',gT b ty w0 O X s1 cs' (a.put o.dst v) w'->K (a.put o.dst v) w'):o.wp P a w K Q:=by
 obtain⟨h1,N,ρ,B,z,hO,hX,A⟩:=M;have hM:oQ o.op=false:=by rw[G];show WM c.callee=false;rw[l];rfl
 have hR:yf o.op=false:=by
  obtain⟨callee,args,ac⟩:=c;simp only at l;subst l;rw[G];rfl
 have hD:fP P s.ev s.H o.op=none:=by
  obtain⟨callee,args,ac⟩:=c;simp only at l;subst l;rw[G];rfl
 unfold d6 at g;simp only[hM,hR,hD,aaZ,if_false]at g;obtain⟨d,t,F,ad,n,J,aa⟩: ∃d t F,o.dst=some d/\cn P p ow i d s.ev s.H o.op=some (t,F)/\(F≠[]->s.H d=[])/\s1=jj s d t F:=by
  grind [jj]
 subst aa;rw[G]at n;rcases hy with⟨f,rfl⟩|⟨k,rfl⟩
 ·simp only[cn,l]at n;rw[L]at n;split at n
  ·rename_i ab ts m D;injection m with m
   subst m;split at n
   ·rename_i Y;obtain⟨R,S,T,_⟩:=Y;injection n with n
    injection n with ht W
    subst R;obtain⟨e1,U⟩:=bV D;have u:=jf (w:=w) G l (e:=a.eval) rfl q.1;unfold Oper.wp;rw[u];simp only[Oper.upon];refine(zt h1 N B z hO hX A C q S T (vs:=c.args.map a.eval) (by simp[e1]) (fun j t0 r=>?_) ht W J).mono ?_
    ·obtain⟨x,hx,E⟩:=U j t0 r;exact⟨a.eval x,by grind,bz z x t0 E⟩
    grind
   cases n
  cases n
 simp only[cn,l]at n;rw[L]at n;split at n
 ·rename_i f V ab ts Z m D;injection m with m
  subst m;split at n
  ·rename_i Y;obtain⟨R,S,T,_⟩:=Y;injection n with n
   injection n with ht W
   subst R;obtain⟨e1,U⟩:=bV D;obtain⟨us,k1,k2,k3⟩:=jJ (v:=a.eval (.tmp k)) (fun t0 r=>bz z (.tmp k) t0 r) Z;have u:=jT (w:=w) G l (e:=a.eval) k1 q.1;unfold Oper.wp;rw[u];simp only[Oper.upon];refine(zt h1 N B z hO hX A C q S T (vs:=c.args.map a.eval++us) (by grind) (fun j t0 r=>?_) ht W J).mono ?_
   ·by_cases hj:j<ts.length
    ·rw[aaB hj]at r;obtain⟨x,hx,E⟩:=U j t0 r;exact⟨a.eval x,by grind,bz z x t0 E⟩
    grind
   grind
  cases n
 cases n
end
end
end Go.Proofs.YtalmoejhjceflaaGreat
