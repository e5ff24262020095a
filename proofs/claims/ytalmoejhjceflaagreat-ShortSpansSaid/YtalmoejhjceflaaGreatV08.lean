/-
  Part 9 of a proof (walks and plain facts).
-/
import Derived.Test.YtalmoejhjceflaaGreatV07
set_option linter.all false
set_option maxRecDepth 100000
set_option maxHeartbeats 64000000
namespace Go.Proofs.YtalmoejhjceflaaGreat
open Go.RowKit
variable {b:Array Oper} {c e:Code} {f g:Nat->Prop} {w W:World} {s:AS} {h:FuncId} {j:Operand} {l:OObj} {m:List PV} {n:Exit->AS->Prop} {p:Nat} {o:List Nat} {q:TypeId} {r:Oper} {t:Value} {u:OH} {v:TV}
section
def sw (p q r:Nat):Nat:=if r=p then q else if r=q then p else r
theorem WO (p q r:Nat):sw p q (sw p q r)=r:=by
 grind [sw]
def SV (a p q b r:Nat):Nat:=if b=a then sw p q r else r
theorem Za (a p q b r:Nat):SV a p q b (SV a p q b r)=r:=by
 grind [SV,WO]
def iD (P:Nat->Nat->Nat×Nat):AV->AV
 | .sl b r c len=> .sl (P b r).1 (P b r).2 c len
 | .ptr b r i j=> .ptr (P b r).1 (P b r).2 i j
 | .fn f b e=>match e with
  |[]=> .junk
  |q::l=>if(q::l).all (fun x=>(P b x.1).1==(P b q.1).1)then .fn f (P b q.1).1 ((q::l).map fun x=>((P b x.1).2,x.2))else .junk
 |x=>x
theorem Vq (P:Nat->Nat->Nat×Nat):s8 (iD P):=fun f b c=>by
 cases c with
 |nil=>exact .inl rfl
 |cons q l=>
  grind [iD]
def oc (P:Nat->Nat->Nat×Nat):TV->TV
 | .one x=> .one (iD P x)
 | .agg b=> .agg (b.map (iD P))
 | .fn f b=> .fn f (b.map (iD P))
 | .tup c=> .tup (c.map fun t=>(t.1,t.2.map (iD P)))
def BC (P:Nat->Nat->Nat×Nat) (o:OObj):OObj:={o with elems:=o.elems.map (List.map (iD P))}
open Classical in
theorem G8 (P:Nat->Nat->Nat×Nat) (z:OH) (G: ∀(b r:Nat) (o:OObj),(s.H b)[r]?=some o->(z (P b r).1)[(P b r).2]?=some (BC P o)) (D: ∀(b r:Nat) (e:OObj),(z b)[r]?=some e-> ∃(m n:Nat) (o:OObj),(s.H m)[n]?=some o/\e=BC P o/\P m n=(b,r)) (aa: ∀(b r E N:Nat) (o e:OObj),(s.H b)[r]?=some o->(s.H E)[N]?=some e->P b r=P E N->b=E/\r=N) (R: ∀b r,(P b r).1<=4999->b<=4999) (U: ∀(b r:Nat) (e:OObj),(z b)[r]?=some e->selfO b e):bN s ⟨s.tmps.map (oc P),z⟩:=by
 rintro w0 O X ab w ⟨h1,ac,Q,g,V⟩
 let l:Rho:=fun b r=>if h: ∃p:Nat×Nat,(∃o,(s.H p.1)[p.2]?=some o)/\P p.1 p.2=(b,r)then Q h.choose.1 h.choose.2 else none
 have C: ∀(b r:Nat) (o:OObj),(s.H b)[r]?=some o->l (P b r).1 (P b r).2=Q b r:=fun b r o u=>by
  have h: ∃p:Nat×Nat,(∃o,(s.H p.1)[p.2]?=some o)/\P p.1 p.2=((P b r).1,(P b r).2):=⟨(b,r),⟨o,u⟩,rfl⟩;grind
 have J:Xo X l z=Xo X Q s.H:=by
  funext b;apply propext;constructor
  ·rintro(h|⟨x,r,o,c,f,I⟩)
   ·exact .inl h
   obtain⟨m,n,e,A,_,g5⟩:=D x r o f;have:=C m n e A;rw[g5]at this;exact .inr ⟨m,n,e,c,A,this.symm.trans I⟩
  rintro(h|⟨x,r,o,c,f,I⟩)
  ·exact .inl h
  exact .inr ⟨_,_,_,c,G x r o f,(C x r o f).trans I⟩
 have K: ∀(Y:Nat->Prop) x v,AV.rel Q s.H Y w x v->AV.rel l z Y w (iD P x) v:=fun Y=>kW (Vq P) fun x v hn h=>by
  cases x with
  |fn=>cases hn
  |p x=>exact h
  |junk=>trivial
  |sl b r ad len=>
   obtain⟨o,f,I,A⟩:=h;refine⟨_,G b r o f,by grind [BC],?_⟩;rw[C b r o f];rcases A with A|⟨q,c,cap,W,k2,k3,Z⟩
   ·grind
   exact .inr ⟨q,c,cap,W,k2,k3,fun hl=>Z (R b r hl)⟩
  |ptr b r i j=>
   obtain⟨o,E,c,f,I,A,F⟩:=h;exact⟨_,E,c,G b r o f,by grind,by grind [BC],F⟩
 have B: ∀(b r:Nat) (e:OObj),(z b)[r]?=some e-> ∃(m n:Nat) (o:OObj),(s.H m)[n]?=some o/\e=BC P o/\P m n=(b,r)/\l b r=Q m n:=fun b r e u=>by
  obtain⟨m,n,o,f,I,A⟩:=D b r e u;have:=C m n o f;rw[A]at this;grind
 refine⟨h1,by grind,l,⟨g.keep,fun b r e u=>?_,fun b r E N o e x c c' u S L M=>?_,fun b r o x c u L=>?_,g.bar,fun b r e u=>?_⟩,fun t x hx=>?_⟩
 ·obtain⟨m,n,o,f,rfl,_,F⟩:=B b r e u;have T:=g.objs _ _ o f;rw[J];exact iO T F rfl (fun _ _ _=>rfl) fun _ _ x _ v h=>K _ _ _ h
 ·obtain⟨m,n,o1,f,_,A,F⟩:=B b r o u;obtain⟨b1,r1,o2,W,_,k3,Z⟩:=B E N e S;rw[F]at L;rw[Z]at M;obtain⟨e1,e2⟩:=g.inj _ _ _ _ o1 o2 x c c' f W L M;grind
 ·obtain⟨m,n,o1,f,_,_,F⟩:=B b r o u;rw[F]at L;exact g.old _ _ o1 x c f L
 ·grind
 simp only[aeG]at hx;obtain⟨y,hy,rfl⟩:=adT.1 hx;obtain⟨v,v1,v2⟩:=V t y hy;refine⟨v,v1,?_⟩;show TV.rel l z (Xo X l z) w (oc P y) v;rw[J];have:=jK v2 (K _);cases y<;>exact this
theorem FA {g:AV->AV} {l:List (List AV)} (h: ∀e∈l,∀z∈e,g z=z):l.map (List.map g)=l:=by
 have:l.map (List.map g)=l.map id:=ae1 fun e b=>by
  have:e.map g=e.map id:=ae1 fun z c=>h e b z c
  simp_all
 simp_all
section
variable {P:Nat->Nat->Nat×Nat} {b:Nat}
theorem ZJ (h: ∀r,P b r=(b,r)) {y:AV} (c:bJ b y):iD P y=y:=by
 cases y with
 |sl x r e len=>have c:x=b:=c;grind [iD]
 |ptr x r i j=>have c:x=b:=c;grind [iD]
 |fn f x g=>
  obtain⟨c,m⟩:=c;subst c;cases g with
  |nil=>grind
  |cons q l=>simp[iD,h]
 |_=>rfl
theorem L9 (h: ∀r,P b r=(b,r)) (f:selfO b l):BC P l=l:=by
 have:l.elems.map (List.map (iD P))=l.elems:=FA fun e c z g=>ZJ h (f e c z g)
 simp_all[BC]
theorem BD (h:fE l):BC P l=l:=by
 have:l.elems.map (List.map (iD P))=l.elems:=FA fun e c z f=>by
  have:=h e c z f;cases z<;>first|rfl|cases this
 simp_all[BC]
theorem RI {d:Nat} (h: ∀r,(P b r).1=d) {x:AV} (c:bJ b x):bJ d (iD P x):=by
 cases x with
 |sl y r e len=>have c:y=b:=c;subst c;exact h r
 |ptr y r i j=>have c:y=b:=c;subst c;exact h r
 |fn f y g=>
  obtain⟨c,m⟩:=c;subst c;cases g with
  |nil=>grind
  |cons q l=>simp[iD,h,bJ]
 |_=>trivial
theorem Jf {d:Nat} (h: ∀r,(P b r).1=d) (m:selfO b l):selfO d (BC P l):=fun e g x n=>by
 simp only[BC,aeL]at g;obtain⟨j,c,rfl⟩:=g;obtain⟨p,f,rfl⟩:=aeL.1 n;exact RI h (m j c p f)
end
abbrev swP (a p q b r:Nat):Nat×Nat:=(b,SV a p q b r)
abbrev aaf (a p q:Nat):AV->AV:=iD (swP a p q)
abbrev WN (a p q:Nat):TV->TV:=oc (swP a p q)
abbrev swO (a p q:Nat):OObj->OObj:=BC (swP a p q)
theorem y7 (a p q:Nat) (F:List OObj) (n: ∀r:Nat,F[r]?=((s.H a)[sw p q r]?).map (swO a p q)):bN s ⟨s.tmps.map (WN a p q),aK s.H a F⟩:=by
 intro y O X g w j;obtain⟨A,u,E,c,v⟩:=id j;have hid: ∀b,b≠a-> ∀r,swP a p q b r=(b,r):=fun b f r=>by grind [SV]
 refine G8 (swP a p q) _ (fun b r o e=>?_) (fun b r o e=>?_) (fun b r z D o C e t B=>?_) (fun b r h=>h) (fun b r o e=>?_) y O X g w j
 ·by_cases f:b=a
  ·grind [SV,be,WO]
  rw[hid b f,L9 (hid b f) (c.self b r o e)];grind [aU]
 ·by_cases f:b=a
  ·grind [be,SV,WO]
  rw[aU f]at e;exact⟨b,r,o,e,(L9 (hid b f) (c.self b r o e)).symm,hid b f r⟩
 ·grind [Za]
 by_cases f:b=a
 ·subst f;rw[be,n]at e;obtain⟨x,l,m⟩:=adT.1 e;subst m;exact Jf (fun _=>rfl) (c.self b _ x l)
 rw[aU f]at e;exact c.self b r o e
def tH (a d m:Nat) (b r:Nat):Nat×Nat:=if b=a then(d,m+r)else(b,r)
theorem abQ {a d b:Nat} (h:b≠a) (r:Nat):tH a d p b r=(b,r):=if_neg h
theorem L8 {a d x:Nat} (b:x≠a) (h:selfO x l):BC (tH a d p) l=l:=L9 (abQ b) h
theorem fw {s:AS} (a d:Nat) (n:d≠a) (E:a<=4999):bN s ⟨s.tmps.map (oc (tH a d (s.H d).length)),aK (aK s.H a []) d (s.H d++(s.H a).map (BC (tH a d (s.H d).length)))⟩:=by
 intro B O X q w p;obtain⟨D,y,K,c,z⟩:=id p;generalize G:(s.H d).length=m;have j:aK (aK s.H a []) d (s.H d++(s.H a).map (BC (tH a d m))) d=s.H d++(s.H a).map (BC (tH a d m)):=be;have u:aK (aK s.H a []) d (s.H d++(s.H a).map (BC (tH a d m))) a=[]:=by grind [aU,be]
 have l: ∀x,x≠d->x≠a->aK (aK s.H a []) d (s.H d++(s.H a).map (BC (tH a d m))) x=s.H x:=fun x h k=>by grind [aU]
 refine G8 (tH a d m) _ (fun b r o e=>?_) (fun b r o e=>?_) (fun b r C J o I e v F=>?_) (fun b r h=>?_) (fun b r o e=>?_) B O X q w p
 ·by_cases g:b=a
  ·grind [tH]
  rw[L8 g (c.self b r o e)];grind [tH]
 ·by_cases g:b=d
  ·subst g;rw[j]at e;by_cases p:r<m
   ·rw[aff (by omega)]at e;exact⟨b,r,o,e,(L8 n (c.self b r o e)).symm,if_neg n⟩
   grind [tH]
  by_cases f:b=a
  ·grind
  rw[l b g f]at e;exact⟨b,r,o,e,(L8 f (c.self b r o e)).symm,if_neg f⟩
 ·grind [tH]
 ·grind [tH]
 by_cases g:b=d
 ·subst g;rw[j]at e;by_cases p:r<m
  ·rw[aff (by omega)]at e;exact c.self b r o e
  rw[afs (by omega),aeG]at e;obtain⟨A,t,rfl⟩:=adT.1 e;exact Jf (fun r=>by simp[tH]) (c.self a _ A t)
 by_cases f:b=a
 ·grind
 rw[l b g f]at e;exact c.self b r o e
abbrev Ra (a e d:Nat):TV->TV:=oc (tH e d 1)∘oc (tH a d 0)
theorem ot (a e d:Nat) {oa oe:OObj} (p:s.H a=[oa]) (t:s.H e=[oe]) (r:s.H d=[]) (j:fE oa) (l:fE oe) (q:a≠e) (c:a<=4999) (g:e<=4999):
  bN s ⟨s.tmps.map (Ra a e d),aK (aK (aK s.H a []) e []) d [oa,oe]⟩:=by
 have f:d≠a:=by grind
 have h:d≠e:=by grind
 have b:=fw (s:=s) a d f c;rw[r,p]at b;simp only[afP,afQ,aeX,afh,BD j]at b;have m:=fw (s:=⟨s.tmps.map (oc (tH a d 0)),aK (aK s.H a []) d [oa]⟩) e d h g;have n:aK (aK s.H a []) d [oa] d=[oa]:=be;have o:aK (aK s.H a []) d [oa] e=[oe]:=by grind [aU]
 have e:aK (aK (aK (aK s.H a []) d [oa]) e []) d [oa,oe]=aK (aK (aK s.H a []) e []) d [oa,oe]:=by
  funext x;by_cases u:x=d
  ·grind [be]
  grind [aU,be]
 simp only[n,o,ae6,afP,aeX,afh,BD l,agr,afQ,e]at m;rw[<- aga];exact b.trans m
theorem Tg (a d:Nat) (f:s.H a=[l]) (e:fE l) (c:d≠a) (b:a<=4999):bN s ⟨s.tmps.map (oc (tH a d (s.H d).length)),aK (aK s.H a []) d (s.H d++[l])⟩:=by
 grind [fw,BD]
end
section
section
variable {P:Program}
theorem jt {c:List (dD P)} (q:l9 P c) {z:List Nat} {b:Array Oper} {u:World} {O X:Nat->Prop} {Q:Exit->Act->World->Prop} {e:List Nat}: ∀(l:List Oper) (k:Nat) (s f:AS) (a:Act) (w:World),(∀(j:Nat) o,l[j]?=some o->b[k+j]?=some o)->
  ja P c z b (l.zipIdx k) s=some f->dP u O X s a w->(∀p n,dP u O X f p n->wpOps P b Q e p n)->wpOps P b Q (List.range' k l.length++e) a w
 |[],k,s,f,a,w,_,h,r,g=>by
  simp only[ag8,ja]at h;injection h with h
  subst h;exact g a w r
 |o::l,k,s,f,a,w,t,h,r,g=>by
  simp only[agt,ja]at h;split at h
  ·rename_i A m;simp only[ae6,afj,agr,wpOps];have x:b[k]?=some o:=by have:=t 0 o rfl;omega
   rw[x];simp only;have:=jA (Q:=Q) q r m (K:=wpOps P b Q (List.range' (k+1) l.length++e)) (fun v n y=>jt q l (k+1) A f _ _ (fun j o B=>by have:=t (j+1) o (by grind);grind) h y g);grind
  cases h
theorem yh (m:Nat) (c:List (dD P)) (t:l9 P c) (u:List Nat) {id:Nat} {p q f:AS} (v:ja P c u b ((b.toList.take m).zipIdx 0) s=some p) (B:bN p q) (x:ja P c u b ((b.toList.drop m).zipIdx (b.toList.take m).length) q=some f) (y:n .normal f):bv P (.region id b false) n s:=fun D O X a w r=>by
 refine wp_region ?_;have l:b.size=(b.toList.take m).length+(b.toList.drop m).length:=by simp;omega
 rw[l,afi,<- afk,afm];refine jt t (b.toList.take m) 0 s p a w (fun j o z=>?_) v r fun g h C=>?_
 ·grind
 refine fC t (Q:=fun e g h=> ∃f,n e f/\dP D O X f g h) (b.toList.drop m) _ q f g h (fun j o z=>?_) x (B _ _ _ _ _ C) (fun g h A=>⟨f,y,A⟩);grind
theorem iW (m:Nat) (e:List (ar P)) (f:List Nat) {id:Nat} (v:s.tmps.length<=1000000) (w:m<=b.toList.length) (h: ∀K:AS->Prop,(∀l,(∃g,bN l g/\g.tmps.length<=1000000/\ ∀K:AS->Prop,(∀j,bv P c n j->K j)->bM P (e.map ar.a) f (aV b (b.toList.drop m) m) (some g) K)->K l)->bM P (e.map ar.a) f (aV b (b.toList.take m) 0) (some s) K):bv P (.seq (.region id b false) c) n s:=by
 obtain⟨l,o,g,t,r,p⟩:=aO P (e.map ar.a) f b _ 0 s _ (h _ fun _ h=>h);obtain⟨j,u,q⟩:=aO P (e.map ar.a) f b _ m g _ (p _ fun _ h=>h);refine aj (yh m _ (ar.ok e) f o t ?_ q);grind
end
end
section
theorem bS.later {w:World} (z: ∀b,b<w.heap.size->g b->f b) (B:w.heap.size<=W.heap.size) (A: ∀p t,p.block<w.heap.size-> ¬f p.block->w.cell? p=some t->W.cell? p=some t) {x:PV} (h:bS f w x t):bS g W x t:=by
 induction h with
 |raw t h=>exact .raw t h
 |nil a c=>exact .nil a c
 |sl b o D cap H l q m u r F n G y=>exact .sl b o D cap H l (fun h=>q (z _ m h)) (aeT m B) u r F (fun i e j x s E=>A ⟨b,_,none⟩ _ m q (n i e j x s E)) y
 |ptr b o C l q m n G y=>exact .ptr b o C l (fun h=>q (z _ m h)) (aeT m B) (fun j x s=>A ⟨b,_,none⟩ _ m q (n j x s)) y
theorem iX {p:Addr} (h:W.heap[p.block]?=w.heap[p.block]?):W.cell? p=w.cell? p:=by grind [World.cell?]
def np (b:Nat) (f:TypeId) (e:List PV) (Y:Nat->Prop) (w:World):Prop:=
 ∃(cells:Array Value) (c:Nat),w.heap[b]?=some (.cells cells f (0,0))/\cells.size=c*e.length/\1<=c/\c<=9223372036854775807/\0<e.length/\
  ∀(j:Nat) x,e[j]?=some x-> ∃v:Value,cells[j]?=some v/\v.oneCell'=true/\bS Y w x v
theorem np.later {w:World} (t: ∀j,j<w.heap.size->g j->f j) (y:w.heap.size<=W.heap.size) (E:W.heap[p]?=w.heap[p]?) (F: ∀j,j<w.heap.size-> ¬f j->W.heap[j]?=w.heap[j]?) (h:np p q m f w):np p q m g W:=by
 obtain⟨cells,c,D,l,n,o,r,s⟩:=h;refine⟨cells,c,by grind,l,n,o,r,fun j x z=>?_⟩;obtain⟨v,A,B,C⟩:=s j x z;exact⟨v,A,B,C.later t y fun e u H G I=>by grind [iX]⟩
theorem np.weaken (c: ∀j,j<w.heap.size->g j->f j) (h:np p q m f w):np p q m g w:=
 h.later c (aeJ _) rfl fun _ _ _=>rfl
section
variable {P:Program} {b:Nat} {ty:TypeId} {cs cs':List PV} {w0 w:World} {O X:Nat->Prop} {s s':AS} {a:Act}
def jl (b:Nat) (ty:TypeId) (w0:World) (O X:Nat->Prop) (s:AS) (cs:List PV) (a:Act) (w:World):Prop:=
 a.defers=[]/\a.tmps.size=s.tmps.length/\ ∃c,Inv w0 O X s.H c w/\bz X c s a w/\O b/\X b/\np b ty cs (Xo X c s.H) w
theorem jl.rel (h:jl b ty w0 O X s cs a w):dP w0 O X s a w:=by
 obtain⟨c,e,j,f,g,_⟩:=h;exact⟨c,e,j,f,g⟩
theorem jl.rebase (h:jl b ty w0 O X s cs a w): ∃Own:Nat->Prop,dP w Own X s a w/\ ∀E v F,dP w Own X E v F->jl b ty w0 O X E cs v F:=by
 obtain⟨J,A,G,e,B,K,y,q⟩:=h;refine⟨fun j=> ∃(x r:Nat) (o:OObj) (c:Nat),(s.H x)[r]?=some o/\G x r=some (j,c),⟨J,A,G,⟨Keep.refl w,e.objs,e.inj,fun x r o j c u l=>⟨.inr ⟨x,r,o,c,u,l⟩,(e.old x r o j c u l).2⟩,e.bar,e.self⟩,B⟩,?_⟩;rintro E v F ⟨L,C,I,f,D⟩;have t: ∀j,(∃(x r:Nat) (o:OObj) (c:Nat),(s.H x)[r]?=some o/\G x r=some (j,c))->(w0.heap.size<=j\/O j)/\ ¬X j:=fun j ⟨x,r,o,c,n,p⟩=>e.old x r o j c n p
 refine⟨L,C,I,⟨⟨f.keep.os.trans e.keep.os,f.keep.tape.trans e.keep.tape,f.keep.output.trans e.keep.output,aeN e.keep.size f.keep.size,fun j l z=>?_⟩,f.objs,f.inj,fun x r o j c u l=>?_,f.bar,f.self⟩,D,K,y,?_⟩
 ·rw[f.keep.block j (aeT l e.keep.size) (fun m=>by
   grind)]
  exact e.keep.block j l z
 ·obtain⟨n,p⟩:=f.old x r o j c u l;refine⟨?_,p⟩;rcases n with g|g
  ·exact .inl (aeN e.keep.size g)
  grind
 refine q.later (fun j l m=>?_) f.keep.size (f.keep.block b (e.bar b y) (fun m=>(t b m).2 y)) (fun j l z=>f.keep.block j l (fun m=>z (.inr m)));rcases m with m|⟨x,r,o,c,n,p⟩
 ·exact .inl m
 rcases(f.old x r o j c n p).1 with g|g
 ·omega
 exact .inr g
def fx (P:Program) (b:Nat) (ty:TypeId) (c:Code) (Q:Exit->AS->List PV->Prop) (s:AS) (cs:List PV):Prop:=
 ∀(w0:World) (O X:Nat->Prop) (a:Act) (w:World),jl b ty w0 O X s cs a w->c.wp P (fun e f g=> ∃s' cs',Q e s' cs'/\jl b ty w0 O X s' cs' f g) a w
def tg (next:AS->List PV->Prop) (Q:Exit->AS->List PV->Prop):Exit->AS->List PV->Prop
 | .normal,s,k=>next s k
 |e,s,k=>Q e s k
def KR (id:Nat) (Q:Exit->AS->List PV->Prop):Exit->AS->List PV->Prop
 | .exit c,s,k=>if c=id then Q .normal s k else Q (.exit c) s k
 |e,s,k=>Q e s k
variable {Q:Exit->AS->List PV->Prop}
theorem KG (h:bv P c (fun e s'=>Q e s' cs) s):fx P b ty c Q s cs:=fun w0 O X a w r=>by
 obtain⟨Own,j,l⟩:=r.rebase;exact wp_mono (h _ _ _ _ _ j) fun e m n ⟨s',f,g⟩=>⟨s',cs,f,l _ _ _ g⟩
theorem fx.weak (h:bN s s') (k:fx P b ty c Q s' cs):fx P b ty c Q s cs:=fun _ _ _ _ _ r=>by
 obtain⟨Own,e,f⟩:=r.rebase;exact k _ _ _ _ _ (f _ _ _ (h _ _ _ _ _ e))
theorem jl.weak (h:bN s s') (r:jl b ty w0 O X s cs a w):jl b ty w0 O X s' cs a w:=by
 obtain⟨Own,c,e⟩:=r.rebase;exact e _ _ _ (h _ _ _ _ _ c)
theorem fx.mono {f:Exit->AS->List PV->Prop} (h:fx P b ty c Q s cs) (k: ∀e s' cs',Q e s' cs'->f e s' cs'):fx P b ty c f s cs:=fun _ _ _ _ _ r=>
 wp_mono (h _ _ _ _ _ r) fun _ _ _ ⟨s',cs',g,j⟩=>⟨s',cs',k _ _ _ g,j⟩
theorem jV (h:Q .normal s cs):fx P b ty .skip Q s cs:=fun _ _ _ _ _ r=>wp_skip ⟨s,cs,h,r⟩
theorem Hq {id:Nat} (h:Q (.exit id) s cs):fx P b ty (.exit id) Q s cs:=fun _ _ _ _ _ r=>wp_exit ⟨s,cs,h,r⟩
theorem px (h:Q .ret s cs):fx P b ty .ret Q s cs:=fun _ _ _ _ _ r=>wp_ret ⟨s,cs,h,r⟩
theorem ck (h:fx P b ty c (tg (fx P b ty e Q) Q) s cs):fx P b ty (.seq c e) Q s cs:=fun _ _ _ _ _ r=>
 wp_seq (wp_mono (h _ _ _ _ _ r) fun f a w ⟨s',cs',g,j⟩=>by
  cases f with
  |normal=>exact g _ _ _ _ _ j
  |_=>exact⟨s',cs',g,j⟩)
theorem dE {id:Nat} (h:fx P b ty c (KR id Q) s cs):fx P b ty (.block id c) Q s cs:=fun _ _ _ _ _ r=>
 wp_block (wp_mono (h _ _ _ _ _ r) fun e a w ⟨s',cs',f,g⟩=>by
  cases e with
  |exit j=>
   grind [KR,Exit.inBlock]
  |_=>exact⟨s',cs',f,g⟩)
theorem Hp {v:Bool} (m:s.ev j=some (.raw (.bool v))) (p:v=true->fx P b ty c Q s cs) (n:v=false->fx P b ty e Q s cs):fx P b ty (.cond j c e) Q s cs:=fun _ _ _ _ _ r=>by
 obtain⟨q,o,t,g,f,_⟩:=id r;have l:=(bo (bE f j _ m)).1;exact wp_cond_split l (fun h=>p h _ _ _ _ _ r) (fun h=>n h _ _ _ _ _ r)
theorem iG (f:s.ev j=some (.raw (.bool true))) (h:fx P b ty c Q s cs):fx P b ty (.cond j c e) Q s cs:=Hp f (fun _=>h) (fun h=>by cases h)
theorem cw (f:s.ev j=some (.raw (.bool false))) (h:fx P b ty e Q s cs):fx P b ty (.cond j c e) Q s cs:=Hp f (fun h=>by cases h) (fun _=>h)
theorem tC (f:s.ev j=some (.raw (.bool true))) (h:fx P b ty e Q s cs):fx P b ty (.seq (.cond j .skip c) e) Q s cs:=ck (iG f (jV h))
theorem tB {id:Nat} (f:s.ev j=some (.raw (.bool false))) (h:Q (.exit id) s cs):fx P b ty (.seq (.cond j c (.exit id)) e) Q s cs:=ck (cw f (Hq h))
theorem Tv {G:Type} (St:G->AS) (Sc:G->List PV) (j:G->Nat) (h:G) (t:bN s (St h)) (l:Sc h=cs) (round: ∀g,fx P b ty c (tg (fun s' cs'=> ∃f,j f<j g/\bN s' (St f)/\Sc f=cs') Q) (St g) (Sc g)):fx P b ty (.loop c) Q s cs:=fun w0 O X a w r=>by
 subst l;refine wp_loop_ghost (fun n a w=> ∃g,j g=n/\jl b ty w0 O X (St g) (Sc g) a w) (j h) ⟨h,rfl,r.weak t⟩ fun n a w ⟨g,u,v⟩=>?_
 refine wp_mono (round g _ _ _ _ _ v) fun e y z ⟨s',cs',p,q⟩=>?_
 cases e with
 |normal=>
  obtain⟨f,o,x,m⟩:=p;subst m;exact⟨_,u▸o,f,rfl,q.weak x⟩
 |_=>exact⟨s',cs',p,q⟩
theorem lw {G:Type} (St:G->AS) (Sc:G->List PV) (j:G->Nat) (f:G) {id:Nat} (l:bN s (St f)) (h:Sc f=cs) (round: ∀g,fx P b ty c (tg (fun s' cs'=> ∃e,j e<j g/\bN s' (St e)/\Sc e=cs') (KR id Q)) (St g) (Sc g)):fx P b ty (.block id (.loop c)) Q s cs:=
 dE (Tv St Sc j f l h round)
/-! Regions without lent calls. -/
theorem Ai (e:List (ar P)) (g:List Nat) {id:Nat} {f:Array Oper} (h: ∀K:AS->Prop,(∀s',fx P b ty c Q s' cs->K s')->bM P (e.map ar.a) g (aV f f.toList 0) (some s) K):fx P b ty (.seq (.region id f false) c) Q s cs:=
 ck (KG (uK e g (h _ fun _ h=>h)))
theorem Tw (c:List (ar P)) (f:List Nat) {id:Nat} {e:Array Oper} (h: ∀K:AS->Prop,(∀s',Q .normal s' cs->K s')->bM P (c.map ar.a) f (aV e e.toList 0) (some s) K):fx P b ty (.region id e false) Q s cs:=
 KG (uK c f (h _ fun _ h=>h))
theorem Qq (j:P.follows .mixedOrders=true) (c:List (ar P)) (f:List Nat) {id:Nat} {e:Array Oper} (g:cz [] e=true) (h: ∀K:AS->Prop,(∀s',Q .normal s' cs->K s')->bM P (c.map ar.a) f (aV e e.toList 0) (some s) K):fx P b ty (.region id e true) Q s cs:=
 KG (rS j c f g (by simp) (fun x l=>by simp at l) (h _ fun _ h=>h))
theorem rV {id:Nat} {e:Array Oper} (h: ∀K:AS->Prop,(∀s',fx P b ty c Q s' cs->K s')->bM P [] [] (aV e e.toList 0) (some s) K):fx P b ty (.seq (.region id e false) c) Q s cs:=Ai [] [] h
theorem Qs {id:Nat} {c:Array Oper} (h: ∀K:AS->Prop,(∀s',Q .normal s' cs->K s')->bM P [] [] (aV c c.toList 0) (some s) K):fx P b ty (.region id c false) Q s cs:=Tw [] [] h
theorem KF (f:P.follows .mixedOrders=true) {id:Nat} {c:Array Oper} (e:cz [] c=true) (h: ∀K:AS->Prop,(∀s',Q .normal s' cs->K s')->bM P [] [] (aV c c.toList 0) (some s) K):fx P b ty (.region id c true) Q s cs:=Qq f [] [] e h
end
def CallT (P:Program) (b:Nat) (l:TypeId) (f:FuncId) (args:List TV) (m:List PV) (res:CallRes) (g:List PV):Prop:=
 callable P f=true/\ ∀(X:Nat->Prop) (w:World) (vs:Array Value),(∀j,X j->j<w.heap.size)->X b->np b l m X w->vs.size=args.length->
  (∀(j:Nat) t,args[j]?=some t-> ∃v:Value,vs[j]?=some v/\t.rel (fun _ _=>none) (fun _=>[]) X w v)->
  Calls P f vs w fun e h=> ∃v,e= .returned v/\ ∃c:Rho,Inv w (fun j=>j=b) X (famH 0 res.fam) c h/\res.r.rel c (famH 0 res.fam) (Xo X c (famH 0 res.fam)) h v/\np b l g (Xo X c (famH 0 res.fam)) h
section
variable {P:Program} {b:Nat} {ty:TypeId} {cs cs':List PV} {w0 w:World} {O X:Nat->Prop} {ρ:Rho} {s:AS} {a:Act}
theorem IU {l:dD P} {d:Nat} (h1:a.defers=[]) (Q:a.tmps.size=s.tmps.length) (f:Inv w0 O X s.H ρ w) (R:bz X ρ s a w) (U:O b) (B:X b) {F:List OObj} (ht:renTV d l.res.r=v) (Z:l.res.fam.map (renO d)=F) (hd:F≠[]->s.H d=[]) {ρc:Rho} (h:Inv w (fun j=>j=b) (Xo X ρ s.H) (famH 0 l.res.fam) ρc W) (hr:l.res.r.rel ρc (famH 0 l.res.fam) (Xo (Xo X ρ s.H) ρc (famH 0 l.res.fam)) W t) (E:np b ty cs' (Xo (Xo X ρ s.H) ρc (famH 0 l.res.fam)) W):jl b ty w0 O X (kq s d v F) cs' (a.put (some d) t) W:=by
 have D:b<w.heap.size:=f.bar b B;have q:b<W.heap.size:=aeT D h.keep.size;obtain⟨y,m⟩: ∃y:World,y={w with heap:=w.heap.setIfInBounds b (W.heap[b]'(q))}:=⟨_,rfl⟩;have Y:y.heap.size=w.heap.size:=by simp[m]
 have n:But b w y:=⟨by simp[m],by simp[m],by simp[m],by omega,fun k hk N=>by simp[m,agU (agv N)]⟩;have mono: ∀x u,AV.rel ρ s.H (Xo X ρ s.H) w x u->AV.rel ρ s.H (Xo X ρ s.H) y x u:=fun x u S=>uU (.inl B) n (fun a r o p=>⟨o,p,rfl,aeJ _,rfl⟩) (fun a r o K c p hb _=> .inr ⟨a,r,o,c,p,hb⟩) S
 have z:Inv w0 O X s.H ρ y:=⟨f.keep.but n (.inr U),fun x r o p=>gt (f.objs x r o p) rfl (fun K c C=>n.block K (bI (f.objs x r o p) C) (by rintro rfl;exact(f.old x r o K c p C).2 B)) mono,f.inj,f.old,fun j G=>by have:=f.bar j G;omega,f.self⟩;have I:bz X ρ s a y:=fun k x S=>by
  obtain⟨u,L,J⟩:=R k x S;exact⟨u,L,TV.rel_map J mono⟩
 have M:Inv y (fun _=>False) (Xo X ρ s.H) (famH 0 l.res.fam) ρc W:=⟨⟨by rw[h.keep.os,m],by rw[h.keep.tape,m],by rw[h.keep.output,m],by rw[Y];exact h.keep.size,fun k hk _=>by
  by_cases A:k=b
  ·subst A;simp[m,D,q]
  ·rw[h.keep.block k (by omega) A,n.block k (by omega) A]⟩,h.objs,h.inj,fun x r o j c p G=>by
  obtain⟨L,J⟩:=h.old x r o j c p G;refine⟨.inl ?_,J⟩;rcases L with g|rfl
  ·omega
  exact absurd (.inl B) J,h.bar,h.self⟩
 obtain⟨T,V,e,i1,i2,i3,i4⟩:=H7 (it:=l) z I ht Z hd M hr;rw[e];refine⟨by grind [kR],by grind [oU,nL],T,by grind [js],xI (s:=⟨s.tmps,V⟩) Q i2 i3,U,B,?_⟩;rw[js];exact E.weaken fun j _ G=>i4 j G
theorem VK (h:te (ms u v)=true):ms u v=v:=by
 unfold ms at h⊢;split
 ·rename_i a r c len;simp only at h;split at h<;>cases h
 ·cases h
 rfl
theorem DZ {q:OH} {n:Rho} (h:te v=true) (o:v.rel ρ u f w t):v.rel n q g W t:=by
 have C: ∀x l,vR x=true->AV.rel ρ u f w x l->AV.rel n q g W x l:=fun x l m G=>by
  cases x with
  |p x=>
   cases x with
   |raw z=>
    obtain⟨rfl,B⟩:=bo (ρ:=ρ) (H:=u) G;exact bS.raw _ B
   |sl L=>cases m
   |ptr cs=>cases m
  |sl a r I len=>cases m
  |ptr a r i j=>cases m
  |junk=>cases m
  |fn=>cases m
 have agg: ∀cs t,cs.all vR=true->dK ρ u f w cs t->dK n q g W cs t:=fun cs t F ⟨vs,y,A,D⟩=>by
  simp only[aeP]at F;exact⟨vs,y,A,fun j x m=>by grind⟩
 cases v with
 |one x=>exact C x t h o
 |agg cs=>exact agg cs t h o
 |fn e cs=>obtain⟨l,B,E⟩:=o;exact⟨l,agg cs l h B,E⟩
 |tup K=>
  simp only[te,aeP]at h;obtain⟨vs,y,A,D⟩:=o;refine⟨vs,y,A,fun j c cs J=>?_⟩;grind
def V8:PV->Bool
 | .raw _=>true
 |_=>false
def lentOk (args:List TV) (res:CallRes) (cs:List PV):Bool:=args.all te||!res.plain||cs.all V8
theorem np.raw {Y g:Nat->Prop} (e:cs.all V8=true) (h:np b ty cs Y w):np b ty cs g w:=by
 obtain⟨cells,c,l,m,n,o,p,q⟩:=h;refine⟨cells,c,l,m,n,o,p,fun j x f=>?_⟩;obtain⟨v,r,t,u⟩:=q j x f;rw[aeP]at e;have:=e x (adQ f);cases x with
 |raw z=>cases u with|raw _ h=>exact⟨_,r,t,.raw _ h⟩
 |sl y=>cases this
 |ptr cs=>cases this
theorem DF {m:dD P} {d:Nat} (h1:a.defers=[]) (U:a.tmps.size=s.tmps.length) (l:Inv w0 O X s.H ρ w) (V:bz X ρ s a w) (hO:O b) (J:X b) (D:np b ty cs (Xo X ρ s.H) w) (ac:lentOk m.args m.res cs'=true) (p:CallT P b ty m.f m.args cs m.res cs') {N:List TV} (Z:N.map (ms s.H)=m.args) (Q:N.all (jj m.res.plain s.H)=true) {vs:Array Value} (ae:vs.size=N.length) (hv: ∀(j:Nat) v,N[j]?=some v-> ∃g:Value,vs[j]?=some g/\v.rel ρ s.H (Xo X ρ s.H) w g) {F:List OObj} (ht:renTV d m.res.r=v) (hF:m.res.fam.map (renO d)=F) (T:F≠[]->s.H d=[]):
  Calls P m.f vs w fun e w1=> ∃g,e= .returned g/\jl b ty w0 O X (kq s d v F) cs' (a.put (some d) g) w1:=by
 obtain⟨_,p⟩:=p;have z: ∀j,Xo X ρ s.H j->j<w.heap.size:=fun j A=>by
  rcases A with A|⟨x,y,o',n,g1,g2⟩
  ·exact l.bar j A
  exact bI (l.objs x y o' g1) g2
 simp only[aeP]at Q;by_cases G:m.args.all te=true\/m.res.plain=false
 ·refine(p (Xo X ρ s.H) w vs z (.inl J) D ?_ ?_).mono ?_
  ·grind
  ·intro j u K;have ad:=K;rw[<- Z,aeG]at K;obtain⟨t0,B,rfl⟩:=adT.1 K;obtain⟨g,W,Y⟩:=hv j t0 B;refine⟨g,W,?_⟩;rcases G with aa|I
   ·grind [VK,DZ]
   have:=Q t0 (adQ B);rw[I]at this;exact vE l.objs (fun _ h=>h) (fun h=>by cases h) Y this
  grind [IU]
 have ab:m.args.all te=false:=by grind
 have I:m.res.plain=true:=by grind
 have S:cs'.all V8=true:=by
  grind [lentOk]
 have q:=I;unfold CallRes.plain at q;rw[afb]at q;have L:m.res.fam=[]:=List.isEmpty_iff.1 q.1;refine(p (fun j=>j=b) w vs (fun j A=>by subst A;exact z j (.inl J)) rfl (D.weaken fun j _ A=>by subst A;exact .inl J) ?_ ?_).mono ?_
 ·grind
 ·intro j u K;rw[<- Z,aeG]at K;obtain⟨t0,B,rfl⟩:=adT.1 K;obtain⟨g,W,Y⟩:=hv j t0 B;refine⟨g,W,?_⟩;exact DU l.objs (fun j A=>by subst A;exact .inl J) (fun _ x y o b' c C E R=>by subst R;exact(l.old x y o b' c C E).2 J) Y (Q t0 (adQ B))
 rintro e w1 ⟨g,rfl,M,hi,hr,E⟩;refine⟨g,rfl,IU h1 U l V hO J ht hF T (ρc:=M) ?_ (DZ q.2 hr) (E.raw S)⟩;rw[L];exact⟨hi.keep,fun x r o C=>by simp[famH]at C,fun x r x' r' o o' j c c' C=>by simp[famH]at C,fun x r o j c C=>by simp[famH]at C,fun j A=>aeT (z j A) hi.keep.size,fun x r o C=>by simp[famH]at C⟩
theorem Ze {p:List (dD P)} {i:Nat} {s1:AS} (N:jl b ty w0 O X s cs a w) {c:Call} (I:r.op= .call c) (l:c.callee= .value j) (hy:(∃f,j= .func f)\/ ∃k,j= .tmp k) {J:dD P} (M:p.find? (·.i==i)=some J) (D:lentOk J.args J.res cs'=true) (q:CallT P b ty J.f J.args cs J.res cs') (h:fo P p o i r s=some s1) {K:Act->World->Prop} {Q:Exit->Act->World->Prop} (hK: ∀v w',jl b ty w0 O X s1 cs' (a.put r.dst v) w'->K (a.put r.dst v) w'):r.wp P a w K Q:=by
 obtain⟨h1,R,ρ,C,A,hO,hX,B⟩:=N;have hM:qp r.op=false:=by rw[I];show Y6 c.callee=false;rw[l];rfl
 have hR:A7 r.op=false:=by
  obtain⟨callee,args,ad⟩:=c;simp only at l;subst l;rw[I];rfl
 have hD:iY P s.ev s.H r.op=none:=by
  obtain⟨callee,args,ad⟩:=c;simp only at l;subst l;rw[I];rfl
 unfold fo at h;simp only[hM,hR,hD,afq,if_false]at h;obtain⟨d,t,F,ae,n,L,ab⟩: ∃d t F,r.dst=some d/\dM P p o i d s.ev s.H r.op=some (t,F)/\(F≠[]->s.H d=[])/\s1=kq s d t F:=by
  grind [kq]
 subst ab;rw[I]at n;rcases hy with⟨f,rfl⟩|⟨k,rfl⟩
 ·simp only[dM,l]at n;rw[M]at n;split at n
  ·rename_i ac ts m E;injection m with m
   subst m;split at n
   ·rename_i Z;obtain⟨S,T,U,_⟩:=Z;injection n with n
    injection n with ht Y
    subst S;obtain⟨e1,V⟩:=co E;have z:=gY (w:=w) I l (e:=a.eval) rfl q.1;unfold Oper.wp;rw[z];simp only[Oper.upon];refine(DF h1 R C A hO hX B D q T U (vs:=c.args.map a.eval) (by simp[e1]) (fun g t0 u=>?_) ht Y L).mono ?_
    ·obtain⟨x,hx,G⟩:=V g t0 u;exact⟨a.eval x,by grind,bE A x t0 G⟩
    grind
   cases n
  cases n
 simp only[dM,l]at n;rw[M]at n;split at n
 ·rename_i f W ac ts aa m E;injection m with m
  subst m;split at n
  ·rename_i Z;obtain⟨S,T,U,_⟩:=Z;injection n with n
   injection n with ht Y
   subst S;obtain⟨e1,V⟩:=co E;obtain⟨us,k1,k2,k3⟩:=w8 (v:=a.eval (.tmp k)) (fun t0 u=>bE A (.tmp k) t0 u) aa;have z:=xQ (w:=w) I l (e:=a.eval) k1 q.1;unfold Oper.wp;rw[z];simp only[Oper.upon];refine(DF h1 R C A hO hX B D q T U (vs:=c.args.map a.eval++us) (by grind) (fun g t0 u=>?_) ht Y L).mono ?_
   ·by_cases hj:g<ts.length
    ·rw[aff hj]at u;obtain⟨x,hx,G⟩:=V g t0 u;exact⟨a.eval x,by grind,bE A x t0 G⟩
    grind
   grind
  cases n
 cases n
end
end
section
section
variable {P:Program} {b:Nat} {ty:TypeId} {cs cs':List PV} {Q:Exit->AS->List PV->Prop} {s:AS}
theorem mM {t:Func} {args:List TV} {res:CallRes} (O:P.funcs[h]?=some t) (M:t.body=some c) (S:callable P h=true) (g:fx P b ty c (fun e s k=>(e= .normal\/e= .ret)/\k=cs'/\ ∃I,bN s I/\qn P t res I) ⟨args++List.replicate (t.ntmps-args.length) .undef,fun _=>[]⟩ cs):CallT P b ty h args cs res cs':=by
 refine⟨S,fun X w vs L C u A n=>?_⟩;refine calls_of_wp O M ?_;have y:jl b ty w (fun j=>j=b) X ⟨args++List.replicate (t.ntmps-args.length) .undef,fun _=>[]⟩ cs {tmps:=vs++Array.replicate (t.ntmps-vs.size) undef,defers:=[]} w:=
  ⟨rfl,by simp[A],_,Dw L,It A n,rfl,C,u.weaken fun _ _ g=>P5 g⟩
 refine wp_mono (g _ _ _ _ _ y) fun e K Z ⟨s1,k,⟨N,R,W,V,r,a0,z,p,x,T⟩,o⟩=>?_
 subst R;obtain⟨H,U,ρ,m,q,_,_,l⟩:=o.weak V;have q:bz X ρ W K Z:=q;obtain⟨v,J,Y⟩:=gU m q z;obtain⟨B,E,F,G⟩:=Pf m Y p x T;rcases N with rfl|rfl
 ·exact⟨H,v,J,v,rfl,B,E,F,l.weaken fun j _ D=>G j D⟩
 exact⟨H,v,J,v,rfl,B,E,F,l.weaken fun j _ D=>G j D⟩
/-! Regions. -/
theorem Le {e c:List (dD P)} {i d:Nat} {ev:Operand->Option TV} {op:Op} (h:e.find? (·.i==i)=c.find? (·.i==i)):dM P e o i d ev u op=dM P c o i d ev u op:=by
 cases op<;>simp only[dM,h]
theorem CS {f c:List (dD P)} {g:Array Oper} {i:Nat} (h:f.find? (·.i==i)=c.find? (·.i==i)):bs P f o g i r s=bs P c o g i r s:=by
 have e:fo P f o i r s=fo P c o i r s:=by
  grind [fo,Le]
 simp_all[bs]
def gR (e:Array Oper) (m:Nat):Bool:=match e[m]? with
 |some o=>o.guard.isNone&&(match o.op with
  | .call c=>(match c.callee with
   | .value (.func _)=>true
   | .value (.tmp _)=>true
   |_=>false)
  |_=>false)
 |none=>false
theorem IT {e:Array Oper} (h:gR e p=true) (g:e[p]?=some r):r.guard=none/\ ∃c y,r.op= .call c/\c.callee= .value y/\((∃f,y= .func f)\/ ∃k,y= .tmp k):=by
 unfold gR at h;rw[g]at h;simp only[afb]at h;obtain⟨j,l⟩:=h;refine⟨by simp_all,?_⟩;grind
theorem Lq {c:List (ar P)} {e:dD P} {i:Nat} (h:i≠e.i):(c.map ar.a++[e]).find? (·.i==i)=(c.map ar.a).find? (·.i==i):=by
 grind
theorem QT {e:List (ar P)} {f:dD P} (h:e.all (fun c=>c.i !=f.i)=true):(e.map ar.a++[f]).find? (·.i==f.i)=some f:=by
 grind [ar.a]
theorem xW {X:Nat->Prop} {a:Act} (e:List (ar P)) (j:dD P) {l:Array Oper} {i:Nat} (E:l[i]?=some r) (D:gR l j.i=true) (C:e.all (fun c=>c.i !=j.i)=true) (u:lentOk j.args j.res cs'=true) (q:CallT P b ty j.f j.args cs j.res cs') {x:List PV} (F:i=j.i->x=cs) {y:AS} (m:jl b ty w g X s x a W) (h:bs P (e.map ar.a++[j]) o l i r s=some y) {K:Act->World->Prop} {Q:Exit->Act->World->Prop} (p: ∀v n,jl b ty w g X y (if i=j.i then cs' else x) (a.put r.dst v) n->K (a.put r.dst v) n):if Region.wanted r (yielded l a.tmps)then r.wp P a W K Q else K (a.put r.dst undef) W:=by
 by_cases t:i=j.i
 ·grind [IT,Region.wanted,bs,Ze,QT]
 rw[CS (Lq t)]at h;obtain⟨Own,A,B⟩:=m.rebase;simp only[if_neg t]at p;exact jA (ar.ok e) A h fun v n z=>p v n (B _ _ _ z)
theorem xP {w0:World} {O X:Nat->Prop} (g:List (ar P)) (m:dD P) {H:List Nat} {n:Array Oper} (C:gR n m.i=true) (B:g.all (fun c=>c.i !=m.i)=true) (q:lentOk m.args m.res cs'=true) (p:CallT P b ty m.f m.args cs m.res cs') {Q:Exit->Act->World->Prop}:
  ∀(l:List Oper) (k:Nat) (s t:AS) (a:Act) (w:World),(∀(j:Nat) o,l[j]?=some o->n[k+j]?=some o)->ja P (g.map ar.a++[m]) H n (l.zipIdx k) s=some t->jl b ty w0 O X s (if k<=m.i then cs else cs') a w->
   (∀y u,jl b ty w0 O X t (if k+l.length<=m.i then cs else cs') y u->Q .normal y u)->wpOps P n Q (List.range' k l.length) a w
 |[],k,s,t,a,w,_,h,r,z=>by
  simp only[ag8,ja]at h;injection h with h
  subst h;exact z a w r
 |o::l,k,s,t,a,w,D,h,r,z=>by
  simp only[agt,ja]at h;split at h
  ·rename_i I A;simp only[ae6,afj,wpOps];have E:n[k]?=some o:=by have:=D 0 o rfl;omega
   rw[E];simp only;have:=xW (Q:=Q) g m E C B q p (x:=if k<=m.i then cs else cs') (fun L=>if_pos (by omega)) r A (K:=wpOps P n Q (List.range' (k+1) l.length)) (fun v u F=>xP g m C B q p l (k+1) I t _ _ (fun j o J=>by have:=D (j+1) o (by grind);grind) h (by
    have e:(if k=m.i then cs' else if k<=m.i then cs else cs')=if k+1<=m.i then cs else cs':=by
     grind
    rw[e]at F;exact F) (fun y u G=>z y u (by grind)))
   grind
  cases h
theorem Di (m:Nat) {args:List TV} {res:CallRes} (q:CallT P b ty h args cs res cs') (n:List (ar P)) (x:List Nat) {id:Nat} {l:Array Oper} (C:gR l m=true) (B:n.all (fun c=>c.i !=m)=true) (t:lentOk args res cs'=true) (g:bM P (n.map ar.a++[⟨m,h,args,res⟩]) x (aV l l.toList 0) (some s) (fun p=>Q .normal p cs')):fx P b ty (.region id l false) Q s cs:=fun u O X a w r=>by
 obtain⟨p,z,A⟩:=aO P _ x l l.toList 0 s _ g;refine wp_region ?_;rw[afi];have E:m<l.size:=by
  grind [gR]
 have:=xP (w0:=u) (O:=O) (X:=X) n ⟨m,h,args,res⟩ C B t q (Q:=fun e v y=> ∃p k,Q e p k/\jl b ty u O X p k v y) l.toList 0 s p a w (fun j o D=>by grind) z (by grind) (fun v y F=>⟨p,cs',A,by
  grind⟩)
 omega
theorem Dh (B:P.follows .mixedOrders=true) (m:Nat) {args:List TV} {res:CallRes} (t:CallT P b ty h args cs res cs') (n:List (ar P)) (E:List Nat) {id:Nat} {l:Array Oper} (I:cz [] l=true) (W:gR l m=true) (U:n.all (fun c=>c.i !=m)=true) (y:lentOk args res cs'=true) (g:bM P (n.map ar.a++[⟨m,h,args,res⟩]) E (aV l l.toList 0) (some s) (fun A=>Q .normal A cs')):fx P b ty (.region id l true) Q s cs:=fun G O X a w r=>by
 obtain⟨L,h1,T⟩:=aO P _ E l l.toList 0 s _ g;have hm:m<l.size:=by
  grind [gR]
 refine wp_region_any B ?_;have z:dS P (n.map ar.a++[⟨m,h,args,res⟩]) E l (List.range l.size) s=some L:=by
  grind [List.range_eq_range',jb]
 have D:jl b ty G O X s cs a {w with drawn:=w.drawn+1}:=by
  obtain⟨Own,R,S⟩:=r.rebase;obtain⟨q1,q2,M,u,q⟩:=R;have e:fm w {w with drawn:=w.drawn+1}:=⟨rfl,rfl,rfl,aeJ _,fun _ _=>rfl⟩;have q:bz X M s a w:=q;exact S _ _ _ ⟨q1,q2,M,u.grow e,q.grow e⟩
 refine tG (sep:=[]) (oE I (by simp)) I (Q:=fun e N F=> ∃A k,Q e A k/\jl b ty G O X A k N F) (fun p s a w=>jl b ty G O X s (if p m then cs' else cs) a w) ⟨gL r.rel,fun x hx=>by simp at hx⟩ z (fun p a w H J=>⟨L,cs',T,by
  grind⟩) (fun p i o s s1 a w K C Y _ Z J V=>?_) l.size (Array.replicate l.size false) s a _ (by simp) ?_ ?_ ?_ ?_
 ·refine xW n ⟨m,h,args,res⟩ C W U y t (x:=if p m then cs' else cs) (fun hi=>?_) J Z (fun v F D=>V v F ?_)
  ·grind
  grind [fc]
 ·intro j o C hp;have hj:j<l.size:=(ae4.1 C).1;simp_all
 ·grind
 ·have:oX l.size (fun j=>(Array.replicate l.size false).getD j true)=[]:=by
   simp_all[oX]
  rw[this];rfl
 simp_all
theorem rU (m:Nat) {args:List TV} {res:CallRes} (n:CallT P b ty h args cs res cs') (j:List (ar P)) (p:List Nat) {id:Nat} {l:Array Oper} (t:gR l m=true) (r:j.all (fun e=>e.i !=m)=true) (o:lentOk args res cs'=true) (g: ∀K:AS->Prop,(∀q,fx P b ty c Q q cs'->K q)->bM P (j.map ar.a++[⟨m,h,args,res⟩]) p (aV l l.toList 0) (some s) K):fx P b ty (.seq (.region id l false) c) Q s cs:=
 ck (Di m n j p t r o (g _ fun _ g=>g))
theorem jI (m:Nat) {args:List TV} {res:CallRes} (l:CallT P b ty h args cs res cs') (g:List (ar P)) (o:List Nat) {id:Nat} {j:Array Oper} (r:gR j m=true) (q:g.all (fun c=>c.i !=m)=true) (n:lentOk args res cs'=true) (e: ∀K:AS->Prop,(∀p,Q .normal p cs'->K p)->bM P (g.map ar.a++[⟨m,h,args,res⟩]) o (aV j j.toList 0) (some s) K):fx P b ty (.region id j false) Q s cs:=
 Di m l g o r q n (e _ fun _ e=>e)
theorem KH (p:P.follows .mixedOrders=true) (m:Nat) {args:List TV} {res:CallRes} (n:CallT P b ty h args cs res cs') (j:List (ar P)) (q:List Nat) {id:Nat} {l:Array Oper} (v:cz [] l=true) (u:gR l m=true) (t:j.all (fun e=>e.i !=m)=true) (o:lentOk args res cs'=true) (g: ∀K:AS->Prop,(∀r,fx P b ty c Q r cs'->K r)->bM P (j.map ar.a++[⟨m,h,args,res⟩]) q (aV l l.toList 0) (some s) K):fx P b ty (.seq (.region id l true) c) Q s cs:=
 ck (Dh p m n j q v u t o (g _ fun _ g=>g))
theorem mK (o:P.follows .mixedOrders=true) (m:Nat) {args:List TV} {res:CallRes} (l:CallT P b ty h args cs res cs') (g:List (ar P)) (p:List Nat) {id:Nat} {j:Array Oper} (u:cz [] j=true) (t:gR j m=true) (r:g.all (fun c=>c.i !=m)=true) (n:lentOk args res cs'=true) (e: ∀K:AS->Prop,(∀q,Q .normal q cs'->K q)->bM P (g.map ar.a++[⟨m,h,args,res⟩]) p (aV j j.toList 0) (some s) K):fx P b ty (.region id j true) Q s cs:=
 Dh o m l g p u t r n (e _ fun _ e=>e)
end
/-! A box of one's own is lent. -/
def qz (d b:Nat):AV->AV
 | .sl x r c len=>if x=d then .junk else .sl x r c len
 | .ptr x r i j=>if x=d then(if r=0/\i=0/\j=0 then .raw (.pointer (some ⟨b,0,none⟩))else .junk)else .ptr x r i j
 | .fn f x e=>if x=d then .junk else .fn f x e
 |x=>x
theorem Vp (d b:Nat):s8 (qz d b):=fun f x e=>by
 by_cases h:x=d
 ·exact .inl (if_pos h)
 exact .inr ⟨x,e,if_neg h,rfl,fun n q c=>⟨q,c,if_neg h⟩⟩
def yT (d b:Nat):TV->TV
 | .one x=> .one (qz d b x)
 | .agg c=> .agg (c.map (qz d b))
 | .fn f c=> .fn f (c.map (qz d b))
 | .tup e=> .tup (e.map fun t=>(t.1,t.2.map (qz d b)))
theorem Bi {a:Act} (d:Nat) (hd:s.H d=[⟨q,m.length,[m.map AV.p]⟩]) (r:dP w f g s a W):
  ∃b,(w.heap.size<=b\/f b)/\ ¬g b/\jl b q w (fun j=>f j\/j=b) (fun j=>g j\/j=b) ⟨s.tmps.map (yT d b),aK s.H d []⟩ m a W:=by
 obtain⟨h1,ab,J,A,N⟩:=r;have N:bz g J s a W:=N;have D:(s.H d)[0]?=some ⟨q,m.length,[m.map AV.p]⟩:=by rw[hd];rfl
 obtain⟨z1,z2,z3⟩:=A.objs d 0 _ D;cases I:J d 0 with
 |none=>grind
 |some bc=>
  obtain⟨b,n⟩:=bc;rw[I]at z3;obtain⟨cells,p1,p2,p3,p4,p5⟩:=z3;have Y:=A.old d 0 _ b n D I;have F: ∀(x y:Nat) o,(aK s.H d [] x)[y]?=some o->x≠d/\(s.H x)[y]?=some o:=fun x y o L=>by
   grind [be,aU]
  have R: ∀j,Xo (fun j=>g j\/j=b) J (aK s.H d []) j->Xo g J s.H j:=fun j E=>by
   rcases E with(E|rfl)|⟨x,y,o,n',Q,C⟩
   ·exact .inl E
   ·exact .inr ⟨d,0,_,n,D,I⟩
   exact .inr ⟨x,y,o,n',(F x y o Q).2,C⟩
  have K: ∀x v,AV.rel J s.H (Xo g J s.H) W x v->AV.rel J (aK s.H d []) (Xo (fun j=>g j\/j=b) J (aK s.H d [])) W (qz d b x) v:=kW (Vp d b) fun x v T M=>by
   cases x with
   |fn=>cases T
   |p x=>exact bS.weaken (fun j _ E=>R j E) M
   |sl x r ac len=>
    simp only[qz];split
    ·trivial
    rename_i G;obtain⟨o,Q,C⟩:=M;exact⟨o,by grind [aU],C⟩
   |ptr x r i j=>
    simp only[qz];split
    ·rename_i G;subst G;split
     ·rename_i hc;obtain⟨rfl,rfl,rfl⟩:=hc;obtain⟨o,V,S,Q,C,g3,g4⟩:=M;rw[I]at C;injection C with C
      injection C with C aa
      subst C;rw[g4];simp only[ahO,ago];exact bS.raw _ rfl
     trivial
    rename_i G;obtain⟨o,V,S,Q,C⟩:=M;exact⟨o,V,S,by grind [aU],C⟩
   |junk=>trivial
  have Z:jl b q w (fun j=>f j\/j=b) (fun j=>g j\/j=b) ⟨s.tmps.map (yT d b),aK s.H d []⟩ m a W:=by
   refine⟨h1,by grind,J,⟨⟨A.keep.os,A.keep.tape,A.keep.output,A.keep.size,fun k hk T=>A.keep.block k hk (fun h=>T (.inl h))⟩,fun x y o L=>?_,fun x y x' y' o o' j c S L B=>A.inj x y x' y' o o' j c S (F x y o L).2 (F x' y' o' B).2,fun x y o j c L E=>?_,fun j E=>?_,fun x y o L=>A.self x y o (F x y o L).2⟩,fun t x M=>?_,.inr rfl,.inr rfl,?_⟩
   ·obtain⟨G,B⟩:=F x y o L;refine dV (A.objs x y o B) rfl (fun _ _ _=>rfl) fun e he z hz u u3=>?_
    have P:=A.self x y o B e he z hz;have:=K z u u3;cases z with
    |sl z _ _ _=>have P:z=x:=P;grind [qz]
    |ptr z _ _ _=>have P:z=x:=P;grind [qz]
    |fn _ z _=>have P:z=x:=P.1;grind [qz]
    |p z=>exact this
    |junk=>trivial
   ·obtain⟨G,B⟩:=F x y o L;obtain⟨Q,C⟩:=A.old x y o j c B E;refine⟨?_,?_⟩
    ·grind
    rintro(l|rfl)
    ·exact C l
    exact G (A.inj x y d 0 o _ j c n B D E I).1
   ·rcases E with E|rfl
    ·exact A.bar j E
    grind
   ·simp only[aeG]at M;obtain⟨y,hy,rfl⟩:=adT.1 M;obtain⟨v,v1,U⟩:=N t y hy;refine⟨v,v1,?_⟩;have:=jK U K;cases y<;>exact this
   refine⟨cells,n,p1,p2,by omega,p4,z2,fun j x M=>?_⟩;obtain⟨v,v1,U,v3⟩:=p5 0 (m.map AV.p) j (.p x) rfl (by grind);exact⟨v,by grind,U,bS.weaken (fun j _ E=>R j E) v3⟩
  grind
theorem Tl {P:Program} (d:Nat) {cs:List PV} (L:s.H d=[⟨q,cs.length,[cs.map AV.p]⟩]) (h: ∀b,fx P b q c (fun e m _=>n e m) ⟨s.tmps.map (yT d b),aK s.H d []⟩ cs):bv P c n s:=fun w0 O X a w r=>by
 obtain⟨b,J,K,A⟩:=Bi d L r;refine wp_mono (h b _ _ _ _ _ A) fun e G F ⟨m,I,R,S⟩=>⟨m,R,?_⟩
 obtain⟨T,E,g,f,u,_,_,_⟩:=S;have u:bz (fun j=>X j\/j=b) g m G F:=u;have D: ∀j,Xo X g m.H j->Xo (fun j=>X j\/j=b) g m.H j:=fun j l=>by
  rcases l with l|l
  ·exact .inl (.inl l)
  exact .inr l
 have B: ∀x v,AV.rel g m.H (Xo (fun j=>X j\/j=b) g m.H) F x v->AV.rel g m.H (Xo X g m.H) F x v:=fun x v z=>by
  cases x with
  |p x=>exact bS.weaken (fun j _ l=>D j l) z
  |sl x r U len=>exact z
  |ptr x r i j=>exact z
  |fn=>exact z
  |junk=>trivial
 refine⟨T,E,g,⟨⟨f.keep.os,f.keep.tape,f.keep.output,f.keep.size,fun k M Z=>?_⟩,fun x y o C=>gt (f.objs x y o C) rfl (fun _ _ _=>rfl) B,f.inj,fun x y o j c C l=>?_,fun j l=>f.bar j (.inl l),f.self⟩,fun t x z=>?_⟩
 ·by_cases N:k=b
  ·grind
  exact f.keep.block k M (fun Y=>by
   grind)
 ·obtain⟨V,W⟩:=f.old x y o j c C l;grind
 obtain⟨v,v1,v2⟩:=u t x z;grind [TV.rel_map]
end
end Go.Proofs.YtalmoejhjceflaaGreat
