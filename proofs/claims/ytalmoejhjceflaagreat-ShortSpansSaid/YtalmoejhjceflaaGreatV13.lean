/-
  Part 14 of a proof (walks and plain facts).
-/
import Derived.Test.YtalmoejhjceflaaGreatV12
import Derived.Shelf.Small.Bits
import Derived.Ground.NamesProg
import Derived.Test.YtalmoejhjceflaaGreatProg
import Derived.Shelf.SlSortCmp.WholeK
set_option linter.all false
set_option maxRecDepth 100000
set_option maxHeartbeats 64000000
namespace Go.Proofs.YtalmoejhjceflaaGreat
open Go.RowKit Go.Proofs.Tryz
variable {b:Array Oper} {c e:Code} {n m j:Nat} {f g:List OObj} {h l:OObj} {o:FuncId} {p:List Nat} {q:List Int} {r:TV} {P:Program} {s:AS} {t:Exit->AS->Prop} {u:Int×List Int} {v:Operand} {x:Int} {w:Value}
section
section
variable {P:Program} {γ:Type} {L:iz γ} {g g':γ} {w0 w w':World} {O X Y:Nat->Prop} {s s':AS} {a:Act} {ks:List Nat} {vf:Nat->Option Value}
def jy (L:iz γ) (ks:List Nat) (vf:Nat->Option Value) (Y:Nat->Prop) (w0:World) (O X:Nat->Prop) (g:γ) (s:AS) (a:Act) (w:World):Prop:=ik L Y w0 O X g s a w/\ ∀k∈ks,a.tmps[k]?=vf k
theorem eP:yc ks (jy L ks vf Y w0 O X g):=fun s a w ⟨h,n⟩=>by
 obtain⟨o,c,f,l,m⟩:=t8 s a w h;exact⟨o,c,f,l,fun s' j w' e r=>⟨m s' j w' r,fun k b=>(e k b).trans (n k b)⟩⟩
theorem rJ (t:cY ks b=true) {f:AS} (h:yO P b n (ik L Y w0 O X g s) (ik L Y w0 O X g' f)):yO P b n (jy L ks vf Y w0 O X g s) (jy L ks vf Y w0 O X g' f):=by
 obtain⟨o,e,q,u⟩:=h;exact⟨o,e,q,fun a w K Q ⟨j,l⟩ p=>u a w K Q j fun v w' r=>p v w' ⟨r,fun k c=>(i6 t e v k c).trans (l k c)⟩⟩
def eF (P:Program) (L:iz γ) (ks:List Nat) (c:Code) (Q:Exit->AS->γ->Prop) (s:AS) (g:γ):Prop:=
 ∀(vf:Nat->Option Value) (Y:Nat->Prop) (w0:World) (O X:Nat->Prop) (a:Act) (w:World),jy L ks vf Y w0 O X g s a w->c.wp P (fun e b w'=> ∃s' g',Q e s' g'/\jy L ks vf Y w0 O X g' s' b w') a w
variable {Q:Exit->AS->γ->Prop}
theorem jy.weak (h:bN s s') (r:jy L ks vf Y w0 O X g s a w):jy L ks vf Y w0 O X g s' a w:=⟨r.1.weak h,r.2⟩
theorem eF.weak (h:bN s s') (q:eF P L ks c Q s' g):eF P L ks c Q s g:=fun _ _ _ _ _ _ _ r=>q _ _ _ _ _ _ _ (r.weak h)
theorem cb (h:Q .normal s g):eF P L ks .skip Q s g:=fun _ _ _ _ _ _ _ r=>wp_skip ⟨s,g,h,r⟩
theorem gV {id:Nat} (h:Q (.exit id) s g):eF P L ks (.exit id) Q s g:=fun _ _ _ _ _ _ _ r=>wp_exit ⟨s,g,h,r⟩
theorem dX (h:Q .ret s g):eF P L ks .ret Q s g:=fun _ _ _ _ _ _ _ r=>wp_ret ⟨s,g,h,r⟩
theorem aR (h:eF P L ks c (wC (eF P L ks e Q) Q) s g):eF P L ks (.seq c e) Q s g:=fun _ _ _ _ _ _ _ r=>
 wp_seq (wp_mono (h _ _ _ _ _ _ _ r) fun b a w ⟨s',g',f,j⟩=>by
  cases b with
  |normal=>exact f _ _ _ _ _ _ _ j
  |_=>exact⟨s',g',f,j⟩)
theorem cQ {id:Nat} (h:eF P L ks c (KQ id Q) s g):eF P L ks (.block id c) Q s g:=fun _ _ _ _ _ _ _ r=>
 wp_block (wp_mono (h _ _ _ _ _ _ _ r) fun e a w ⟨s',g',b,f⟩=>by
  cases e with
  |exit j=>
   grind [KQ,Exit.inBlock]
  |_=>exact⟨s',g',b,f⟩)
theorem Hi {b:Bool} (m:s.ev v=some (.raw (.bool b))) (p:b=true->eF P L ks c Q s g) (n:b=false->eF P L ks e Q s g):eF P L ks (.cond v c e) Q s g:=fun _ _ _ _ _ _ _ r=>by
 obtain⟨q,o,t,j,f⟩:=id r.1.1;have l:=(bo (bE f v _ m)).1;exact wp_cond_split l (fun h=>p h _ _ _ _ _ _ _ r) (fun h=>n h _ _ _ _ _ _ _ r)
theorem d8 (b:s.ev v=some (.raw (.bool true))) (h:eF P L ks c Q s g):eF P L ks (.cond v c e) Q s g:=Hi b (fun _=>h) (fun h=>by cases h)
theorem dO (b:s.ev v=some (.raw (.bool false))) (h:eF P L ks e Q s g):eF P L ks (.cond v c e) Q s g:=Hi b (fun h=>by cases h) (fun _=>h)
theorem nT (b:s.ev v=some (.raw (.bool true))) (h:eF P L ks e Q s g):eF P L ks (.seq (.cond v .skip c) e) Q s g:=aR (d8 b (cb h))
theorem po {id:Nat} (b:s.ev v=some (.raw (.bool false))) (h:Q (.exit id) s g):eF P L ks (.seq (.cond v c (.exit id)) e) Q s g:=aR (dO b (gV h))
theorem Tq {G:Type} (St:G->AS) (Sc:G->γ) (f:G->Nat) (b:G) (t:bN s (St b)) (j:Sc b=g) (round: ∀i,eF P L ks c (wC (fun s' g'=> ∃o,f o<f i/\bN s' (St o)/\Sc o=g') Q) (St i) (Sc i)):eF P L ks (.loop c) Q s g:=fun vf Y w0 O X a w r=>by
 subst j;refine wp_loop_ghost (fun n a w=> ∃g,f g=n/\jy L ks vf Y w0 O X (Sc g) (St g) a w) (f b) ⟨b,rfl,r.weak t⟩ fun n a w ⟨g,u,v⟩=>?_
 refine wp_mono (round g _ _ _ _ _ _ _ v) fun e y w' ⟨s',h,p,q⟩=>?_
 cases e with
 |normal=>
  obtain⟨g',m,x,l⟩:=p;subst l;exact⟨_,u▸m,g',rfl,q.weak x⟩
 |_=>exact⟨s',h,p,q⟩
theorem dT {G:Type} (St:G->AS) (Sc:G->γ) (h:G->Nat) (b:G) {id:Nat} (j:bN s (St b)) (e:Sc b=g) (round: ∀i,eF P L ks c (wC (fun s' g'=> ∃f,h f<h i/\bN s' (St f)/\Sc f=g') (KQ id Q)) (St i) (Sc i)):eF P L ks (.block id (.loop c)) Q s g:=
 cQ (Tq St Sc h b j e round)
theorem NL (c:List (ar P)) (l:List Nat) {id:Nat} (q:cY ks b=true) (h:bM P (c.map ar.a) l (aV b b.toList 0) (some s) (fun s=>Q .normal s g)):eF P L ks (.region id b false) Q s g:=fun vf Y w0 O X a w r=>by
 obtain⟨s',m,p⟩:=aO P (c.map ar.a) l b b.toList 0 s _ h;obtain⟨y,Oa,Xa,v,t⟩:=eP s a w r;refine(wpIn_wide (n:=0)).1 (wpIn_region (F:=FW none) ?_);have:=qc (n:=0) (suf:=[]) (Q:=fun e f w'=> ∃s' g',Q e s' g'/\jy L ks vf Y w0 O X g' s' f w') q b.toList 0 s s' a w (fun j o x=>by grind) m v (fun f w' e u=>⟨s',g,p,t _ _ _ e u⟩);grind [List.range_eq_range']
theorem ox (e:List (ar P)) (f:List Nat) {id:Nat} (j:cY ks b=true) (h: ∀K:AS->Prop,(∀s',eF P L ks c Q s' g->K s')->bM P (e.map ar.a) f (aV b b.toList 0) (some s) K):eF P L ks (.seq (.region id b false) c) Q s g:=
 aR (NL e f j (h _ fun _ h=>h))
theorem Hl (c:List (ar P)) (e:List Nat) {id:Nat} (f:cY ks b=true) (h: ∀K:AS->Prop,(∀s',Q .normal s' g->K s')->bM P (c.map ar.a) e (aV b b.toList 0) (some s) K):eF P L ks (.region id b false) Q s g:=
 NL c e f (h _ fun _ h=>h)
theorem wW {id:Nat} (e:cY ks b=true) (h: ∀K:AS->Prop,(∀s',eF P L ks c Q s' g->K s')->bM P [] [] (aV b b.toList 0) (some s) K):eF P L ks (.seq (.region id b false) c) Q s g:=ox [] [] e h
theorem wV {id:Nat} (c:cY ks b=true) (h: ∀K:AS->Prop,(∀s',Q .normal s' g->K s')->bM P [] [] (aV b b.toList 0) (some s) K):eF P L ks (.region id b false) Q s g:=Hl [] [] c h
theorem Hn (m:Nat) {args:List Value} {c:Bool} (x:wY P L n args g g' c) (e:List (ar P)) (j:List Nat) {id:Nat} (o:cY ks b=true) (v:m<b.toList.length) (h: ∀K:AS->Prop,(∀f,(yTs b m f=some (n,args)/\ ∀K:AS->Prop,(∀s',Q .normal s' g'->K s')->bM P (e.map ar.a) j (aV b (b.toList.drop (m+1)) (m+1)) (some (yS b m c f)) K)->K f)->bM P (e.map ar.a) j (aV b (b.toList.take m) 0) (some s) K):eF P L ks (.region id b false) Q s g:=fun vf Y w0 O X a w B=>by
 obtain⟨f,p,q,r⟩:=aO P (e.map ar.a) j b _ 0 s _ (h (fun f=>yTs b m f=some (n,args)/\bM P (e.map ar.a) j (aV b (b.toList.drop (m+1)) (m+1)) (some (yS b m c f)) (fun s=>Q .normal s g')) fun f ⟨y,z⟩=>⟨y,z _ fun _ h=>h⟩);obtain⟨s',t,u⟩:=aO P (e.map ar.a) j b _ (m+1) _ _ r;exact rO (R1:=jy L ks vf Y w0 O X g) (R2:=jy L ks vf Y w0 O X g') eP eP m e j o v p (rJ o (Co x q)) t B fun C w' A=>⟨s',g',u,A⟩
/-! Row 0 stays where it lies. -/
def oJ (b:Nat) (h:List Nat):AV->AV
 | .sl x r c len=>if x=b then .junk else .sl x r c len
 | .ptr x r i j=>if x=b then(if h.contains r=true then .ptr x r i j else .junk)else .ptr x r i j
 | .fn f x e=>if x=b then .junk else .fn f x e
 |x=>x
theorem Vo (c:Nat) (l:List Nat):s8 (oJ c l):=fun f b j=>by
 by_cases h:b=c
 ·exact .inl (if_pos h)
 exact .inr ⟨b,j,if_neg h,rfl,fun n q e=>⟨q,e,if_neg h⟩⟩
def qy (b:Nat) (c:List Nat):TV->TV
 | .one x=> .one (oJ b c x)
 | .agg e=> .agg (e.map (oJ b c))
 | .fn f e=> .fn f (e.map (oJ b c))
 | .tup h=> .tup (h.map fun t=>(t.1,t.2.map (oJ b c)))
theorem U6 {f b:Rho} {H c:OH} {Y e:Nat->Prop} {v:Value} (h:r.rel f H Y w v) (j: ∀x v,x.rel f H Y w v->AV.rel b c e w' (oJ n p x) v):(qy n p r).rel b c e w' v:=by
 have:=jK h j;cases r<;>exact this
structure lZ (P:Program) (L:iz γ) (rs:List Nat) (f:FuncId) (args:List TV) (F F':List OObj) (g g':γ) (r:TV):Prop where
 able:callable P f=true
 sA: ∀t∈args,selfTV 0 t
 sR:selfTV 0 r
 sF: ∀o∈F,selfO 0 o
 sF': ∀o∈F',selfO 0 o
 sh: ∀r∈rs,∀o,F[r]?=some o-> ∃o',F'[r]?=some o'/\o'.es=o.es/\o.elems.length<=o'.elems.length
 calls: ∀(X Y:Nat->Prop) (w:World) (vs:Array Value) (ρ:Rho),Inv w (fun j=>famB F ρ j\/L.B j) X (famH 0 F) ρ w->(∀j,L.B j->X j)->(∀j,(famB F ρ j\/L.B j)\/w.heap.size<=j->Y j)->L.G g Y w->vs.size=args.length->
  (∀(j:Nat) t,args[j]?=some t-> ∃v:Value,vs[j]?=some v/\t.rel ρ (famH 0 F) (Xo X ρ (famH 0 F)) w v)->
  Calls P f vs w fun e w'=> ∃v,e= .returned v/\ ∃ρ':Rho,Inv w (fun j=>famB F ρ j\/L.B j) X (famH 0 F') ρ' w'/\L.G g' Y w'/\r.rel ρ' (famH 0 F') (Xo X ρ' (famH 0 F')) w' v/\ ∀r∈rs,∀b c,ρ 0 r=some (b,c)-> ∃c',ρ' 0 r=some (b,c')
theorem lZ.toL {args:List TV} {c:List OObj} (h:lZ P L p o args f c g g' r):uC P L o args f c g g' r:=
 ⟨h.able,h.sA,h.sR,h.sF,h.sF',fun X Y w vs z e j l m n q=>(h.calls X Y w vs z e j l m n q).mono fun _ _ ⟨v,t,b,u,x,y,_⟩=>⟨v,t,b,u,x,y⟩⟩
theorem qQ {z:Func} {args:List TV} {K:List OObj} (hf:P.funcs[o]?=some z) (hb:z.body=some c) (hn:callable P o=true) (E:List (Nat×Nat)) (ha: ∀p∈E,args[p.2]?=some (.one (.ptr 0 p.1 0 0))) (sA: ∀t∈args,selfTV 0 t) (sR:selfTV 0 r) (sF: ∀l∈f,selfO 0 l) (sF': ∀l∈K,selfO 0 l) (sh: ∀r∈E.map Prod.fst,∀l,f[r]?=some l-> ∃T,K[r]?=some T/\T.es=l.es/\l.elems.length<=T.elems.length) (h:eF P L (E.map Prod.snd) c (fun e s k=>(e= .normal\/e= .ret)/\k=g'/\ ∃s',bN s s'/\abB P z K r s'/\ ∀p∈E,s'.tmps[p.2]?=some (.one (.ptr 0 p.1 0 0))) ⟨args++List.replicate (z.ntmps-args.length) .undef,famH 0 f⟩ g):lZ P L (E.map Prod.fst) o args f K g g' r:=by
 refine⟨hn,sA,sR,sF,sF',sh,fun X Y w vs V C hB hY hG J n=>?_⟩;refine calls_of_wp hf hb ?_;have I:dP w (fun j=>famB f V j\/L.B j) X ⟨args++List.replicate (z.ntmps-args.length) .undef,famH 0 f⟩ {tmps:=vs++Array.replicate (z.ntmps-vs.size) undef,defers:=[]} w:=⟨rfl,by simp[J],V,C,r6 J n⟩;refine wp_mono (h (fun k=>(vs++Array.replicate (z.ntmps-vs.size) undef)[k]?) Y _ _ _ _ _ ⟨⟨I,fun j Z=>⟨.inr Z,hB j Z⟩,hY,hG⟩,fun _ _=>rfl⟩) fun e a' w' ⟨s1,k,⟨N,hk,s2,hw,⟨A,M⟩,R⟩,⟨D,_,_,G⟩,ad⟩=>?_
 subst hk;obtain⟨W,ac,y,m,x⟩:=hw _ _ _ _ _ D;have x:bz X y s2 a' w':=x;rw[A]at m;obtain⟨v,v1,U⟩:=gU (by rw[A];exact m) x M;rw[A]at U;have H: ∀q∈E.map Prod.fst,∀b c,V 0 q=some (b,c)-> ∃c',y 0 q=some (b,c'):=fun q hq b c ab=>by
  obtain⟨p,hp,rfl⟩:=aeL.1 hq;obtain⟨u0,S,o0,b0,c0,y1,y2,y3,y4⟩:=n p.2 _ (ha p hp);have aa:p.2<vs.size:=(ae4.1 S).1;obtain⟨u,u1,o1,b1,c1,z1,z2,z3,z4⟩:=x p.2 _ (R p hp);grind
 rcases N with rfl|rfl
 ·exact⟨W,v,v1,v,rfl,y,m,G,U,H⟩
 exact⟨W,v,v1,v,rfl,y,m,G,U,H⟩
def CO (c:Array Oper) (m:Nat) (r:TV) (b:Nat) (f:List Nat) (e:List OObj) (s:AS):AS:=AS.put ⟨s.tmps.map (qy b f),aK s.H b (e.map (renO b))⟩ (cwD c m) (renTV b r)
theorem Cp {args:List TV} {T:List OObj} {I:List Nat} (m:lZ P L I o args f T g g' r) (W:n<=4999) {l:Oper} {C:AS} (ac:cfTs l C=some (o,args.map (renTV n))) (D:C.H n=f.map (renO n)):
  CR P l (ik L Y w0 O X g C) (ik L Y w0 O X g' (AS.put ⟨C.tmps.map (qy n I),aK C.H n (T.map (renO n))⟩ l.dst (renTV n r))):=fun a w K Q ⟨⟨h1,ab,ρ,q,A⟩,hB,hY,hG⟩ hK=>by
 have A:bz X ρ C a w:=A;obtain⟨X1,R,g1,g2,g3,gF,g5,g6⟩:=Dy (B:=L.B) h1 ab q A hB m.sR m.sF m.sF' W D;refine lj (.inl rfl) ?_;obtain⟨vs,M,ad,E⟩:=EU ac A m.able;unfold Oper.wp;rw[M];simp only[Oper.upon];have V: ∀j,(famB f R j\/L.B j)\/w.heap.size<=j->Y j:=fun j J=>hY j (by
  rcases J with(J|J)|J
  ·obtain⟨y,l,c,k1,k2⟩:=gF j J;exact(q.old n y l j c k1 k2).1.symm
  ·grind
  exact .inr (aeN q.keep.size J))
 refine(m.calls X1 Y w vs R g1 g2 V hG (by simpa using ad) fun j t ht=>?_).mono ?_
 ·obtain⟨v,v1,v2⟩:=E j (renTV n t) (by simp[ht]);exact⟨v,v1,g3 t v (m.sA t (adQ ht)) v2⟩
 rintro e w1 ⟨v,rfl,ae,hi,U,aa,Z⟩;obtain⟨S,q0,q1,q2,q3⟩:=g6 v w1 ae hi aa;have N:bz X S ⟨C.tmps.map (qy n I),aK C.H n (T.map (renO n))⟩ a w1:=fun t x hx=>by
  simp only[aeG]at hx;obtain⟨y,G,rfl⟩:=adT.1 hx;obtain⟨u,u1,u2⟩:=A t y G;refine⟨u,u1,U6 u2 (kW (Vo n I) fun x v hn h=>?_)⟩;have hk:=q2 x v h;cases x with
  |fn=>cases hn
  |p x=>exact hk
  |junk=>trivial
  |sl z y af len=>
   grind [oJ,aY,kF]
  |ptr z y i j=>
   simp only[oJ];by_cases hz:z=n
   ·rw[if_pos hz];by_cases G:I.contains y=true
    ·rw[if_pos G];have G:y∈I:=by grind
     subst hz;obtain⟨o1,b,c,z1,z2,z3,z4⟩:=h;rw[D,aeG]at z1;obtain⟨o2,z5,rfl⟩:=adT.1 z1;obtain⟨o3,z6,z7,z8⟩:=m.sh y G o2 z5;obtain⟨c',z9⟩:=Z y G b c (by grind);refine⟨renO z o3,b,c',by grind [be],by grind,?_,?_⟩
     ·grind [renO]
     grind [renO]
    rw[if_neg G];trivial
   grind [aY,kF]
 refine hK v w1 ⟨⟨by grind [kR],by grind [oU,nL],S,by grind [js],xI (s:=⟨C.tmps.map (qy n I),aK C.H n (T.map (renO n))⟩) (by grind) N q3⟩,hB,hY,U⟩
theorem Cm {args:List TV} {j:List OObj} (l:lZ P L p o args f j g g' r) (q:n<=4999) (h:GW b m o args n f s):
  yO P b m (ik L Y w0 O X g s) (ik L Y w0 O X g' (CO b m r n p j s)):=by
 obtain⟨e,u⟩:=h;unfold cxTs at e;split at e
 ·rename_i c t;split at e
  ·rename_i v;refine⟨c,t,by simp_all,?_⟩;grind [CO,cwD,Cp]
  cases e
 cases e
theorem iF (m:Nat) {args:List TV} {t:List OObj} (n:lZ P L p o args f t g g' r) (l:Nat) (c:List (ar P)) (j:List Nat) {id:Nat} (v:cY ks b=true) (u:l<=4999) (B:m<b.toList.length) (h: ∀K:AS->Prop,(∀e,(GW b m o args l f e/\ ∀K:AS->Prop,(∀s',Q .normal s' g'->K s')->bM P (c.map ar.a) j (aV b (b.toList.drop (m+1)) (m+1)) (some (CO b m r l p t e)) K)->K e)->bM P (c.map ar.a) j (aV b (b.toList.take m) 0) (some s) K):eF P L ks (.region id b false) Q s g:=fun vf Y w0 O X a w G=>by
 obtain⟨e,x,q,y⟩:=aO P (c.map ar.a) j b _ 0 s _ (h (fun e=>GW b m o args l f e/\bM P (c.map ar.a) j (aV b (b.toList.drop (m+1)) (m+1)) (some (CO b m r l p t e)) (fun s=>Q .normal s g')) fun e ⟨C,D⟩=>⟨C,D _ fun _ h=>h⟩);obtain⟨s',z,A⟩:=aO P (c.map ar.a) j b _ (m+1) _ _ y;exact rO (R1:=jy L ks vf Y w0 O X g) (R2:=jy L ks vf Y w0 O X g') eP eP m c j v B x (rJ v (Cm n u q)) z G fun H w' E=>⟨s',g',A,E⟩
theorem qK (t:P.follows .mixedOrders=true) {args:List TV} {m:List OObj} (l:lZ P L p o args f m g g' r) (j:Nat) (c:List (ar P)) (u:List Nat) {id:Nat} (v:cY ks b=true) (n:j<=4999) (z:Lo b=true) (h: ∀K:AS->Prop,(∀e,(GW b (b.size-1) o args j f e/\Q .normal (CO b (b.size-1) r j p m e) g')->K e)->bM P (c.map ar.a) u (aV b (b.toList.take (b.size-1)) 0) (some s) K):eF P L ks (.region id b true) Q s g:=fun vf Y w0 O X a w B=>by
 obtain⟨e,x,q,y⟩:=aO P (c.map ar.a) u b _ 0 s _ (h (fun e=>GW b (b.size-1) o args j f e/\Q .normal (CO b (b.size-1) r j p m e) g') fun _ q=>q);exact AJ (R1:=jy L ks vf Y w0 O X g) (R2:=jy L ks vf Y w0 O X g') eP t c u v z x (rJ v (Cm l n q)) B fun C w' A=>⟨_,g',y,A⟩
theorem pi (b r:Nat) {o o':OObj} (F:(s.H b)[r]?=some o) (I:o'.ty=o.ty) (D:o'.es=o.es) (z:o'.elems.length=o.elems.length) (l: ∀(i:Nat) h,o'.elems[i]?=some h-> ∃e,o.elems[i]?=some e/\h.length=e.length/\ ∀(j:Nat) x,h[j]?=some x->x= .junk\/e[j]?=some x):
  bN s ⟨s.tmps,aK s.H b ((s.H b).set r o')⟩:=by
 rintro w0 O X C w ⟨M,A,q,f,m⟩;have m:bz X q s C w:=m;obtain⟨q1,q2,K⟩:=id (f.objs b r o F);cases G:q b r with
 |none=>
  rw[G]at K;have h:o'.elems=[]:=agy (by grind);have R:o'=o:=by
   cases o;cases o';simp_all
  subst R;have:(s.H b).set r o'=s.H b:=by
   apply aeW;grind
  rw[this,show aK s.H b (s.H b)=s.H from funext fun x=>by grind [aK]];exact⟨M,A,q,f,m⟩
 |some N=>
  obtain⟨p,c⟩:=N;rw[G]at K;obtain⟨cells,V,p2,p3,p4,W⟩:=K;have old: ∀(i:Nat) h (j:Nat) x,o'.elems[i]?=some h->h[j]?=some x-> ∃v:Value,cells[i*o.es+j]?=some v/\v.oneCell'=true/\x.rel q s.H (Xo X q s.H) w v:=fun i h j x S B=>by
   obtain⟨e,J,k2,n⟩:=l i h S;have E:j<e.length:=by grind
   obtain⟨u,Z,u2,u3⟩:=W i e j e[j] J (aeR E);refine⟨u,Z,u2,?_⟩;rcases n j x B with rfl|n
   ·trivial
   grind
  obtain⟨U,i2⟩:=A6 f F G V I D z (fun h y=>by
   grind [List.mem_iff_getElem?]) (fun h y x B=>by
   obtain⟨i,T⟩:=afo.1 y;obtain⟨j,E⟩:=afo.1 B;obtain⟨e,J,_,n⟩:=l i h T;rcases n j x E with rfl|n
   ·trivial
   exact f.self b r o F e (adQ J) x (adQ n)) old
  exact⟨M,A,q,U,fun t x B=>by
   grind [TV.rel_map]⟩
end
end
section
theorem lu {k:Nat} (h:eF P VI [k] c (fun e s _=>t e s) s ()):Hd P k c t s:=fun m n O X a w r=>
 wp_mono (h (fun _=>some m) (fun _=>True) n O X a w ⟨vS.2 r.1,fun j f=>by simp at f;subst f;exact r.2⟩) fun _ _ _ ⟨l,_,g,b⟩=>⟨l,g,vS.1 b.1,b.2 k (by simp)⟩
theorem Dd {G:Type} {L:iz G} {g:G} {Q:Exit->AS->G->Prop} (l:List (Nat×Nat×Nat)) (z:P.follows .mixedOrders=true) (f:List (ar P)) (E:List Nat) {id:Nat} (H:cz l b=true) (hz: ∀x∈l,szO P x.2.2≠some 1) (Z:Tc l s) (V:cY p b=true) (h: ∀K:AS->Prop,(∀u,Q .normal u g->K u)->bM P (f.map ar.a) E (aV b b.toList 0) (some s) K):eF P L p (.region id b true) Q s g:=fun J Y M O X a w r=>by
 obtain⟨I,h1,S⟩:=aO P (f.map ar.a) E b b.toList 0 s _ (h (fun u=>Q .normal u g) fun _ h=>h);have T:dS P (f.map ar.a) E b (List.range b.size) s=some I:=by
  grind [List.range_eq_range',jb]
 refine(wpIn_wide (n:=0)).1 (wpIn_region_any (F:=FW none) z ?_);have B:jy L p J Y M O X g s a {w with drawn:=w.drawn+1}:=by
  obtain⟨N,Oa,Xa,⟨q1,q2,R,t,q⟩,D⟩:=eP s a w r;have e:fm w {w with drawn:=w.drawn+1}:=⟨rfl,rfl,rfl,aeJ _,fun _ _=>rfl⟩;have q:bz Xa R s a w:=q;exact D _ _ _ (fun _ _=>rfl) ⟨q1,q2,R,t.grow e,q.grow e⟩
 have m:nl s:=by obtain⟨N,Oa,Xa,r,_⟩:=eP s a w r;exact gL r
 rw[<- zc];refine pA (sep:=l) (oE H hz) H (fun _ s a w=>jy L p J Y M O X g s a w) ⟨m,Z⟩ T (fun c a w _ A=>⟨I,g,S,A⟩) (fun c i o u aa a w K y W _ C A U=>?_) b.size (Array.replicate b.size false) s a _ (by simp) ?_ ?_ ?_ B
 ·obtain⟨N,Oa,Xa,ra,D⟩:=eP _ _ _ A;exact zz y C ra fun v w' r'=>U v w' (D _ _ _ (i6 V y v) r')
 ·intro j o y hp;have hj:j<b.size:=(ae4.1 y).1;simp_all
 ·grind
 have:oX b.size (fun j=>(Array.replicate b.size false).getD j true)=[]:=by
  simp_all[oX]
 rw[this];rfl
theorem De {f:Type} {L:iz f} {g:f} {Q:Exit->AS->f->Prop} (e:P.follows .mixedOrders=true) (c:List (ar P)) (j:List Nat) {id:Nat} (m:cz [] b=true) (n:cY p b=true) (h: ∀K:AS->Prop,(∀l,Q .normal l g->K l)->bM P (c.map ar.a) j (aV b b.toList 0) (some s) K):eF P L p (.region id b true) Q s g:=Dd [] e c j m (by simp) (fun x o=>by simp at o) n h
theorem KB {e:Type} {L:iz e} {g:e} {Q:Exit->AS->e->Prop} (c:P.follows .mixedOrders=true) {id:Nat} (j:cz [] b=true) (l:cY p b=true) (h: ∀K:AS->Prop,(∀f,Q .normal f g->K f)->bM P [] [] (aV b b.toList 0) (some s) K):eF P L p (.region id b true) Q s g:=De c [] [] j l h
theorem ov {j:Type} {L:iz j} {g:j} {Q:Exit->AS->j->Prop} (f:P.follows .mixedOrders=true) (e:List (ar P)) (l:List Nat) {id:Nat} (n:cz [] b=true) (o:cY p b=true) (h: ∀K:AS->Prop,(∀m,eF P L p c Q m g->K m)->bM P (e.map ar.a) l (aV b b.toList 0) (some s) K):eF P L p (.seq (.region id b true) c) Q s g:=aR (De f e l n o h)
theorem tA {f:Type} {L:iz f} {g:f} {Q:Exit->AS->f->Prop} (e:P.follows .mixedOrders=true) {id:Nat} (l:cz [] b=true) (m:cY p b=true) (h: ∀K:AS->Prop,(∀j,eF P L p c Q j g->K j)->bM P [] [] (aV b b.toList 0) (some s) K):eF P L p (.seq (.region id b true) c) Q s g:=ov e [] [] l m h
theorem im.nilA {args:List TV} {k:Nat} (e:im P o args n m j h l r) (B:args[k]?=some (.one (.p (.sl [])))) (E:k≠n):im P o (args.set k (.one (.p (.raw (.slice none 0 0))))) n m j h l r:=by
 have D:=(aeI.1 B).1;refine⟨e.able,e.es,e.size,e.pure,e.noref,fun X w vs b c C u F y x z=>e.calls X w vs b c C u F (by simpa using y) x fun g t q s=>?_⟩;by_cases A:g=k
 ·subst A;obtain⟨v,G,I⟩:=z g _ q (afu D);rw[B]at s;injection s with s
  subst s;have:=(bo (ρ:=fun _ _=>none) (H:=fun _=>[]) I).1;subst this;exact⟨_,G,bS.nil _ _⟩
 exact z g t q (by rw[afB (agv A)];exact s)
section
variable {P:Program} {γ:Type} {L:iz γ} {g:γ} {ks:List Nat} {s s':AS} {Q:Exit->AS->γ->Prop}
def X5 (b c:Nat) (e:OObj) (s:AS):AS:=⟨s.tmps,aK s.H b ((s.H b).set c e)⟩
theorem zl {d:Option Tmp}:X5 n m h (s.put d r)=(X5 n m h s).put d r:=by cases d<;>rfl
theorem Jv {e f:Nat} {p:OObj} {y it':List (dD P)} {q:List Nat} {b:Array Oper}: ∀(l:List Nat) (s s':AS),(∀j∈l,∃o,b[j]?=some o/\qp o.op=true/\o.guard=none)->dS P y q b l (X5 e f p s)=some s'-> ∃t,dS P it' q b l s=some t/\s'=X5 e f p t
 |[],s,s',_,h=>by
  grind [dS]
 |j::l,s,s',m,h=>by
  obtain⟨o,u,v,w⟩:=m j (by simp);simp only[dS]at h⊢;obtain⟨A,c,r⟩:=aeZ.1 h;unfold eK at c⊢;rw[u]at c⊢;simp only at c⊢;rw[ME v w]at c⊢;obtain⟨t,z,n⟩:=adT.1 c;rw[show kH P (AS.ev s) o.op=some t from z];rw[<- zl]at n;subst n;simp only[afV,agZ];exact Jv l _ _ (fun i x=>m i (by simp[x])) r
theorem Qo (bl:P.follows .mixedOrders=true) (y:Nat) {args:List TV} (ag:im P o args n m j h l (.raw w)) (F I:Nat) (B:List (ar P)) (T:List Nat) {id:Nat} (hd:cz [] b=true) (aa:cY ks b=true) (hE:acg b y=true) (hk:n<args.length) (a1:0<j) (S:pZ n 0 args=true) (a4: ∀e∈h.elems,∀x∈e,isPure x=true) (ba:F<=4999) (hm:y<b.size) (q:bM P (B.map ar.a) T (aV b (b.toList.take y) 0) (some s) (fun G=>Kq b y o args n m j F I h G/\bM P [] T (aV b (b.toList.drop (y+1)) (y+1)) (some (Im b y (.raw w) F I l G)) (fun s=>Q .normal s g))):eF P L ks (.region id b true) Q s g:=fun vf Y w0 O X a A r=>by
 obtain⟨G,h1,⟨D,q2⟩,h2⟩:=aO P (B.map ar.a) T b _ 0 s _ q;obtain⟨s2,h3,h4⟩:=aO P [] T b _ (y+1) _ _ h2;obtain⟨z,ho⟩: ∃z,b[y]?=some z:=⟨b[y],by simp[hm]⟩;have ai:cwD b y=z.dst:=by grind [cwD]
 unfold cwTs at D;rw[ho]at D;simp only at D;split at D
 case h_2=>cases D
 rename_i c hg R;split at D
 case h_2=>cases D
 rename_i f' J;split at D
 case h_2=>cases D
 rename_i ts a3;injection D with D
 injection D with D q3
 subst D q3;simp only[acg,afb,aeP,afE,ag7,decide_eq_true_eq]at hE;obtain⟨⟨ae,b0⟩,a8⟩:=hE;rw[ho]at ae;obtain⟨d,ah⟩:=ah7.1 ae
 let M:dD P:=⟨y,f',(args.set n (.one (.sl F I m j))).map (ms G.H),⟨[],.raw w⟩⟩
 -- the operations ahead
 have cg:(b.toList.take y).length=y:=by grind
 have g1:dS P (B.map ar.a) T b (List.range y) s=some G:=by
  grind [jb,List.range_eq_range']
 have a7:dS P (M::B.map ar.a) T b (List.range y) s=some G:=by
  grind [Ju]
 -- the call, as if it left memory as it is
 have W:bs P (M::B.map ar.a) T b y z G=some (G.put z.dst (.raw w)):=by
  obtain⟨dst,op,bx,pos,bt,bH⟩:=z;simp only at R hg ah;subst R hg ah;obtain⟨callee,a6,ch⟩:=c;simp only at J;subst J;have bm:(args.set n (.one (.sl F I m j))).all (jj true G.H)=true:=by
   rw[aeP];intro t ht;obtain⟨u,N⟩:=List.getElem?_of_mem ht;by_cases a0:u=n
   ·subst a0;rw[afu hk]at N;injection N with N
    subst N;simp only[jj,q2,ah4,aeP];intro e he x hx;have:=a4 e he x hx;cases x<;>first|rfl|cases this
   rw[afB (agv a0)]at N;have:=uf (i:=0) S (by omega) N;cases t with
   |one x=>cases x<;>first|rfl|cases this
   |agg cs=>exact this
   |fn g cs=>cases this
   |tup ts=>cases this
  simp only[bs,fo,qp,Y6,A7,iY,dM,afq,if_false,List.find?_cons,beq_self_eq_true,M,a3];rw[if_pos ⟨trivial,trivial,bm,rfl⟩];rfl
 have a5:List.range b.size=List.range y++y::List.range' (y+1) (b.size-(y+1)):=by
  have:=afk (s:=0) (m:=y) (n:=b.size-y);rw[show y+(b.size-y)=b.size by omega,afm,show b.size-y=b.size-(y+1)+1 by omega,afj]at this;grind [List.range_eq_range']
 have an: ∀u,y<u->u<b.size->((qv b.toList []).getD u 0).testBit y=true/\ ∃z,b[u]?=some z/\qp z.op=true/\z.guard=none:=fun u bh av=>by
  rcases a8 u av with q|⟨q,h'⟩
  ·omega
  simp_all
 have g2:dS P [] T b (List.range' (y+1) (b.size-(y+1))) (X5 F I l (G.put z.dst (.raw w)))=some s2:=by
  have e:Im b y (.raw w) F I l G=X5 F I l (G.put z.dst (.raw w)):=by rw[zl,<- ai];rfl
  grind [jb]
 obtain⟨sF,g3,rfl⟩:=Jv (it':=M::B.map ar.a) _ _ _ (fun u N=>by
  grind) g2
 have a2:dS P (M::B.map ar.a) T b (List.range b.size) s=some sF:=by
  grind [jO,dS,eK]
 refine wp_region_any bl ?_;have V:jy L ks vf Y w0 O X g s a {A with drawn:=A.drawn+1}:=by
  obtain⟨wa,Oa,Xa,⟨D,q2,ρ,ap,ad⟩,n⟩:=eP s a A r;have e:fm A {A with drawn:=A.drawn+1}:=⟨rfl,rfl,rfl,aeJ _,fun _ _=>rfl⟩;have ad:bz Xa ρ s a A:=ad;exact n _ _ _ (fun _ _=>rfl) ⟨D,q2,ρ,ap.grow e,ad.grow e⟩
 have ab:nl s:=by obtain⟨wa,Oa,Xa,r,_⟩:=eP s a A r;exact gL r
 refine tG (sep:=[]) (oE hd (by simp)) hd (Q:=fun e a' w'=> ∃s' g',Q e s' g'/\jy L ks vf Y w0 O X g' s' a' w') (fun p s a A=>jy L ks vf Y w0 O X g (if p y then X5 F I l s else s) a A) ⟨ab,fun x hx=>by simp at hx⟩ a2 (fun p a A bw hr=>⟨_,g,h4,by
  grind⟩) (fun p i o' s' br a A K C bn a9 Z hr hK=>?_) b.size (Array.replicate b.size false) s a _ (by simp) ?_ ?_ ?_ ?_
 ·obtain⟨hc,b5,E⟩:=a9;have bb:i<b.size:=(ae4.1 C).1;have af:fc p i i=true:=by simp[fc]
  rcases af7 i y with U|U|U
  ·have ac:p y=false:=by
    grind [jY]
   rw[ac]at hr;rw[Ef (show y≠i by omega)]at Z;have cc:(y==i)=false:=by simp;omega
   obtain⟨wa,Oa,Xa,ra,n⟩:=eP _ _ _ hr;exact jA (ar.ok B) ra Z fun v w' V=>hK v w' (by have:=n _ _ _ (i6 aa C v) V;grind [fc])
  ·subst U;rw[ho]at C;injection C with C
   subst C;have bq:oX b.size p=List.range i:=vZ (by omega) (fun u N=>by
    grind [jY,fc]) (fun u bh av=>by
    grind [jY])
   rw[bq,a7]at E;injection E with E
   subst E;rw[W]at Z;injection Z with Z
   subst Z;rw[bn,if_neg (by decide)]at hr;rw[if_pos (by simp[Region.wanted,hg])];obtain⟨wa,Oa,Xa,ra,n⟩:=eP _ _ _ hr;refine Kj ra R J ag ba hk a1 a3 (jD S) q2 a4 fun v w1 bp=>hK v w1 ?_
   rw[if_pos af,zl];exact n _ _ _ (i6 aa ho v) bp
  obtain⟨b1,o2,b2,b3,b4⟩:=an i U bb;rw[C]at b2;injection b2 with b2
  subst b2;have ac:p y=true:=by
   grind [jY,fc]
  rw[ac]at hr;rw[ME b3 b4]at Z;obtain⟨t,c1,c2⟩:=adT.1 Z;have:bs P [] T b i o' (X5 F I l s')=some (X5 F I l br):=by
   rw[ME b3 b4,show kH P (X5 F I l s').ev o'.op=some t from c1,<- c2,zl];rfl
  obtain⟨wa,Oa,Xa,ra,n⟩:=eP _ _ _ hr;exact jA (fun it bc=>by simp at bc) ra this fun v w' V=>hK v w' (by have:=n _ _ _ (i6 aa C v) V;grind [fc])
 ·intro u z ho hp;have N:u<b.size:=(ae4.1 ho).1;simp_all
 ·grind
 ·have:oX b.size (fun u=>(Array.replicate b.size false).getD u true)=[]:=by
   unfold oX;rw[ahv];intro u N;have:=afE.1 N;simp[this]
  rw[this];rfl
 simp_all
theorem Ag (E:P.follows .mixedOrders=true) (q:Nat) {args:List TV} (u:im P o args n m j h l (.raw w)) (z B:Nat) (r:List (ar P)) (G:List Nat) {id:Nat} (I:cz [] b=true) (D:cY ks b=true) (H:acg b q=true) (J:n<args.length) (v:0<j) (t:pZ n 0 args=true) (F: ∀e∈h.elems,∀x∈e,isPure x=true) (C:z<=4999) (M:q<b.size) (p: ∀K:AS->Prop,(∀A,(Kq b q o args n m j z B h A/\ ∀K:AS->Prop,(∀s',eF P L ks c Q s' g->K s')->bM P [] G (aV b (b.toList.drop (q+1)) (q+1)) (some (Im b q (.raw w) z B l A)) K)->K A)->bM P (r.map ar.a) G (aV b (b.toList.take q) 0) (some s) K):eF P L ks (.seq (.region id b true) c) Q s g:=
 aR (Qo E q u z B r G I D H J v t F C M (p _ fun A ⟨N,O⟩=>⟨N,O _ fun _ p=>p⟩))
theorem Cn {w0:World} {O X:Nat->Prop} {args:List TV} {k len:Nat} (D:im P o args k n len h l r) {y:Nat} (R:k<args.length) (E:0<len) (B: ∀(u:Nat) t,u≠k->args[u]?=some t->jE t=true) (H: ∀e∈h.elems,∀x∈e,isPure x=true) (G:m<=4999) (q:Kq b y o args k n len m j h s):
  yO P b y (dP w0 O X s) (dP w0 O X (Im b y r m j l s)):=by
 obtain⟨A,T⟩:=q;unfold cwTs at A;split at A
 ·rename_i z J;split at A
  ·rename_i c N F;split at A
   ·rename_i W C;split at A
    ·rename_i Y I;injection A with A
     injection A with A U
     subst A U;refine⟨z,J,N,fun a w K Q S M=>lj (.inl rfl) (Kj S F C D G R E I B T H fun v V p=>M v V ?_)⟩;unfold Im cwD;rw[J];exact p
    cases A
   cases A
  cases A
 cases A
theorem pw (m:Nat) {args:List TV} {k len:Nat} (A:im P o args k n len h l r) (I J:Nat) (u:List (ar P)) (F:List Nat) {id:Nat} (D:cY ks b=true) (M:k<args.length) (B:0<len) (y: ∀(j:Nat) t,j≠k->args[j]?=some t->jE t=true) (E: ∀e∈h.elems,∀x∈e,isPure x=true) (hm:m<b.toList.length) (c: ∀K:AS->Prop,(∀G,(Kq b m o args k n len I J h G/\ ∀K:AS->Prop,(∀s',Q .normal s' g->K s')->bM P (u.map ar.a) F (aV b (b.toList.drop (m+1)) (m+1)) (some (Im b m r I J l G)) K)->K G)->bM P (u.map ar.a) F (aV b (b.toList.take m) 0) (some s) K) (C:I<=4999:=by decide):eF P L ks (.region id b false) Q s g:=fun S Y H O X a w r0=>by
 obtain⟨G,W,R,q3⟩:=aO P (u.map ar.a) F b _ 0 s _ (c _ fun G q=>q);obtain⟨s',Z,h4⟩:=aO P (u.map ar.a) F b _ (m+1) _ _ (q3 (fun s'=>Q .normal s' g) fun _ c=>c);refine rO (R1:=jy L ks S Y H O X g) (R2:=jy L ks S Y H O X g) eP eP m u F D hm W (rJ D ?_) Z r0 fun a' T r'=>⟨s',g,h4,r'⟩
 obtain⟨p,N,hg,_⟩:=Cn (w0:=H) (O:=O) (X:=X) A M B y E C R;refine⟨p,N,hg,fun a w K Q hr hK=>?_⟩;obtain⟨w1,U,V,r1,k1⟩:=t8 _ _ _ hr;obtain⟨o2,z,_,hs⟩:=Cn (w0:=w1) (O:=U) (X:=V) A M B y E C R;rw[N]at z;injection z with z
 subst z;exact hs a w K Q r1 fun v T c=>hK v T (k1 _ _ _ c)
theorem KD (m:Nat) {args:List TV} {k len:Nat} (v:im P o args k n len h l r) (z A:Nat) (q:List (ar P)) (E:List Nat) {id:Nat} (C:cY ks b=true) (G:k<args.length) (w:0<len) (u: ∀(j:Nat) t,j≠k->args[j]?=some t->jE t=true) (D: ∀e∈h.elems,∀x∈e,isPure x=true) (H:m<b.toList.length) (p: ∀K:AS->Prop,(∀F,(Kq b m o args k n len z A h F/\ ∀K:AS->Prop,(∀s',eF P L ks c Q s' g->K s')->bM P (q.map ar.a) E (aV b (b.toList.drop (m+1)) (m+1)) (some (Im b m r z A l F)) K)->K F)->bM P (q.map ar.a) E (aV b (b.toList.take m) 0) (some s) K) (B:z<=4999:=by decide):eF P L ks (.seq (.region id b false) c) Q s g:=
 aR (pw m v z A q E C G w u D H p B)
theorem Tm (h:eF P VI [] c (fun e s _=>t e s) s ()):bv P c t s:=fun l O X a w r=>
 wp_mono (h (fun _=>none) (fun _=>True) l O X a w ⟨vS.2 r,fun _ j=>by simp at j⟩) fun _ _ _ ⟨s',_,b,f⟩=>⟨s',b,vS.1 f.1⟩
theorem Yr (m:Nat) {args:List TV} {k len:Nat} (v:im P o args k n len h l r) (y z:Nat) (q:List (ar P)) (C:List Nat) {id:Nat} (E:k<args.length) (w:0<len) (u: ∀(j:Nat) p,j≠k->args[j]?=some p->jE p=true) (B: ∀e∈h.elems,∀x∈e,isPure x=true) (F:m<b.toList.length) (c: ∀K:AS->Prop,(∀D,(Kq b m o args k n len y z h D/\ ∀K:AS->Prop,(∀s',t .normal s'->K s')->bM P (q.map ar.a) C (aV b (b.toList.drop (m+1)) (m+1)) (some (Im b m r y z l D)) K)->K D)->bM P (q.map ar.a) C (aV b (b.toList.take m) 0) (some s) K) (A:y<=4999:=by decide):bv P (.region id b false) t s:=
 Tm (pw m v y z q C rfl E w u B F c A)
theorem EH (m:Nat) {args:List TV} {k len:Nat} (w:im P o args k n len h l r) (A B:Nat) (u:List (ar P)) (E:List Nat) {id:Nat} (G:k<args.length) (z:0<len) (v: ∀(j:Nat) q,j≠k->args[j]?=some q->jE q=true) (D: ∀e∈h.elems,∀x∈e,isPure x=true) (H:m<b.toList.length) (p: ∀K:AS->Prop,(∀F,(Kq b m o args k n len A B h F/\ ∀K:AS->Prop,(∀s',bv P c t s'->K s')->bM P (u.map ar.a) E (aV b (b.toList.drop (m+1)) (m+1)) (some (Im b m r A B l F)) K)->K F)->bM P (u.map ar.a) E (aV b (b.toList.take m) 0) (some s) K) (C:A<=4999:=by decide):bv P (.seq (.region id b false) c) t s:=
 aj (Yr m w A B u E G z v D H p C)
end
end
end Go.Proofs.YtalmoejhjceflaaGreat
namespace Go.Proofs
open Go.Shelf
def Tryz.lays129_ren:Go.Shelf.Ren:=⟨fun|129=>185|n=>n,fun|53=>116|3=>3|4=>4|46=>164|5=>5|9=>9|n=>n,fun|n=>n⟩
theorem Tryz.lays129:Go.Proofs.Lays.n129 prog Tryz.lays129_ren:={
 mixed:=by kernel_rfl
 f129:=func185.trans (congrArg some (by kernel_rfl))
 t3:=underlying3
 a3:=isAgg3
 z3:=sizeOf3
 v3:=zeroValue3
 t4:=underlying4
 a4:=isAgg4
 z4:=sizeOf4
 v4:=zeroValue4
 t5:=underlying5
 a5:=isAgg5
 z5:=sizeOf5
 v5:=zeroValue5
 t9:=underlying9
 a9:=isAgg9
 z9:=sizeOf9
 v9:=zeroValue9
 t46:=underlying164
 a46:=isAgg164
 z46:=sizeOf164
 v46:=zeroValue164
 t53:=underlying116
 a53:=isAgg116
 z53:=sizeOf116
 v53:=zeroValue116}
end Go.Proofs
namespace Go.Proofs.YtalmoejhjceflaaGreat
open Go.RowKit Go.Proofs.Tryz
variable {b:Array Oper} {c e:Code} {n m j:Nat} {f g:List OObj} {h l:OObj} {o:FuncId} {p:List Nat} {q:List Int} {r:TV} {P:Program} {s:AS} {t:Exit->AS->Prop} {u:Int×List Int} {v:Operand} {x:Int} {w:Value}
theorem uI (a k:Nat) {L:TypeId} {cs:List PV} (N:s.H a=[⟨L,n,[cs.map AV.p]⟩]) (Q:s.tmps[k]?=some (.one (.ptr a 0 0 0))):bN s ⟨(s.tmps.map (f5 s.H a)).set k (.one (.p (.ptr cs))),aK s.H a []⟩:=by
 rintro w0 O X F w ⟨T,V,A,h,q⟩;have q:bz X A s F w:=q;have l:(s.H a)[0]?=some ⟨L,n,[cs.map AV.p]⟩:=by rw[N];rfl
 have K:ve s.H a:=fun r o E e P x g=>by
  rw[N]at E;cases r with
  |succ r=>simp at E
  |zero=>
   simp at E;subst E;simp at P;subst P;obtain⟨y,_,rfl⟩:=aeL.1 g;exact .inl rfl
 obtain⟨z,D⟩:=UK a K h q;refine⟨T,by grind,A,z,fun t x g=>?_⟩;by_cases e:t=k
 ·subst e;simp only at g;have U:=(aeI.1 Q).1;rw[afu (by grind)]at g;injection g with g
  subst g;obtain⟨v,v1,o,b,c,m,B,M,rfl⟩:=q t _ Q;rw[l]at m;injection m with m
  subst m;refine⟨_,v1,?_⟩;obtain⟨q1,q2,S⟩:=h.objs a 0 _ l;rw[B]at S;obtain⟨cells,Y,p2,p3,p4,Z⟩:=S;have I: ∀b,Xo X A (aK s.H a []) b->Xo X A s.H b:=fun b C=>by
   rcases C with C|⟨x,y,o,f,m,B⟩
   ·exact .inl C
   by_cases g:x=a
   ·grind [be]
   rw[aU g]at m;exact .inr ⟨x,y,o,f,m,B⟩
  have J: ¬Xo X A (aK s.H a []) b:=fun G=>by
   rcases G with G|⟨x,y,W,f,m,M⟩
   ·exact(h.old a 0 _ b c l B).2 G
   by_cases g:x=a
   ·grind [be]
   rw[aU g]at m;exact g (h.inj x y a 0 W _ b f c m l M B).1
  show bS _ w (.ptr cs) _;rw[show(0:Nat)*(⟨L,n,[cs.map AV.p]⟩:OObj).es+0=0 by simp];have R: ∀(j:Nat) x,cs[j]?=some x-> ∃u:Value,cells[j]?=some u/\bS (Xo X A (aK s.H a [])) w x u:=fun j x g=>by
   obtain⟨u,u1,u2,u3⟩:=Z 0 (cs.map AV.p) j (.p x) rfl (by grind);refine⟨u,by grind,bS.weaken (fun b _ C=>I b C) u3⟩
  refine bS.ptr b 0 cs (fun j=>(cells[j]?).getD undef) J (ae4.1 Y).1 (fun j x g=>?_) (fun j x g=>?_)
  ·grind [cell_of_row]
  grind
 simp only at g;rw[afB (agv e)]at g;exact D t x g
def bT (x:List Int):Int:=match x.find? (fun c=>c !=0)with|none=>0|some c=>if c<0 then -1 else 1
theorem Ed (x:List Int) (a:Int):bT (x++[a])=if bT x=0/\a≠0 then(if a<0 then -1 else 1)else bT x:=by
 grind [bT]
theorem dx (x:List Int):bT x=0\/bT x=1\/bT x= -1:=by
 grind [bT]
theorem CD {k:Nat} {a:Int} (h:q[k]?=some a):q.take (k+1)=q.take k++[a]:=by
 grind [List.take_succ_eq_append_getElem]
theorem pD (h:CQ q=true):w9 q=if bT q=0 then none else some (q.map fun a=>bT q*a):=by
 unfold w9 bT;rw[h];cases e:q.find? (fun c=>c !=0)with
 |none=>simp
 |some c=>
  simp only[if_true];by_cases b:c<0
  ·simp[b]
  simp[b]
def ST (x:List Int):List Int:=x.map fun a=>bT x*a
theorem jP:bT q=0↔ ∀c∈q,c=0:=by
 grind [bT]
theorem g7 {x:List Int} {s:Int} (b:s=1\/s= -1):bT (x.map fun a=>s*a)=s*bT x:=by
 unfold bT;rw[List.find?_map];have e:((fun c:Int=>c !=0)∘fun a=>s*a)=fun c:Int=>c !=0:=by
  grind
 grind
theorem YI (b:x=1\/x= -1):ST (q.map fun a=>x*a)=ST q:=by
 unfold ST;rw[g7 b,aga];grind [List.map_congr_left]
theorem N3 (x:List Int):(ST x).length=x.length:=by simp[ST]
theorem Ax: ∀(x y:List Int),dZ x y= -1\/dZ x y=0\/dZ x y=1
 |[],[]=>by simp[dZ]
 |[],_::_=>by simp[dZ]
 |_::_,[]=>by simp[dZ]
 |a::x,b::y=>by
  have:=Ax x y;grind [dZ]
theorem xc: ∀(x y:List Int),dZ y x= - dZ x y
 |[],[]=>by simp[dZ]
 |[],_::_=>by simp[dZ]
 |_::_,[]=>by simp[dZ]
 |a::x,b::y=>by
  have:=xc x y;grind [dZ]
theorem pG: ∀{x y z:List Int},dZ x y<0->dZ y z<0->dZ x z<0
 |[],[],_,h,_=>by omega
 |_::_,[],_,h,_=>by simp[dZ]at h
 |[],_::_,[],_,h=>by simp[dZ]at h
 |[],_::_,_::_,_,_=>by simp[dZ]
 |_::_,_::_,[],_,h=>by simp[dZ]at h
 |a::x,b::y,c::z,e,f=>by
  unfold dZ at e f⊢;by_cases g:a<b
  ·omega
  rw[if_neg g]at e;by_cases l:b<a
  ·omega
  rw[if_neg l]at e;by_cases j:b<c
  ·omega
  rw[if_neg j]at f;by_cases m:c<b
  ·omega
  rw[if_neg m]at f;rw[if_neg (by omega),if_neg (by omega)];exact pG e f
def qA (a b:Int×List Int):Prop:=a.1<b.1\/a.1=b.1/\dZ a.2 b.2<0
instance (a b:Int×List Int):Decidable (qA a b):=inferInstanceAs (Decidable (_\/_))
def jS (x:Int×List Int):List (Int×List Int)->List (Int×List Int)
 |[]=>[x]
 |a::l=>if qA a x then a::jS x l else if qA x a then x::a::l else a::l
def nk (l:List (Int×List Int)):List (Int×List Int):=l.foldl (fun acc x=>jS x acc) []
theorem t6 (a:Int×List Int): ¬qA a a:=by
 grind [qA,gH]
theorem DI {a c:Int×List Int} (e:qA a u) (f:qA u c):qA a c:=by
 grind [qA,pG]
theorem xw {a:Int×List Int} (c: ¬qA a u) (e: ¬qA u a):a=u:=by
 grind [qA,xc,pF]
def yY (l:List (Int×List Int)):Prop:=l.Pairwise qA
theorem ze: ∀{l m:List (Int×List Int)},yY l->yY m->(∀x,x∈l↔x∈m)->l=m
 |[],[],_,_,_=>rfl
 |[],b::m,_,_,h=>by grind [List.mem_cons_self]
 |a::l,[],_,_,h=>by grind [List.mem_cons_self]
 |a::l,b::m,g,n,h=>by
  obtain⟨j,c⟩:=agc.1 g;obtain⟨o,f⟩:=agc.1 n;have e:a=b:=by
   grind [List.mem_cons_self,DI,t6]
  subst e;rw[ze c f (fun x=>?_)];grind [t6]
theorem rC {x y:Int×List Int}: ∀{l:List (Int×List Int)},y∈jS x l↔y=x\/y∈l
 |[]=>by simp[jS]
 |a::l=>by
  unfold jS;split
  ·rw[afn,rC,afn];grind
  grind [xw]
theorem vM {x:Int×List Int}: ∀{l:List (Int×List Int)},yY l->yY (jS x l)
 |[],_=>by simp[jS,yY]
 |a::l,h=>by
  obtain⟨f,c⟩:=agc.1 h;unfold jS;split
  ·rename_i b;refine agc.2 ⟨fun y e=>?_,vM c⟩;grind [rC]
  split
  ·rename_i b;refine agc.2 ⟨fun y e=>?_,h⟩;grind [DI]
  exact h
theorem AY: ∀(l acc:List (Int×List Int)),yY acc->yY (l.foldl (fun acc x=>jS x acc) acc)/\ ∀y,y∈l.foldl (fun acc x=>jS x acc) acc↔y∈l\/y∈acc
 |[],acc,h=>⟨h,fun y=>by simp⟩
 |x::l,acc,h=>by
  obtain⟨b,c⟩:=AY l (jS x acc) (vM h);grind [rC]
theorem Er (l:List (Int×List Int)):yY (nk l):=(AY l [] (by simp[yY])).1
theorem x5 {l:List (Int×List Int)}:u∈nk l↔u∈l:=by
 unfold nk;rw[(AY l [] (by simp[yY])).2];simp
/-! Insertion. -/
def L4 (x:Int×List Int):List (Int×List Int)->Nat
 |[]=>0
 |a::l=>if qA a x then L4 x l+1 else 0
theorem L6 (x:Int×List Int): ∀l,L4 x l<=l.length
 |[]=>aeJ _
 |a::l=>by unfold L4;have:=L6 x l;grind
theorem L7 (x:Int×List Int): ∀(l:List (Int×List Int)) (i:Nat) a,l[i]?=some a->i<L4 x l->qA a x
 |[],i,a,h,_=>by simp at h
 |b::l,i,a,h,c=>by
  unfold L4 at c;split at c
  ·cases i with
   |zero=>grind
   |succ i=>exact L7 x l i a (by grind) (by omega)
  omega
theorem L5 (x:Int×List Int): ∀(l:List (Int×List Int)) a,l[L4 x l]?=some a-> ¬qA a x
 |[],a,h=>by simp at h
 |b::l,a,h=>by
  unfold L4 at h;split at h
  ·exact L5 x l a (by grind)
  grind
theorem vN (x:Int×List Int): ∀l:List (Int×List Int),jS x l=match l[L4 x l]? with
  |some a=>if qA x a then l.take (L4 x l)++x::l.drop (L4 x l)else l
  |none=>l.take (L4 x l)++x::l.drop (L4 x l)
 |[]=>rfl
 |a::l=>by
  unfold jS L4;split
  ·rw[vN x l];grind
  rfl
theorem BG (x:Int×List Int) (l:List (Int×List Int)):(jS x l).length<=l.length+1:=by
 grind [vN]
theorem NX (b:Int) (x:List Int) (c:Int) (y:List Int):QD b x c y=if b<c then -1 else if c<b then 1 else dZ x y:=by
 grind [QD,orL,tN]
theorem NY {b:Int} {y:List Int}:QD x q b y<0↔x<b\/x=b/\dZ q y<0:=by
 grind [NX]
theorem QE {b:Int} {y:List Int}:QD x q b y=0↔x=b/\q=y:=by
 grind [NX,pF,gH]
theorem Bk {c:Type} (f:c->NItem) (x y:c):ltOf (fun a b=>l6 (f a) (f b)) x y=true↔(f x).key<(f y).key\/(f x).key=(f y).key/\dZ (f x).vals (f y).vals<0:=by
 grind [ltOf,l6,NY]
theorem ad8 {j:Type} (f:j->NItem):Sort.SWO (ltOf fun a b=>l6 (f a) (f b)) where
 irrefl x:=by
  rw[<- Bool.not_eq_true,Bk,gH];omega
 trans x y z c e:=by
  rw[Bk]at*
  rcases c with c|⟨c,g⟩<;>rcases e with e|⟨e,h⟩
  ·omega
  ·omega
  ·omega
  exact .inr ⟨by omega,pG g h⟩
 ntrans x y z c e:=by
  rw[<- Bool.not_eq_true,Bk]at*
  grind [xc,Ax,pF,pG]
end Go.Proofs.YtalmoejhjceflaaGreat
