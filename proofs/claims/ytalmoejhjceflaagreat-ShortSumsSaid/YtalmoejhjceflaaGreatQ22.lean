/-
  Part 23 of a proof (walks and plain facts).
-/
import Derived.Test.YtalmoejhjceflaaGreatQ21
import Derived.Shelf.SlSortCmp.WholeK
set_option linter.all false
set_option maxRecDepth 100000
set_option maxHeartbeats 64000000
namespace Go.Proofs.YtalmoejhjceflaaGreat
open Go.RowKit
variable {b c:List OObj} {e f:Code} {g:Array Oper} {h:List Nat} {j:Int×List Int} {l:FuncId} {m:Operand} {n:Nat} {o:TV} {s:AS}
section
section
variable {P:Program} {γ:Type} {L:jd γ} {g g':γ} {w0 w w':World} {O X Y:Nat->Prop} {s s':AS} {a:Act} {ks:List Nat} {vf:Nat->Option Value}
def k9 (L:jd γ) (ks:List Nat) (vf:Nat->Option Value) (Y:Nat->Prop) (w0:World) (O X:Nat->Prop) (g:γ) (s:AS) (a:Act) (w:World):Prop:=gK L Y w0 O X g s a w/\ ∀k∈ks,a.tmps[k]?=vf k
theorem ii:BY ks (k9 L ks vf Y w0 O X g):=fun s a w ⟨h,n⟩=>by
 obtain⟨o,c,f,l,m⟩:=wn s a w h;exact⟨o,c,f,l,fun s' j w' e r=>⟨m s' j w' r,fun k b=>(e k b).trans (n k b)⟩⟩
theorem s9 {b:Array Oper} (t:dK ks b=true) {f:AS} (h:yG P b n (gK L Y w0 O X g s) (gK L Y w0 O X g' f)):yG P b n (k9 L ks vf Y w0 O X g s) (k9 L ks vf Y w0 O X g' f):=by
 obtain⟨o,e,q,u⟩:=h;exact⟨o,e,q,fun a w K Q ⟨j,l⟩ p=>u a w K Q j fun v w' r=>p v w' ⟨r,fun k c=>(nr t e v k c).trans (l k c)⟩⟩
def fw (P:Program) (L:jd γ) (ks:List Nat) (c:Code) (Q:Exit->AS->γ->Prop) (s:AS) (g:γ):Prop:=
 ∀(vf:Nat->Option Value) (Y:Nat->Prop) (w0:World) (O X:Nat->Prop) (a:Act) (w:World),k9 L ks vf Y w0 O X g s a w->c.wp P (fun e b w'=> ∃s' g',Q e s' g'/\k9 L ks vf Y w0 O X g' s' b w') a w
variable {Q:Exit->AS->γ->Prop}
theorem k9.weak (h:bJ s s') (r:k9 L ks vf Y w0 O X g s a w):k9 L ks vf Y w0 O X g s' a w:=⟨r.1.weak h,r.2⟩
theorem fw.weak (h:bJ s s') (q:fw P L ks e Q s' g):fw P L ks e Q s g:=fun _ _ _ _ _ _ _ r=>q _ _ _ _ _ _ _ (r.weak h)
theorem eP (h:Q .normal s g):fw P L ks .skip Q s g:=fun _ _ _ _ _ _ _ r=>wp_skip ⟨s,g,h,r⟩
theorem pN {id:Nat} (h:Q (.exit id) s g):fw P L ks (.exit id) Q s g:=fun _ _ _ _ _ _ _ r=>wp_exit ⟨s,g,h,r⟩
theorem n5 (h:Q .ret s g):fw P L ks .ret Q s g:=fun _ _ _ _ _ _ _ r=>wp_ret ⟨s,g,h,r⟩
theorem bX (h:fw P L ks e (vo (fw P L ks f Q) Q) s g):fw P L ks (.seq e f) Q s g:=fun _ _ _ _ _ _ _ r=>
 wp_seq (wp_mono (h _ _ _ _ _ _ _ r) fun b a w ⟨s',g',c,j⟩=>by
  cases b with
  |normal=>exact c _ _ _ _ _ _ _ j
  |_=>exact⟨s',g',c,j⟩)
theorem ib {id:Nat} (h:fw P L ks e (Je id Q) s g):fw P L ks (.block id e) Q s g:=fun _ _ _ _ _ _ _ r=>
 wp_block (wp_mono (h _ _ _ _ _ _ _ r) fun b a w ⟨s',g',c,f⟩=>by
  cases b with
  |exit j=>
   simp only[Je]at c;simp only[Exit.inBlock];split at c
   ·rename_i hid;rw[if_pos hid];exact⟨s',g',c,f⟩
   rename_i hid;rw[if_neg hid];exact⟨s',g',c,f⟩
  |_=>exact⟨s',g',c,f⟩)
theorem FI {v:Bool} (n:s.ev m=some (.raw (.bool v))) (q:v=true->fw P L ks e Q s g) (o:v=false->fw P L ks f Q s g):fw P L ks (.cond m e f) Q s g:=fun _ _ _ _ _ _ _ r=>by
 obtain⟨t,p,u,j,b⟩:=id r.1.1;have l:=(aZ (bv b m _ n)).1;exact wp_cond_split l (fun h=>q h _ _ _ _ _ _ _ r) (fun h=>o h _ _ _ _ _ _ _ r)
theorem iN (b:s.ev m=some (.raw (.bool true))) (h:fw P L ks e Q s g):fw P L ks (.cond m e f) Q s g:=FI b (fun _=>h) (fun h=>by cases h)
theorem ir (b:s.ev m=some (.raw (.bool false))) (h:fw P L ks f Q s g):fw P L ks (.cond m e f) Q s g:=FI b (fun h=>by cases h) (fun _=>h)
theorem IX (b:s.ev m=some (.raw (.bool true))) (h:fw P L ks f Q s g):fw P L ks (.seq (.cond m .skip e) f) Q s g:=bX (iN b (eP h))
theorem IV {id:Nat} (b:s.ev m=some (.raw (.bool false))) (h:Q (.exit id) s g):fw P L ks (.seq (.cond m e (.exit id)) f) Q s g:=bX (ir b (pN h))
theorem Qv {G:Type} (St:G->AS) (Sc:G->γ) (q:G->Nat) (u:G) (F:bJ s (St u)) (v:Sc u=g) (round: ∀i,fw P L ks e (vo (fun s' g'=> ∃j,q j<q i/\bJ s' (St j)/\Sc j=g') Q) (St i) (Sc i)):fw P L ks (.loop e) Q s g:=fun vf Y w0 O X a w r=>by
 classical
 subst v
 let p:Act->World->Nat->Prop:=fun a w n=> ∃i,q i=n/\k9 L ks vf Y w0 O X (Sc i) (St i) a w
 let m:Act->World->Nat:=fun a w=>if h: ∃n,p a w n then Classical.choose (bN h)else 0
 refine wp_loop (fun a w=> ∃n,p a w n) m ⟨_,u,rfl,r.weak F⟩ ?_;intro a w x;have I:m a w=Classical.choose (bN x):=dif_pos x;obtain⟨E,o⟩:=adz (bN x);rw[<- I]at E;obtain⟨i,M,J⟩:=E;refine wp_mono (round i _ _ _ _ _ _ _ J) fun b B w' ⟨s',t,C,D⟩=>?_
 cases b with
 |normal=>
  obtain⟨j,H,K,y⟩:=C;subst y;have l:=D.weak K;have f: ∃n,p B w' n:=⟨_,j,rfl,l⟩;refine⟨f,?_⟩;have A:m B w'=Classical.choose (bN f):=dif_pos f;obtain⟨_,z⟩:=adz (bN f);have:=z (q j) ⟨j,rfl,l⟩;rw[A];omega
 |_=>exact⟨s',t,C,D⟩
theorem lQ {G:Type} (St:G->AS) (Sc:G->γ) (h:G->Nat) (b:G) {id:Nat} (j:bJ s (St b)) (c:Sc b=g) (round: ∀i,fw P L ks e (vo (fun s' g'=> ∃f,h f<h i/\bJ s' (St f)/\Sc f=g') (Je id Q)) (St i) (Sc i)):fw P L ks (.block id (.loop e)) Q s g:=
 ib (Qv St Sc h b j c round)
theorem LC (c:List (aq P)) (l:List Nat) {id:Nat} {b:Array Oper} (t:dK ks b=true) (h:aY P (c.map aq.a) l (aK b b.toList 0) (some s) (fun s=>Q .normal s g)):fw P L ks (.region id b false) Q s g:=fun vf Y w0 O X a w r=>by
 obtain⟨s',m,p⟩:=aP P (c.map aq.a) l b b.toList 0 s _ h;obtain⟨y,Oa,Xa,x,u⟩:=ii s a w r;refine(wpIn_wide (n:=0)).1 (wpIn_region (F:=FW none) ?_);have:=uQ (n:=0) (suf:=[]) (Q:=fun e f w'=> ∃s' g',Q e s' g'/\k9 L ks vf Y w0 O X g' s' f w') t b.toList 0 s s' a w (fun j o q=>by simpa using q) m x (fun f w' e v=>⟨s',g,p,u _ _ _ e v⟩);rw[adc,<- acK,afE]at this;exact this
theorem pP (b:List (aq P)) (f:List Nat) {id:Nat} {c:Array Oper} (j:dK ks c=true) (h: ∀K:AS->Prop,(∀s',fw P L ks e Q s' g->K s')->aY P (b.map aq.a) f (aK c c.toList 0) (some s) K):fw P L ks (.seq (.region id c false) e) Q s g:=
 bX (LC b f j (h _ fun _ h=>h))
theorem Qw (b:List (aq P)) (e:List Nat) {id:Nat} {c:Array Oper} (f:dK ks c=true) (h: ∀K:AS->Prop,(∀s',Q .normal s' g->K s')->aY P (b.map aq.a) e (aK c c.toList 0) (some s) K):fw P L ks (.region id c false) Q s g:=
 LC b e f (h _ fun _ h=>h)
theorem Cb {id:Nat} {b:Array Oper} (c:dK ks b=true) (h: ∀K:AS->Prop,(∀s',fw P L ks e Q s' g->K s')->aY P [] [] (aK b b.toList 0) (some s) K):fw P L ks (.seq (.region id b false) e) Q s g:=pP [] [] c h
theorem Ca {id:Nat} {b:Array Oper} (c:dK ks b=true) (h: ∀K:AS->Prop,(∀s',Q .normal s' g->K s')->aY P [] [] (aK b b.toList 0) (some s) K):fw P L ks (.region id b false) Q s g:=Qw [] [] c h
theorem FK (m:Nat) {args:List Value} {b:Bool} (x:vT P L n args g g' b) (e:List (aq P)) (j:List Nat) {id:Nat} {c:Array Oper} (o:dK ks c=true) (v:m<c.toList.length) (h: ∀K:AS->Prop,(∀f,(yTs c m f=some (n,args)/\ ∀K:AS->Prop,(∀s',Q .normal s' g'->K s')->aY P (e.map aq.a) j (aK c (c.toList.drop (m+1)) (m+1)) (some (yS c m b f)) K)->K f)->aY P (e.map aq.a) j (aK c (c.toList.take m) 0) (some s) K):fw P L ks (.region id c false) Q s g:=fun vf Y w0 O X a w B=>by
 obtain⟨f,p,q,r⟩:=aP P (e.map aq.a) j c _ 0 s _ (h (fun f=>yTs c m f=some (n,args)/\aY P (e.map aq.a) j (aK c (c.toList.drop (m+1)) (m+1)) (some (yS c m b f)) (fun s=>Q .normal s g')) fun f ⟨y,z⟩=>⟨y,z _ fun _ h=>h⟩);obtain⟨s',t,u⟩:=aP P (e.map aq.a) j c _ (m+1) _ _ r;exact vn (R1:=k9 L ks vf Y w0 O X g) (R2:=k9 L ks vf Y w0 O X g') ii ii m e j o v p (s9 o (Be x q)) t B fun C w' A=>⟨s',g',u,A⟩
/-! Row 0 stays where it lies. -/
def pB (b:Nat) (h:List Nat):AV->AV
 | .sl x r c len=>if x=b then .junk else .sl x r c len
 | .ptr x r i j=>if x=b then(if h.contains r=true then .ptr x r i j else .junk)else .ptr x r i j
 | .fn f x e=>if x=b then .junk else .fn f x e
 |x=>x
theorem Sp (c:Nat) (l:List Nat):rE (pB c l):=fun f b j=>by
 by_cases h:b=c
 ·exact .inl (if_pos h)
 exact .inr ⟨b,j,if_neg h,rfl,fun n q e=>⟨q,e,if_neg h⟩⟩
def uh (b:Nat) (c:List Nat):TV->TV
 | .one x=> .one (pB b c x)
 | .agg e=> .agg (e.map (pB b c))
 | .fn f e=> .fn f (e.map (pB b c))
 | .tup h=> .tup (h.map fun t=>(t.1,t.2.map (pB b c)))
theorem R9 {J p:Rho} {H r:OH} {Y A:Nat->Prop} {v:Value} (b:o.rel J H Y w v) (F: ∀x v,x.rel J H Y w v->AV.rel p r A w' (pB n h x) v):(uh n h o).rel p r A w' v:=by
 have e: ∀l v,bM J H Y w l v->bM p r A w' (l.map (pB n h)) v:=fun l v ⟨vs,C,D,E⟩=>by
  refine⟨vs,C,by simpa using D,fun j x M=>?_⟩;rw[ach]at M;obtain⟨y,T,rfl⟩:=acf.1 M;obtain⟨u,G,m,I⟩:=E j y T;exact⟨u,G,m,F y u I⟩
 cases o with
 |one x=>exact F x v b
 |agg l=>exact e l v b
 |fn f l=>obtain⟨u,R,S⟩:=b;exact⟨u,e l u R,S⟩
 |tup Z=>
  obtain⟨vs,C,D,E⟩:=b;refine⟨vs,C,by simpa using D,fun j c l K=>?_⟩;rw[ach]at K;obtain⟨z,U,q⟩:=acf.1 K;obtain⟨N,B⟩:=z;simp at q;obtain⟨rfl,rfl⟩:=q;obtain⟨u,G,m⟩:=E j N B U;refine⟨u,G,?_⟩;rcases m with⟨m,I⟩|⟨m,W,rfl,V⟩
  ·exact .inl ⟨m,e _ _ I⟩
  exact .inr ⟨m,_,rfl,F _ _ V⟩
structure mY (P:Program) (L:jd γ) (rs:List Nat) (f:FuncId) (args:List TV) (F F':List OObj) (g g':γ) (r:TV):Prop where
 able:callable P f=true
 sA: ∀t∈args,selfTV 0 t
 sR:selfTV 0 r
 sF: ∀o∈F,selfO 0 o
 sF': ∀o∈F',selfO 0 o
 sh: ∀r∈rs,∀o,F[r]?=some o-> ∃o',F'[r]?=some o'/\o'.es=o.es/\o.elems.length<=o'.elems.length
 calls: ∀(X Y:Nat->Prop) (w:World) (vs:Array Value) (ρ:Rho),Inv w (fun j=>famB F ρ j\/L.B j) X (famH 0 F) ρ w->(∀j,L.B j->X j)->(∀j,(famB F ρ j\/L.B j)\/w.heap.size<=j->Y j)->L.G g Y w->vs.size=args.length->
  (∀(j:Nat) t,args[j]?=some t-> ∃v:Value,vs[j]?=some v/\t.rel ρ (famH 0 F) (Xo X ρ (famH 0 F)) w v)->
  Calls P f vs w fun e w'=> ∃v,e= .returned v/\ ∃ρ':Rho,Inv w (fun j=>famB F ρ j\/L.B j) X (famH 0 F') ρ' w'/\L.G g' Y w'/\r.rel ρ' (famH 0 F') (Xo X ρ' (famH 0 F')) w' v/\ ∀r∈rs,∀b c,ρ 0 r=some (b,c)-> ∃c',ρ' 0 r=some (b,c')
theorem mY.toL {args:List TV} (e:mY P L h l args b c g g' o):tg P L l args b c g g' o:=
 ⟨e.able,e.sA,e.sR,e.sF,e.sF',fun X Y w vs B m n p q t u=>(e.calls X Y w vs B m n p q t u).mono fun _ _ ⟨v,x,j,y,z,A,_⟩=>⟨v,x,j,y,z,A⟩⟩
theorem tP {I:Func} {args:List TV} (hf:P.funcs[l]?=some I) (hb:I.body=some e) (hn:callable P l=true) (N:List (Nat×Nat)) (ha: ∀p∈N,args[p.2]?=some (.one (.ptr 0 p.1 0 0))) (sA: ∀t∈args,selfTV 0 t) (sR:selfTV 0 o) (sF: ∀y∈b,selfO 0 y) (sF': ∀y∈c,selfO 0 y) (sh: ∀o∈N.map Prod.fst,∀y,b[o]?=some y-> ∃o',c[o]?=some o'/\o'.es=y.es/\y.elems.length<=o'.elems.length) (h:fw P L (N.map Prod.snd) e (fun n s k=>(n= .normal\/n= .ret)/\k=g'/\ ∃s',bJ s s'/\Y9 P I c o s'/\ ∀p∈N,s'.tmps[p.2]?=some (.one (.ptr 0 p.1 0 0))) ⟨args++List.replicate (I.ntmps-args.length) .undef,famH 0 b⟩ g):mY P L (N.map Prod.fst) l args b c g g' o:=by
 refine⟨hn,sA,sR,sF,sF',sh,fun X Y w vs ρ K hB hY hG ae C=>?_⟩;refine calls_of_wp hf hb ?_;have U:dq w (fun j=>famB b ρ j\/L.B j) X ⟨args++List.replicate (I.ntmps-args.length) .undef,famH 0 b⟩ {tmps:=vs++Array.replicate (I.ntmps-vs.size) undef,defers:=[]} w:=by
  refine⟨rfl,by simp[ae],ρ,K,fun t x G=>?_⟩;by_cases ht:t<args.length
  ·rw[acx ht]at G;obtain⟨v,Z,W⟩:=C t x G;exact⟨v,by rw[ac8 (by omega)];exact Z,W⟩
  rw[acD (by omega),ac5]at G;split at G
  ·rename_i af;injection G with G
   subst G;refine⟨undef,?_,d6⟩;rw[ady (by omega),ae9,if_pos (by omega)]
  cases G
 refine wp_mono (h (fun k=>(vs++Array.replicate (I.ntmps-vs.size) undef)[k]?) Y _ _ _ _ _ ⟨⟨U,fun j hj=>⟨.inr hj,hB j hj⟩,hY,hG⟩,fun _ _=>rfl⟩) fun n a' w' ⟨s1,k,⟨ab,hk,s2,hw,⟨J,aa⟩,ac⟩,⟨M,_,_,R⟩,ad⟩=>?_
 subst hk;obtain⟨h1,ag,E,z,D⟩:=hw _ _ _ _ _ M;have D:bo X E s2 a' w':=D;rw[J]at z;obtain⟨v,Z,W⟩:=fq (by rw[J];exact z) D aa;rw[J]at W;have S: ∀q∈N.map Prod.fst,∀m e,ρ 0 q=some (m,e)-> ∃c',E 0 q=some (m,c'):=fun q hq m e A=>by
  obtain⟨p,hp,rfl⟩:=acn.1 hq;obtain⟨u0,hu0,o0,b0,c0,y1,y2,y3,y4⟩:=C p.2 _ (ha p hp);have T:p.2<vs.size:=(acB.1 hu0).1;obtain⟨u,V,o1,b1,c1,z1,z2,z3,H⟩:=D p.2 _ (ac p hp);rw[ad p.2 (acn.2 ⟨p,hp,rfl⟩)]at V;simp only[ac8 T,hu0]at V;injection V with V
  rw[<- V,y4]at H;injection H with H
  injection H with H
  injection H with H _ _
  rw[y2]at A;injection A with A
  injection A with A _
  exact⟨c1,by rw[z2,<- H,A]⟩
 rcases ab with rfl|rfl
 ·exact⟨h1,v,Z,v,rfl,E,z,R,W,S⟩
 exact⟨h1,v,Z,v,rfl,E,z,R,W,S⟩
def Jo (c:Array Oper) (m:Nat) (r:TV) (b:Nat) (f:List Nat) (e:List OObj) (s:AS):AS:=AS.put ⟨s.tmps.map (uh b f),aF s.H b (e.map (renO b))⟩ (cwD c m) (renTV b r)
theorem KB {args:List TV} (D:mY P L h l args b c g g' o) (a1:n<=4999) {C:Oper} {J:AS} (E:r9 C J=some (l,args.map (renTV n))) (T:J.H n=b.map (renO n)):
  Du P C (gK L Y w0 O X g J) (gK L Y w0 O X g' (AS.put ⟨J.tmps.map (uh n h),aF J.H n (c.map (renO n))⟩ C.dst (renTV n o))):=fun a w K Q ⟨⟨h1,ac,ρ,N,G⟩,hB,hY,hG⟩ hK=>by
 have G:bo X ρ J a w:=G;obtain⟨X1,al,g1,g2,g3,gF,g5,g6⟩:=Cx (B:=L.B) h1 ac N G hB D.sR D.sF D.sF' a1 T;refine lB (.inl rfl) ?_;have key: ∀vs:Array Value,(execOp a.eval C).run P w= .ok (.enter l vs) w->vs.size=args.length->(∀(j:Nat) t,args[j]?=some t-> ∃v:Value,vs[j]?=some v/\(renTV n t).rel ρ J.H (Xo X ρ J.H) w v)->C.wp P a w K Q:=fun vs ag a5 Z=>by
  unfold Oper.wp;rw[ag];simp only[Oper.upon];have av: ∀j,(famB b al j\/L.B j)\/w.heap.size<=j->Y j:=fun j R=>hY j (by
   rcases R with(R|R)|R
   ·obtain⟨y,C,q,k1,k2⟩:=gF j R;exact(N.old n y C j q k1 k2).1.symm
   ·exact .inl (hB j R).1
   exact .inr (acl N.keep.size R))
  refine(D.calls X1 Y w vs al g1 g2 av hG a5 fun j t ht=>?_).mono ?_
  ·obtain⟨v,v1,v2⟩:=Z j t ht;exact⟨v,v1,g3 t v (D.sA t (acd ht)) v2⟩
  rintro e w1 ⟨v,rfl,a6,hi,ap,a3,a2⟩;obtain⟨an,q0,q1,q2,q3⟩:=g6 v w1 a6 hi a3;have ah:bo X an ⟨J.tmps.map (uh n h),aF J.H n (c.map (renO n))⟩ a w1:=fun t x hx=>by
   simp only[ach]at hx;obtain⟨y,I,rfl⟩:=acf.1 hx;obtain⟨u,u1,u2⟩:=G t y I;refine⟨u,u1,R9 u2 (ic (Sp n h) fun x v hn A=>?_)⟩;have hk:=q2 x v A;cases x with
   |fn=>cases hn
   |p x=>exact hk
   |junk=>trivial
   |sl z y a7 len=>
    simp only[pB];by_cases U:z=n
    ·rw[if_pos U];trivial
    rw[if_neg U];simpa[aR,kF,U] using hk
   |ptr z y i j=>
    simp only[pB];by_cases U:z=n
    ·rw[if_pos U];by_cases I:h.contains y=true
     ·rw[if_pos I];have I:y∈h:=by simpa using I
      subst U;obtain⟨o1,m,q,z1,z2,z3,z4⟩:=A;rw[T,ach]at z1;obtain⟨o2,z5,rfl⟩:=acf.1 z1;obtain⟨o3,z6,z7,z8⟩:=D.sh y I o2 z5;obtain⟨c',z9⟩:=a2 y I m q (by rw[g5];exact z2);refine⟨renO z o3,m,c',by rw[aS,ach,z6];rfl,by rw[q0];exact z9,?_,?_⟩
      ·have:i<o2.elems.length:=by simpa[renO] using z3
       simp only[renO,ac0];omega
      rw[z4];simp[renO,z7]
     rw[if_neg I];trivial
    rw[if_neg U];simpa[aR,kF,U] using hk
  refine hK v w1 ⟨⟨by rw[gX];exact h1,by rw[kK,ke];simpa using ac,an,by rw[gP];exact q1,qo (s:=⟨J.tmps.map (uh n h),aF J.H n (c.map (renO n))⟩) (by simpa using ac) ah q3⟩,hB,hY,ap⟩
 unfold r9 at E;split at E
 ·rename_i q af;split at E
  ·rename_i f' M;obtain⟨ts,aa,e⟩:=acf.1 E;injection e with e e'
   subst e e';obtain⟨V,e2⟩:=bP aa;have ab:q.args.size=args.length:=by simpa using V.symm
   refine key _ (fW af M rfl D.able) (by simp[ab]) fun j t ht=>?_
   obtain⟨y,I,ad⟩:=e2 j (renTV n t) (by rw[ach,ht];rfl);refine⟨a.eval y,?_,bv G y _ ad⟩;rw[adp];have:q.args[j]?=some y:=by simpa using I
   rw[this];rfl
  ·rename_i k M;split at E
   ·rename_i f' W ts a0 aa;injection E with E
    injection E with e e'
    subst e;obtain⟨V,e2⟩:=bP aa;obtain⟨us,k1,k2,k3⟩:=lD (v:=a.eval (.tmp k)) (fun t0 a4=>bv G (.tmp k) t0 a4) a0;have ae:args.length=q.args.size+us.size:=by
     have:=congrArg List.length e';simp[V,<- k2]at this;omega
    refine key _ (lL af M k1 D.able) (by simp[ae]) fun j t ht=>?_
    have S:(ts++W)[j]?=some (renTV n t):=by rw[e',ach,ht];rfl
    by_cases R:j<ts.length
    ·rw[acx R]at S;obtain⟨y,I,ad⟩:=e2 j _ S;refine⟨a.eval y,?_,bv G y _ ad⟩;rw[ac8 (by simp at V⊢;omega),adp];have:q.args[j]?=some y:=by simpa using I
     rw[this];rfl
    rw[acD (by omega)]at S;obtain⟨v,v1,v2⟩:=k3 _ _ S;refine⟨v,?_,v2⟩;rw[ady (by simp at V⊢;omega)];simp at V⊢;rw[<- V];exact v1
   cases E
  cases E
 cases E
theorem Bc {args:List TV} (t:mY P L h l args b c g g' o) (u:n<=4999) {p:Array Oper} {m:Nat} (e:Fo p m l args n b s):
  yG P p m (gK L Y w0 O X g s) (gK L Y w0 O X g' (Jo p m o n h c s)):=by
 obtain⟨q,x⟩:=e;unfold cxTs at q;split at q
 ·rename_i j v;split at q
  ·rename_i y;refine⟨j,v,by simpa using y,?_⟩;unfold Jo cwD;rw[v];exact KB t u q x
  cases q
 cases q
theorem jQ (m:Nat) {args:List TV} (v:mY P L h l args b c g g' o) (u:Nat) (n:List (aq P)) (t:List Nat) {id:Nat} {j:Array Oper} (y:dK ks j=true) (x:u<=4999) (D:m<j.toList.length) (e: ∀K:AS->Prop,(∀p,(Fo j m l args u b p/\ ∀K:AS->Prop,(∀s',Q .normal s' g'->K s')->aY P (n.map aq.a) t (aK j (j.toList.drop (m+1)) (m+1)) (some (Jo j m o u h c p)) K)->K p)->aY P (n.map aq.a) t (aK j (j.toList.take m) 0) (some s) K):fw P L ks (.region id j false) Q s g:=fun vf Y w0 O X a w I=>by
 obtain⟨p,z,q,A⟩:=aP P (n.map aq.a) t j _ 0 s _ (e (fun p=>Fo j m l args u b p/\aY P (n.map aq.a) t (aK j (j.toList.drop (m+1)) (m+1)) (some (Jo j m o u h c p)) (fun s=>Q .normal s g')) fun p ⟨E,G⟩=>⟨E,G _ fun _ e=>e⟩);obtain⟨s',B,C⟩:=aP P (n.map aq.a) t j _ (m+1) _ _ A;exact vn (R1:=k9 L ks vf Y w0 O X g) (R2:=k9 L ks vf Y w0 O X g') ii ii m n t y D z (s9 y (Bc v x q)) B I fun J w' H=>⟨s',g',C,H⟩
theorem pO (v:P.follows .mixedOrders=true) {args:List TV} (t:mY P L h l args b c g g' o) (p:Nat) (m:List (aq P)) (x:List Nat) {id:Nat} {j:Array Oper} (y:dK ks j=true) (u:p<=4999) (B:JH j=true) (e: ∀K:AS->Prop,(∀n,(Fo j (j.size-1) l args p b n/\Q .normal (Jo j (j.size-1) o p h c n) g')->K n)->aY P (m.map aq.a) x (aK j (j.toList.take (j.size-1)) 0) (some s) K):fw P L ks (.region id j true) Q s g:=fun vf Y w0 O X a w D=>by
 obtain⟨n,z,q,A⟩:=aP P (m.map aq.a) x j _ 0 s _ (e (fun n=>Fo j (j.size-1) l args p b n/\Q .normal (Jo j (j.size-1) o p h c n) g') fun _ q=>q);exact zB (R1:=k9 L ks vf Y w0 O X g) (R2:=k9 L ks vf Y w0 O X g') ii v m x y B z (s9 y (Bc t u q)) D fun E w' C=>⟨_,g',A,C⟩
theorem n4 (b r:Nat) {o o':OObj} (D:(s.H b)[r]?=some o) (M:o'.ty=o.ty) (B:o'.es=o.es) (q:o'.elems.length=o.elems.length) (f: ∀(i:Nat) l,o'.elems[i]?=some l-> ∃e,o.elems[i]?=some e/\l.length=e.length/\ ∀(j:Nat) x,l[j]?=some x->x= .junk\/e[j]?=some x):
  bJ s ⟨s.tmps,aF s.H b ((s.H b).set r o')⟩:=by
 rintro w0 O X J w ⟨N,E,A,h,n⟩;have n:bo X A s J w:=n;obtain⟨q1,q2,I⟩:=id (h.objs b r o D);cases K:A b r with
 |none=>
  rw[K]at I;have l:o'.elems=[]:=aee (by rw[q,I];rfl);have T:o'=o:=by
   cases o;cases o';simp_all
  subst T;have:(s.H b).set r o'=s.H b:=by
   apply acz;intro i;rw[adj];split
   ·rename_i C;subst C;rw[if_pos (aci.1 D).1,D]
   rfl
  rw[this,show aF s.H b (s.H b)=s.H from funext fun x=>by unfold aF;split<;>simp_all];exact⟨N,E,A,h,n⟩
 |some S=>
  obtain⟨p,c⟩:=S;rw[K]at I;obtain⟨cells,Z,p2,p3,p4,p5⟩:=I;have old: ∀(i:Nat) l (j:Nat) x,o'.elems[i]?=some l->l[j]?=some x-> ∃v:Value,cells[i*o.es+j]?=some v/\v.oneCell'=true/\x.rel A s.H (Xo X A s.H) w v:=fun i l j x U z=>by
   obtain⟨e,F,R,m⟩:=f i l U;have G:j<e.length:=by have:=(aci.1 z).1;omega
   obtain⟨u,u1,u2,u3⟩:=p5 i e j e[j] F (acy G);refine⟨u,u1,u2,?_⟩;rcases m j x z with rfl|m
   ·trivial
   rw[acy G]at m;injection m with m
   rw[<- m];exact u3
  obtain⟨V,W⟩:=zU h D K Z M B q (fun l y=>by
   obtain⟨i,C⟩:=adr.1 y;obtain⟨e,F,R,_⟩:=f i l C;rw[R,B];exact q1 e (acd F)) (fun l y x z=>by
   obtain⟨i,C⟩:=adr.1 y;obtain⟨j,G⟩:=adr.1 z;obtain⟨e,F,_,m⟩:=f i l C;rcases m j x G with rfl|m
   ·trivial
   exact h.self b r o D e (acd F) x (acd m)) old
  exact⟨N,E,A,V,fun t x z=>by
   obtain⟨v,v1,v2⟩:=n t x z;exact⟨v,v1,TV.rel_map v2 W⟩⟩
end
end
theorem zp: ∀(x y:List Int),dn x y= -1\/dn x y=0\/dn x y=1
 |[],[]=>by simp[dn]
 |[],_::_=>by simp[dn]
 |_::_,[]=>by simp[dn]
 |a::x,b::y=>by
  have:=zp x y;unfold dn;split
  ·simp
  split
  ·simp
  exact this
theorem vW: ∀(x y:List Int),dn y x= - dn x y
 |[],[]=>by simp[dn]
 |[],_::_=>by simp[dn]
 |_::_,[]=>by simp[dn]
 |a::x,b::y=>by
  have:=vW x y;unfold dn;by_cases c:a<b
  ·rw[if_pos c,if_neg (by omega),if_pos c];rfl
  by_cases e:b<a
  ·rw[if_pos e,if_neg c,if_pos e]
  rw[if_neg e,if_neg c,if_neg c,if_neg e,this]
theorem ox: ∀{x y z:List Int},dn x y<0->dn y z<0->dn x z<0
 |[],[],_,h,_=>by simp[dn]at h
 |_::_,[],_,h,_=>by simp[dn]at h
 |[],_::_,[],_,h=>by simp[dn]at h
 |[],_::_,_::_,_,_=>by simp[dn]
 |_::_,_::_,[],_,h=>by simp[dn]at h
 |a::x,b::y,c::z,f,e=>by
  unfold dn at f e⊢;by_cases m:a<b
  ·by_cases j:b<c
   ·rw[if_pos (by omega)];omega
   rw[if_neg j]at e;by_cases g:c<b
   ·rw[if_pos g]at e;omega
   rw[if_pos (by omega)];omega
  rw[if_neg m]at f;by_cases g:b<a
  ·rw[if_pos g]at f;omega
  rw[if_neg g]at f;by_cases j:b<c
  ·rw[if_pos (by omega)];omega
  rw[if_neg j]at e;by_cases l:c<b
  ·rw[if_pos l]at e;omega
  rw[if_neg l]at e;rw[if_neg (by omega),if_neg (by omega)];exact ox f e
def pD (a b:Int×List Int):Prop:=a.1<b.1\/a.1=b.1/\dn a.2 b.2<0
instance (a b:Int×List Int):Decidable (pD a b):=inferInstanceAs (Decidable (_\/_))
def kV (x:Int×List Int):List (Int×List Int)->List (Int×List Int)
 |[]=>[x]
 |a::l=>if pD a x then a::kV x l else if pD x a then x::a::l else a::l
def jM (l:List (Int×List Int)):List (Int×List Int):=l.foldl (fun acc x=>kV x acc) []
theorem oM (a:Int×List Int): ¬pD a a:=by
 unfold pD;rw[ig];omega
theorem CG {a c:Int×List Int} (e:pD a j) (g:pD j c):pD a c:=by
 unfold pD at*
 rcases e with e|⟨e,f⟩<;>rcases g with g|⟨g,h⟩
 ·omega
 ·omega
 ·omega
 exact .inr ⟨by omega,ox f h⟩
theorem wm {a:Int×List Int} (f: ¬pD a j) (g: ¬pD j a):a=j:=by
 unfold pD at*
 have h:=vW a.2 j.2;have c:a.1=j.1:=by omega
 have e:dn a.2 j.2=0:=by omega
 exact Prod.ext c (qI e)
def BV (l:List (Int×List Int)):Prop:=l.Pairwise pD
theorem DG: ∀{l m:List (Int×List Int)},BV l->BV m->(∀x,x∈l↔x∈m)->l=m
 |[],[],_,_,_=>rfl
 |[],b::m,_,_,h=>by have:=(h b).2 adf;simp at this
 |a::l,[],_,_,h=>by have:=(h a).1 adf;simp at this
 |a::l,b::m,r,s,h=>by
  obtain⟨f,n⟩:=adX.1 r;obtain⟨g,o⟩:=adX.1 s;have e:a=b:=by
   rcases acR.1 ((h a).1 adf)with e|p
   ·exact e
   rcases acR.1 ((h b).2 adf)with e|q
   ·exact e.symm
   exact absurd (CG (g a p) (f b q)) (oM b)
  subst e;rw[DG n o (fun x=>?_)];constructor
  ·intro j;rcases acR.1 ((h x).1 (ac6 _ j))with e|c
   ·subst e;exact absurd (f x j) (oM x)
   exact c
  intro j;rcases acR.1 ((h x).2 (ac6 _ j))with e|c
  ·subst e;exact absurd (g x j) (oM x)
  exact c
theorem uE {x y:Int×List Int}: ∀{l:List (Int×List Int)},y∈kV x l↔y=x\/y∈l
 |[]=>by simp[kV]
 |a::l=>by
  unfold kV;split
  ·rw[acR,uE,acR];constructor
   ·rintro(h|h|h)
    ·exact .inr (.inl h)
    ·exact .inl h
    exact .inr (.inr h)
   rintro(h|h|h)
   ·exact .inr (.inl h)
   ·exact .inl h
   exact .inr (.inr h)
  split
  ·rw[acR]
  rename_i b c;have e:=wm c b;constructor
  ·exact .inr
  rintro(h|h)
  ·rw[h,e];exact adf
  exact h
theorem AC {x:Int×List Int}: ∀{l:List (Int×List Int)},BV l->BV (kV x l)
 |[],_=>by simp[kV,BV]
 |a::l,h=>by
  obtain⟨f,g⟩:=adX.1 h;unfold kV;split
  ·rename_i b;refine adX.2 ⟨fun y c=>?_,AC g⟩;rcases uE.1 c with e|c
   ·rw[e];exact b
   exact f y c
  split
  ·rename_i b;refine adX.2 ⟨fun y c=>?_,h⟩;rcases acR.1 c with e|c
   ·rw[e];exact b
   exact CG b (f y c)
  exact h
theorem zN: ∀(l acc:List (Int×List Int)),BV acc->BV (l.foldl (fun acc x=>kV x acc) acc)/\ ∀y,y∈l.foldl (fun acc x=>kV x acc) acc↔y∈l\/y∈acc
 |[],acc,h=>⟨h,fun y=>by simp⟩
 |x::l,acc,h=>by
  obtain⟨b,c⟩:=zN l (kV x acc) (AC h);refine⟨b,fun y=>?_⟩;show y∈l.foldl _ (kV x acc)↔_;rw[c,uE,acR];constructor
  ·rintro(h|h|h)
   ·exact .inl (.inr h)
   ·exact .inl (.inl h)
   exact .inr h
  rintro((h|h)|h)
  ·exact .inr (.inl h)
  ·exact .inl h
  exact .inr (.inr h)
theorem Dk (l:List (Int×List Int)):BV (jM l):=(zN l [] (by simp[BV])).1
theorem Dl {l:List (Int×List Int)}:j∈jM l↔j∈l:=by
 unfold jM;rw[(zN l [] (by simp[BV])).2];simp
/-! Insertion. -/
def Fk (x:Int×List Int):List (Int×List Int)->Nat
 |[]=>0
 |a::l=>if pD a x then Fk x l+1 else 0
theorem Ez (x:Int×List Int): ∀l,Fk x l<=l.length
 |[]=>acs _
 |a::l=>by unfold Fk;have:=Ez x l;split<;>simp<;>omega
theorem Kg (x:Int×List Int): ∀(l:List (Int×List Int)) (i:Nat) a,l[i]?=some a->i<Fk x l->pD a x
 |[],i,a,h,_=>by simp at h
 |b::l,i,a,h,c=>by
  unfold Fk at c;split at c
  ·cases i with
   |zero=>simp at h;subst h;assumption
   |succ i=>exact Kg x l i a (by simpa using h) (by omega)
  omega
theorem Kf (x:Int×List Int): ∀(l:List (Int×List Int)) a,l[Fk x l]?=some a-> ¬pD a x
 |[],a,h=>by simp at h
 |b::l,a,h=>by
  unfold Fk at h;split at h
  ·exact Kf x l a (by simpa using h)
  simp at h;subst h;assumption
theorem uF (x:Int×List Int): ∀l:List (Int×List Int),kV x l=match l[Fk x l]? with
  |some a=>if pD x a then l.take (Fk x l)++x::l.drop (Fk x l)else l
  |none=>l.take (Fk x l)++x::l.drop (Fk x l)
 |[]=>rfl
 |a::l=>by
  unfold kV Fk;split
  ·rw[uF x l];simp only[adY];cases l[Fk x l]? with
   |none=>rfl
   |some b=>simp only;split<;>rfl
  simp only[adZ];split<;>rfl
theorem Hg (x:Int×List Int) (l:List (Int×List Int)):(kV x l).length<=l.length+1:=by
 rw[uF];have b:(l.take (Fk x l)++x::l.drop (Fk x l)).length=l.length+1:=by
  have:=Ez x l;simp;omega
 split
 ·split
  ·omega
  omega
 omega
theorem LO (b:Int) (x:List Int) (c:Int) (y:List Int):NQ b x c y=if b<c then -1 else if c<b then 1 else dn x y:=by
 grind [NQ,YF,si]
theorem LP {b c:Int} {x y:List Int}:NQ b x c y<0↔b<c\/b=c/\dn x y<0:=by
 grind [LO]
theorem NR {b c:Int} {x y:List Int}:NQ b x c y=0↔b=c/\x=y:=by
 grind [LO,qI,ig]
theorem Ad {c:Type} (f:c->NItem) (x y:c):ltOf (fun a b=>kY (f a) (f b)) x y=true↔(f x).key<(f y).key\/(f x).key=(f y).key/\dn (f x).vals (f y).vals<0:=by
 grind [ltOf,kY,LP]
theorem abI {j:Type} (f:j->NItem):Sort.SWO (ltOf fun a b=>kY (f a) (f b)) where
 irrefl x:=by
  rw[<- Bool.not_eq_true,Ad,ig];omega
 trans x y z c e:=by
  rw[Ad]at*
  rcases c with c|⟨c,g⟩<;>rcases e with e|⟨e,h⟩
  ·omega
  ·omega
  ·omega
  exact .inr ⟨by omega,ox g h⟩
 ntrans x y z c e:=by
  rw[<- Bool.not_eq_true,Ad]at*
  grind [vW,zp,qI,ox]
end Go.Proofs.YtalmoejhjceflaaGreat
