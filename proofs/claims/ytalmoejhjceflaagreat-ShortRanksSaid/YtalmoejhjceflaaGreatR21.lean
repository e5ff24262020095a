/-
  Part 22 of a proof (walks and plain facts).
-/
import Derived.Test.YtalmoejhjceflaaGreatR20
import Derived.Shelf.SlSortCmp.WholeK
set_option linter.all false
set_option maxRecDepth 100000
set_option maxHeartbeats 64000000
namespace Go.Proofs.YtalmoejhjceflaaGreat
open Go.RowKit Go.Proofs.Tryz
variable {b c:List OObj} {e:List NItem} {n m:Nat} {f g:Code} {h:Array Oper} {j:List Nat} {w:World} {l:FuncId} {o:Operand} {p:NItem} {q:TV} {s:AS}
section
section
variable {P:Program} {γ:Type} {L:f5 γ} {g g':γ} {w0 w w':World} {O X Y:Nat->Prop} {s s':AS} {a:Act} {ks:List Nat} {vf:Nat->Option Value}
def jA (L:f5 γ) (ks:List Nat) (vf:Nat->Option Value) (Y:Nat->Prop) (w0:World) (O X:Nat->Prop) (g:γ) (s:AS) (a:Act) (w:World):Prop:=fi L Y w0 O X g s a w/\ ∀k∈ks,a.tmps[k]?=vf k
theorem fK:yD ks (jA L ks vf Y w0 O X g):=fun s a w ⟨h,n⟩=>by
 obtain⟨o,c,f,l,m⟩:=sQ s a w h;exact⟨o,c,f,l,fun s' j w' e r=>⟨m s' j w' r,fun k b=>(e k b).trans (n k b)⟩⟩
theorem pZ (t:cW ks h=true) {f:AS} (b:vp P h n (fi L Y w0 O X g s) (fi L Y w0 O X g' f)):vp P h n (jA L ks vf Y w0 O X g s) (jA L ks vf Y w0 O X g' f):=by
 obtain⟨o,e,q,u⟩:=b;exact⟨o,e,q,fun a w K Q ⟨j,l⟩ p=>u a w K Q j fun v w' r=>p v w' ⟨r,fun k c=>(lJ t e v k c).trans (l k c)⟩⟩
def dW (P:Program) (L:f5 γ) (ks:List Nat) (c:Code) (Q:Exit->AS->γ->Prop) (s:AS) (g:γ):Prop:=
 ∀(vf:Nat->Option Value) (Y:Nat->Prop) (w0:World) (O X:Nat->Prop) (a:Act) (w:World),jA L ks vf Y w0 O X g s a w->c.wp P (fun e b w'=> ∃s' g',Q e s' g'/\jA L ks vf Y w0 O X g' s' b w') a w
variable {Q:Exit->AS->γ->Prop}
theorem jA.weak (h:bG s s') (r:jA L ks vf Y w0 O X g s a w):jA L ks vf Y w0 O X g s' a w:=⟨r.1.weak h,r.2⟩
theorem dW.weak (h:bG s s') (q:dW P L ks f Q s' g):dW P L ks f Q s g:=fun _ _ _ _ _ _ _ r=>q _ _ _ _ _ _ _ (r.weak h)
theorem dM (h:Q .normal s g):dW P L ks .skip Q s g:=fun _ _ _ _ _ _ _ r=>wp_skip ⟨s,g,h,r⟩
theorem ni {id:Nat} (h:Q (.exit id) s g):dW P L ks (.exit id) Q s g:=fun _ _ _ _ _ _ _ r=>wp_exit ⟨s,g,h,r⟩
theorem jB (h:Q .ret s g):dW P L ks .ret Q s g:=fun _ _ _ _ _ _ _ r=>wp_ret ⟨s,g,h,r⟩
theorem bA {y:Code} (h:dW P L ks f (rP (dW P L ks y Q) Q) s g):dW P L ks (.seq f y) Q s g:=fun _ _ _ _ _ _ _ r=>
 wp_seq (wp_mono (h _ _ _ _ _ _ _ r) fun e a w ⟨s',g',b,c⟩=>by
  cases e with
  |normal=>exact b _ _ _ _ _ _ _ c
  |_=>exact⟨s',g',b,c⟩)
theorem dz {id:Nat} (h:dW P L ks f (FS id Q) s g):dW P L ks (.block id f) Q s g:=fun _ _ _ _ _ _ _ r=>
 wp_block (wp_mono (h _ _ _ _ _ _ _ r) fun e a w ⟨s',g',b,c⟩=>by
  cases e with
  |exit j=>
   simp only[FS]at b;simp only[Exit.inBlock];split at b
   ·rename_i hid;rw[if_pos hid];exact⟨s',g',b,c⟩
   rename_i hid;rw[if_neg hid];exact⟨s',g',b,c⟩
  |_=>exact⟨s',g',b,c⟩)
theorem CQ {y:Code} {v:Bool} (l:s.ev o=some (.raw (.bool v))) (p:v=true->dW P L ks f Q s g) (m:v=false->dW P L ks y Q s g):dW P L ks (.cond o f y) Q s g:=fun _ _ _ _ _ _ _ r=>by
 obtain⟨q,n,t,e,b⟩:=id r.1.1;have j:=(aX (bz b o _ l)).1;exact wp_cond_split j (fun h=>p h _ _ _ _ _ _ _ r) (fun h=>m h _ _ _ _ _ _ _ r)
theorem fO {y:Code} (b:s.ev o=some (.raw (.bool true))) (h:dW P L ks f Q s g):dW P L ks (.cond o f y) Q s g:=CQ b (fun _=>h) (fun h=>by cases h)
theorem fq {y:Code} (b:s.ev o=some (.raw (.bool false))) (h:dW P L ks y Q s g):dW P L ks (.cond o f y) Q s g:=CQ b (fun h=>by cases h) (fun _=>h)
theorem nk {z:Code} (b:s.ev o=some (.raw (.bool true))) (h:dW P L ks z Q s g):dW P L ks (.seq (.cond o .skip f) z) Q s g:=bA (fO b (dM h))
theorem pa {z:Code} {id:Nat} (b:s.ev o=some (.raw (.bool false))) (h:Q (.exit id) s g):dW P L ks (.seq (.cond o f (.exit id)) z) Q s g:=bA (fq b (ni h))
theorem Nb {G:Type} (St:G->AS) (Sc:G->γ) (q:G->Nat) (u:G) (F:bG s (St u)) (v:Sc u=g) (round: ∀i,dW P L ks f (rP (fun s' g'=> ∃j,q j<q i/\bG s' (St j)/\Sc j=g') Q) (St i) (Sc i)):dW P L ks (.loop f) Q s g:=fun vf Y w0 O X a w r=>by
 classical
 subst v
 let p:Act->World->Nat->Prop:=fun a w n=> ∃i,q i=n/\jA L ks vf Y w0 O X (Sc i) (St i) a w
 let m:Act->World->Nat:=fun a w=>if h: ∃n,p a w n then Classical.choose (bE h)else 0
 refine wp_loop (fun a w=> ∃n,p a w n) m ⟨_,u,rfl,r.weak F⟩ ?_;intro a w x;have I:m a w=Classical.choose (bE x):=dif_pos x;obtain⟨E,o⟩:=abw (bE x);rw[<- I]at E;obtain⟨i,M,J⟩:=E;refine wp_mono (round i _ _ _ _ _ _ _ J) fun e B w' ⟨s',t,C,D⟩=>?_
 cases e with
 |normal=>
  obtain⟨j,H,K,y⟩:=C;subst y;have l:=D.weak K;have b: ∃n,p B w' n:=⟨_,j,rfl,l⟩;refine⟨b,?_⟩;have A:m B w'=Classical.choose (bE b):=dif_pos b;obtain⟨_,z⟩:=abw (bE b);have:=z (q j) ⟨j,rfl,l⟩;rw[A];omega
 |_=>exact⟨s',t,C,D⟩
theorem fw {G:Type} (St:G->AS) (Sc:G->γ) (h:G->Nat) (b:G) {id:Nat} (j:bG s (St b)) (c:Sc b=g) (round: ∀i,dW P L ks f (rP (fun s' g'=> ∃e,h e<h i/\bG s' (St e)/\Sc e=g') (FS id Q)) (St i) (Sc i)):dW P L ks (.block id (.loop f)) Q s g:=
 dz (Nb St Sc h b j c round)
theorem Iu (c:List (ao P)) (l:List Nat) {id:Nat} (t:cW ks h=true) (b:aS P (c.map ao.a) l (aJ h h.toList 0) (some s) (fun s=>Q .normal s g)):dW P L ks (.region id h false) Q s g:=fun vf Y w0 O X a w r=>by
 obtain⟨s',m,p⟩:=aR P (c.map ao.a) l h h.toList 0 s _ b;obtain⟨y,Oa,Xa,x,u⟩:=fK s a w r;refine(wpIn_wide (n:=0)).1 (wpIn_region (F:=FW none) ?_);have:=rr (n:=0) (suf:=[]) (Q:=fun e f w'=> ∃s' g',Q e s' g'/\jA L ks vf Y w0 O X g' s' f w') t h.toList 0 s s' a w (fun j o q=>by simpa using q) m x (fun f w' e v=>⟨s',g,p,u _ _ _ e v⟩);rw[aa8,<- aaX,adg]at this;exact this
theorem lA (c:List (ao P)) (e:List Nat) {id:Nat} (j:cW ks h=true) (b: ∀K:AS->Prop,(∀s',dW P L ks f Q s' g->K s')->aS P (c.map ao.a) e (aJ h h.toList 0) (some s) K):dW P L ks (.seq (.region id h false) f) Q s g:=
 bA (Iu c e j (b _ fun _ b=>b))
theorem CS (c:List (ao P)) (e:List Nat) {id:Nat} (f:cW ks h=true) (b: ∀K:AS->Prop,(∀s',Q .normal s' g->K s')->aS P (c.map ao.a) e (aJ h h.toList 0) (some s) K):dW P L ks (.region id h false) Q s g:=
 Iu c e f (b _ fun _ b=>b)
theorem yO {id:Nat} (c:cW ks h=true) (b: ∀K:AS->Prop,(∀s',dW P L ks f Q s' g->K s')->aS P [] [] (aJ h h.toList 0) (some s) K):dW P L ks (.seq (.region id h false) f) Q s g:=lA [] [] c b
theorem yM {id:Nat} (c:cW ks h=true) (b: ∀K:AS->Prop,(∀s',Q .normal s' g->K s')->aS P [] [] (aJ h h.toList 0) (some s) K):dW P L ks (.region id h false) Q s g:=CS [] [] c b
theorem CT (m:Nat) {args:List Value} {b:Bool} (x:sj P L n args g g' b) (e:List (ao P)) (j:List Nat) {id:Nat} (o:cW ks h=true) (v:m<h.toList.length) (c: ∀K:AS->Prop,(∀f,(Yd h m f=some (n,args)/\ ∀K:AS->Prop,(∀s',Q .normal s' g'->K s')->aS P (e.map ao.a) j (aJ h (h.toList.drop (m+1)) (m+1)) (some (yS h m b f)) K)->K f)->aS P (e.map ao.a) j (aJ h (h.toList.take m) 0) (some s) K):dW P L ks (.region id h false) Q s g:=fun vf Y w0 O X a w B=>by
 obtain⟨f,p,q,r⟩:=aR P (e.map ao.a) j h _ 0 s _ (c (fun f=>Yd h m f=some (n,args)/\aS P (e.map ao.a) j (aJ h (h.toList.drop (m+1)) (m+1)) (some (yS h m b f)) (fun s=>Q .normal s g')) fun f ⟨y,z⟩=>⟨y,z _ fun _ c=>c⟩);obtain⟨s',t,u⟩:=aR P (e.map ao.a) j h _ (m+1) _ _ r;exact rO (R1:=jA L ks vf Y w0 O X g) (R2:=jA L ks vf Y w0 O X g') fK fK m e j o v p (pZ o (xX x q)) t B fun C w' A=>⟨s',g',u,A⟩
/-! Row 0 stays where it lies. -/
def mu (b:Nat) (h:List Nat):AV->AV
 | .sl x r c len=>if x=b then .junk else .sl x r c len
 | .ptr x r i j=>if x=b then(if h.contains r=true then .ptr x r i j else .junk)else .ptr x r i j
 | .fn f x e=>if x=b then .junk else .fn f x e
 |x=>x
theorem OT (c:Nat) (l:List Nat):oR (mu c l):=fun f b j=>by
 by_cases h:b=c
 ·exact .inl (if_pos h)
 exact .inr ⟨b,j,if_neg h,rfl,fun n q e=>⟨q,e,if_neg h⟩⟩
def pB (b:Nat) (c:List Nat):TV->TV
 | .one x=> .one (mu b c x)
 | .agg e=> .agg (e.map (mu b c))
 | .fn f e=> .fn f (e.map (mu b c))
 | .tup h=> .tup (h.map fun t=>(t.1,t.2.map (mu b c)))
theorem OC {J o:Rho} {H r:OH} {Y A:Nat->Prop} {v:Value} (h:q.rel J H Y w v) (F: ∀x v,x.rel J H Y w v->AV.rel o r A w' (mu n j x) v):(pB n j q).rel o r A w' v:=by
 have e: ∀l v,bH J H Y w l v->bH o r A w' (l.map (mu n j)) v:=fun l v ⟨vs,C,D,E⟩=>by
  refine⟨vs,C,by simpa using D,fun b x M=>?_⟩;rw[aam]at M;obtain⟨y,T,rfl⟩:=aak.1 M;obtain⟨u,G,m,I⟩:=E b y T;exact⟨u,G,m,F y u I⟩
 cases q with
 |one x=>exact F x v h
 |agg l=>exact e l v h
 |fn f l=>obtain⟨u,R,S⟩:=h;exact⟨u,e l u R,S⟩
 |tup Z=>
  obtain⟨vs,C,D,E⟩:=h;refine⟨vs,C,by simpa using D,fun b c l K=>?_⟩;rw[aam]at K;obtain⟨z,U,p⟩:=aak.1 K;obtain⟨N,B⟩:=z;simp at p;obtain⟨rfl,rfl⟩:=p;obtain⟨u,G,m⟩:=E b N B U;refine⟨u,G,?_⟩;rcases m with⟨m,I⟩|⟨m,W,rfl,V⟩
  ·exact .inl ⟨m,e _ _ I⟩
  exact .inr ⟨m,_,rfl,F _ _ V⟩
structure ku (P:Program) (L:f5 γ) (rs:List Nat) (f:FuncId) (args:List TV) (F F':List OObj) (g g':γ) (r:TV):Prop where
 able:callable P f=true
 sA: ∀t∈args,selfTV 0 t
 sR:selfTV 0 r
 sF: ∀o∈F,selfO 0 o
 sF': ∀o∈F',selfO 0 o
 sh: ∀r∈rs,∀o,F[r]?=some o-> ∃o',F'[r]?=some o'/\o'.es=o.es/\o.elems.length<=o'.elems.length
 calls: ∀(X Y:Nat->Prop) (w:World) (vs:Array Value) (ρ:Rho),Inv w (fun j=>famB F ρ j\/L.B j) X (famH 0 F) ρ w->(∀j,L.B j->X j)->(∀j,(famB F ρ j\/L.B j)\/w.heap.size<=j->Y j)->L.G g Y w->vs.size=args.length->
  (∀(j:Nat) t,args[j]?=some t-> ∃v:Value,vs[j]?=some v/\t.rel ρ (famH 0 F) (Xo X ρ (famH 0 F)) w v)->
  Calls P f vs w fun e w'=> ∃v,e= .returned v/\ ∃ρ':Rho,Inv w (fun j=>famB F ρ j\/L.B j) X (famH 0 F') ρ' w'/\L.G g' Y w'/\r.rel ρ' (famH 0 F') (Xo X ρ' (famH 0 F')) w' v/\ ∀r∈rs,∀b c,ρ 0 r=some (b,c)-> ∃c',ρ' 0 r=some (b,c')
theorem ku.toL {args:List TV} (h:ku P L j l args b c g g' q):qa P L l args b c g g' q:=
 ⟨h.able,h.sA,h.sR,h.sF,h.sF',fun X Y w vs B m n o p t u=>(h.calls X Y w vs B m n o p t u).mono fun _ _ ⟨v,x,e,y,z,A,_⟩=>⟨v,x,e,y,z,A⟩⟩
theorem nt {H:Func} {args:List TV} (hf:P.funcs[l]?=some H) (hb:H.body=some f) (hn:callable P l=true) (M:List (Nat×Nat)) (ha: ∀p∈M,args[p.2]?=some (.one (.ptr 0 p.1 0 0))) (sA: ∀t∈args,selfTV 0 t) (sR:selfTV 0 q) (sF: ∀o∈b,selfO 0 o) (sF': ∀o∈c,selfO 0 o) (sh: ∀q∈M.map Prod.fst,∀o,b[q]?=some o-> ∃o',c[q]?=some o'/\o'.es=o.es/\o.elems.length<=o'.elems.length) (h:dW P L (M.map Prod.snd) f (fun e s k=>(e= .normal\/e= .ret)/\k=g'/\ ∃s',bG s s'/\Yt P H c q s'/\ ∀p∈M,s'.tmps[p.2]?=some (.one (.ptr 0 p.1 0 0))) ⟨args++List.replicate (H.ntmps-args.length) .undef,famH 0 b⟩ g):ku P L (M.map Prod.fst) l args b c g g' q:=by
 refine⟨hn,sA,sR,sF,sF',sh,fun X Y w vs ρ J hB hY hG ad A=>?_⟩;refine calls_of_wp hf hb ?_;have T:dx w (fun j=>famB b ρ j\/L.B j) X ⟨args++List.replicate (H.ntmps-args.length) .undef,famH 0 b⟩ {tmps:=vs++Array.replicate (H.ntmps-vs.size) undef,defers:=[]} w:=by
  refine⟨rfl,by simp[ad],ρ,J,fun t x E=>?_⟩;by_cases ht:t<args.length
  ·rw[aaB ht]at E;obtain⟨v,W,V⟩:=A t x E;exact⟨v,by rw[aa2 (by omega)];exact W,V⟩
  rw[aaE (by omega),aba]at E;split at E
  ·rename_i ae;injection E with E
   subst E;refine⟨undef,?_,eJ⟩;rw[abn (by omega),acS,if_pos (by omega)]
  cases E
 refine wp_mono (h (fun k=>(vs++Array.replicate (H.ntmps-vs.size) undef)[k]?) Y _ _ _ _ _ ⟨⟨T,fun j hj=>⟨.inr hj,hB j hj⟩,hY,hG⟩,fun _ _=>rfl⟩) fun e a' w' ⟨s1,k,⟨aa,hk,s2,hw,⟨I,Z⟩,ab⟩,⟨K,_,_,N⟩,ac⟩=>?_
 subst hk;obtain⟨h1,af,D,y,C⟩:=hw _ _ _ _ _ K;have C:aV X D s2 a' w':=C;rw[I]at y;obtain⟨v,W,V⟩:=fF (by rw[I];exact y) C Z;rw[I]at V;have R: ∀n∈M.map Prod.fst,∀m f,ρ 0 n=some (m,f)-> ∃c',D 0 n=some (m,c'):=fun n hq m f z=>by
  obtain⟨p,hp,rfl⟩:=aau.1 hq;obtain⟨u0,hu0,o0,b0,c0,y1,y2,y3,y4⟩:=A p.2 _ (ha p hp);have S:p.2<vs.size:=(aaD.1 hu0).1;obtain⟨u,U,o1,b1,c1,z1,z2,z3,G⟩:=C p.2 _ (ab p hp);rw[ac p.2 (aau.2 ⟨p,hp,rfl⟩)]at U;simp only[aa2 S,hu0]at U;injection U with U
  rw[<- U,y4]at G;injection G with G
  injection G with G
  injection G with G _ _
  rw[y2]at z;injection z with z
  injection z with z _
  exact⟨c1,by rw[z2,<- G,z]⟩
 rcases aa with rfl|rfl
 ·exact⟨h1,v,W,v,rfl,D,y,N,V,R⟩
 exact⟨h1,v,W,v,rfl,D,y,N,V,R⟩
def Fd (c:Array Oper) (m:Nat) (r:TV) (b:Nat) (f:List Nat) (e:List OObj) (s:AS):AS:=AS.put ⟨s.tmps.map (pB b f),ax s.H b (e.map (renO b))⟩ (cwD c m) (renTV b r)
theorem He {args:List TV} (D:ku P L j l args b c g g' q) (a2:n<=4999) {o:Oper} {J:AS} (E:pu o J=some (l,args.map (renTV n))) (T:J.H n=b.map (renO n)):
  AB P o (fi L Y w0 O X g J) (fi L Y w0 O X g' (AS.put ⟨J.tmps.map (pB n j),ax J.H n (c.map (renO n))⟩ o.dst (renTV n q))):=fun a w K Q ⟨⟨h1,ac,ρ,N,G⟩,hB,hY,hG⟩ hK=>by
 have G:aV X ρ J a w:=G;obtain⟨X1,al,g1,g2,g3,gF,g5,g6⟩:=zk (B:=L.B) h1 ac N G hB D.sR D.sF D.sF' a2 T;refine jI (.inl rfl) ?_;have key: ∀vs:Array Value,(execOp a.eval o).run P w= .ok (.enter l vs) w->vs.size=args.length->(∀(C:Nat) t,args[C]?=some t-> ∃v:Value,vs[C]?=some v/\(renTV n t).rel ρ J.H (Xo X ρ J.H) w v)->o.wp P a w K Q:=fun vs ag a6 Z=>by
  unfold Oper.wp;rw[ag];simp only[Oper.upon];have a0: ∀C,(famB b al C\/L.B C)\/w.heap.size<=C->Y C:=fun C R=>hY C (by
   rcases R with(R|R)|R
   ·obtain⟨y,o,A,k1,k2⟩:=gF C R;exact(N.old n y o C A k1 k2).1.symm
   ·exact .inl (hB C R).1
   exact .inr (aap N.keep.size R))
  refine(D.calls X1 Y w vs al g1 g2 a0 hG a6 fun C t ht=>?_).mono ?_
  ·obtain⟨v,v1,v2⟩:=Z C t ht;exact⟨v,v1,g3 t v (D.sA t (aai ht)) v2⟩
  rintro e w1 ⟨v,rfl,a7,hi,av,a4,a3⟩;obtain⟨ap,q0,q1,q2,q3⟩:=g6 v w1 a7 hi a4;have ah:aV X ap ⟨J.tmps.map (pB n j),ax J.H n (c.map (renO n))⟩ a w1:=fun t x hx=>by
   simp only[aam]at hx;obtain⟨y,I,rfl⟩:=aak.1 hx;obtain⟨u,u1,u2⟩:=G t y I;refine⟨u,u1,OC u2 (gp (OT n j) fun x v hn h=>?_)⟩;have hk:=q2 x v h;cases x with
   |fn=>cases hn
   |p x=>exact hk
   |junk=>trivial
   |sl z y a8 len=>
    simp only[mu];by_cases U:z=n
    ·rw[if_pos U];trivial
    rw[if_neg U];simpa[aO,kF,U] using hk
   |ptr z y i C=>
    simp only[mu];by_cases U:z=n
    ·rw[if_pos U];by_cases I:j.contains y=true
     ·rw[if_pos I];have I:y∈j:=by simpa using I
      subst U;obtain⟨o1,m,A,z1,z2,z3,z4⟩:=h;rw[T,aam]at z1;obtain⟨o2,z5,rfl⟩:=aak.1 z1;obtain⟨o3,z6,z7,z8⟩:=D.sh y I o2 z5;obtain⟨c',z9⟩:=a3 y I m A (by rw[g5];exact z2);refine⟨renO z o3,m,c',by rw[aM,aam,z6];rfl,by rw[q0];exact z9,?_,?_⟩
      ·have:i<o2.elems.length:=by simpa[renO] using z3
       simp only[renO,ab0];omega
      rw[z4];simp[renO,z7]
     rw[if_neg I];trivial
    rw[if_neg U];simpa[aO,kF,U] using hk
  refine hK v w1 ⟨⟨by rw[gJ];exact h1,by rw[kh,jH];simpa using ac,ap,by rw[fE];exact q1,pP (s:=⟨J.tmps.map (pB n j),ax J.H n (c.map (renO n))⟩) (by simpa using ac) ah q3⟩,hB,hY,av⟩
 unfold pu at E;split at E
 ·rename_i A af;split at E
  ·rename_i f' M;obtain⟨ts,aa,e⟩:=aak.1 E;injection e with e e'
   subst e e';obtain⟨V,e2⟩:=bV aa;have ab:A.args.size=args.length:=by simpa using V.symm
   refine key _ (jf af M rfl D.able) (by simp[ab]) fun C t ht=>?_
   obtain⟨y,I,ad⟩:=e2 C (renTV n t) (by rw[aam,ht];rfl);refine⟨a.eval y,?_,bz G y _ ad⟩;rw[ace];have:A.args[C]?=some y:=by simpa using I
   rw[this];rfl
  ·rename_i k M;split at E
   ·rename_i f' W ts a1 aa;injection E with E
    injection E with e e'
    subst e;obtain⟨V,e2⟩:=bV aa;obtain⟨us,k1,k2,k3⟩:=jJ (v:=a.eval (.tmp k)) (fun t0 a5=>bz G (.tmp k) t0 a5) a1;have ae:args.length=A.args.size+us.size:=by
     have:=congrArg List.length e';simp[V,<- k2]at this;omega
    refine key _ (jT af M k1 D.able) (by simp[ae]) fun C t ht=>?_
    have S:(ts++W)[C]?=some (renTV n t):=by rw[e',aam,ht];rfl
    by_cases R:C<ts.length
    ·rw[aaB R]at S;obtain⟨y,I,ad⟩:=e2 C _ S;refine⟨a.eval y,?_,bz G y _ ad⟩;rw[aa2 (by simp at V⊢;omega),ace];have:A.args[C]?=some y:=by simpa using I
     rw[this];rfl
    rw[aaE (by omega)]at S;obtain⟨v,v1,v2⟩:=k3 _ _ S;refine⟨v,?_,v2⟩;rw[abn (by simp at V⊢;omega)];simp at V⊢;rw[<- V];exact v1
   cases E
  cases E
 cases E
theorem xW {args:List TV} (t:ku P L j l args b c g g' q) (u:n<=4999) (e:Cu h m l args n b s):
  vp P h m (fi L Y w0 O X g s) (fi L Y w0 O X g' (Fd h m q n j c s)):=by
 obtain⟨p,x⟩:=e;unfold cxTs at p;split at p
 ·rename_i o v;split at p
  ·rename_i y;refine⟨o,v,by simpa using y,?_⟩;unfold Fd cwD;rw[v];exact He t u p x
  cases p
 cases p
theorem gC (m:Nat) {args:List TV} (v:ku P L j l args b c g g' q) (u:Nat) (o:List (ao P)) (t:List Nat) {id:Nat} (y:cW ks h=true) (x:u<=4999) (D:m<h.toList.length) (e: ∀K:AS->Prop,(∀p,(Cu h m l args u b p/\ ∀K:AS->Prop,(∀s',Q .normal s' g'->K s')->aS P (o.map ao.a) t (aJ h (h.toList.drop (m+1)) (m+1)) (some (Fd h m q u j c p)) K)->K p)->aS P (o.map ao.a) t (aJ h (h.toList.take m) 0) (some s) K):dW P L ks (.region id h false) Q s g:=fun vf Y w0 O X a w I=>by
 obtain⟨p,z,n,A⟩:=aR P (o.map ao.a) t h _ 0 s _ (e (fun p=>Cu h m l args u b p/\aS P (o.map ao.a) t (aJ h (h.toList.drop (m+1)) (m+1)) (some (Fd h m q u j c p)) (fun s=>Q .normal s g')) fun p ⟨E,G⟩=>⟨E,G _ fun _ e=>e⟩);obtain⟨s',B,C⟩:=aR P (o.map ao.a) t h _ (m+1) _ _ A;exact rO (R1:=jA L ks vf Y w0 O X g) (R2:=jA L ks vf Y w0 O X g') fK fK m o t y D z (pZ y (xW v x n)) B I fun J w' H=>⟨s',g',C,H⟩
theorem nj (v:P.follows .mixedOrders=true) {args:List TV} (t:ku P L j l args b c g g' q) (p:Nat) (n:List (ao P)) (x:List Nat) {id:Nat} (y:cW ks h=true) (u:p<=4999) (B:Gk h=true) (e: ∀K:AS->Prop,(∀o,(Cu h (h.size-1) l args p b o/\Q .normal (Fd h (h.size-1) q p j c o) g')->K o)->aS P (n.map ao.a) x (aJ h (h.toList.take (h.size-1)) 0) (some s) K):dW P L ks (.region id h true) Q s g:=fun vf Y w0 O X a w D=>by
 obtain⟨o,z,m,A⟩:=aR P (n.map ao.a) x h _ 0 s _ (e (fun o=>Cu h (h.size-1) l args p b o/\Q .normal (Fd h (h.size-1) q p j c o) g') fun _ m=>m);exact v8 (R1:=jA L ks vf Y w0 O X g) (R2:=jA L ks vf Y w0 O X g') fK v n x y B z (pZ y (xW t u m)) D fun E w' C=>⟨_,g',A,C⟩
theorem l8 (b r:Nat) {o o':OObj} (D:(s.H b)[r]?=some o) (M:o'.ty=o.ty) (B:o'.es=o.es) (q:o'.elems.length=o.elems.length) (f: ∀(i:Nat) l,o'.elems[i]?=some l-> ∃e,o.elems[i]?=some e/\l.length=e.length/\ ∀(j:Nat) x,l[j]?=some x->x= .junk\/e[j]?=some x):
  bG s ⟨s.tmps,ax s.H b ((s.H b).set r o')⟩:=by
 rintro w0 O X J w ⟨N,E,A,h,n⟩;have n:aV X A s J w:=n;obtain⟨q1,q2,I⟩:=id (h.objs b r o D);cases K:A b r with
 |none=>
  rw[K]at I;have l:o'.elems=[]:=abW (by rw[q,I];rfl);have T:o'=o:=by
   cases o;cases o';simp_all
  subst T;have:(s.H b).set r o'=s.H b:=by
   apply aaC;intro i;rw[aa3];split
   ·rename_i C;subst C;rw[if_pos (aao.1 D).1,D]
   rfl
  rw[this,show ax s.H b (s.H b)=s.H from funext fun x=>by unfold ax;split<;>simp_all];exact⟨N,E,A,h,n⟩
 |some S=>
  obtain⟨p,c⟩:=S;rw[K]at I;obtain⟨cells,Z,p2,p3,p4,p5⟩:=I;have old: ∀(i:Nat) l (j:Nat) x,o'.elems[i]?=some l->l[j]?=some x-> ∃v:Value,cells[i*o.es+j]?=some v/\v.oneCell'=true/\x.rel A s.H (Xo X A s.H) w v:=fun i l j x U z=>by
   obtain⟨e,F,R,m⟩:=f i l U;have G:j<e.length:=by have:=(aao.1 z).1;omega
   obtain⟨u,u1,u2,u3⟩:=p5 i e j e[j] F (aay G);refine⟨u,u1,u2,?_⟩;rcases m j x z with rfl|m
   ·trivial
   rw[aay G]at m;injection m with m
   rw[<- m];exact u3
  obtain⟨V,W⟩:=wE h D K Z M B q (fun l y=>by
   obtain⟨i,C⟩:=abd.1 y;obtain⟨e,F,R,_⟩:=f i l C;rw[R,B];exact q1 e (aai F)) (fun l y x z=>by
   obtain⟨i,C⟩:=abd.1 y;obtain⟨j,G⟩:=abd.1 z;obtain⟨e,F,_,m⟩:=f i l C;rcases m j x G with rfl|m
   ·trivial
   exact h.self b r o D e (aai F) x (aai m)) old
  exact⟨N,E,A,V,fun t x z=>by
   obtain⟨v,v1,v2⟩:=n t x z;exact⟨v,v1,TV.rel_map v2 W⟩⟩
end
end
theorem ID (b:Int) (x:List Int) (c:Int) (y:List Int):KE b x c y=if b<c then -1 else if c<b then 1 else dj x y:=by
 grind [KE,Ve,px]
theorem IE {b c:Int} {x y:List Int}:KE b x c y<0↔b<c\/b=c/\dj x y<0:=by
 grind [ID]
theorem KF {b c:Int} {x y:List Int}:KE b x c y=0↔b=c/\x=y:=by
 grind [ID,qu,jM]
theorem wO {c:Type} (f:c->NItem) (x y:c):ltOf (fun a b=>jy (f a) (f b)) x y=true↔(f x).key<(f y).key\/(f x).key=(f y).key/\dj (f x).vals (f y).vals<0:=by
 grind [ltOf,jy,IE]
theorem Zb {j:Type} (f:j->NItem):Sort.SWO (ltOf fun a b=>jy (f a) (f b)) where
 irrefl x:=by
  rw[<- Bool.not_eq_true,wO,jM];omega
 trans x y z c e:=by
  rw[wO]at*
  rcases c with c|⟨c,g⟩<;>rcases e with e|⟨e,h⟩
  ·omega
  ·omega
  ·omega
  exact .inr ⟨by omega,mo g h⟩
 ntrans x y z c e:=by
  rw[<- Bool.not_eq_true,wO]at*
  grind [sD,vY,qu,mo]
def vm (w:World) (g N:Nat) (L:List NItem):Prop:=
 ∃f,w.rowIs g 177 N f/\L.length*2<=N/\ ∀j b,L[j]?=some b->f (j*2)= .int .i64 b.key/\f (j*2+1)=b.val
theorem vm.ext {c:World} (h:vm w n m e) (b:Ext w c):vm c n m e:=by
 obtain⟨f,j,l,o⟩:=h;exact⟨f,cB j b,l,o⟩
theorem vm.cell0 (h:vm w n m e) {j:Nat} (b:e[j]?=some p):w.cell? ⟨n,j*2,none⟩=some (.int .i64 p.key):=by
 obtain⟨f,c,o,l⟩:=h;have:=(aao.1 b).1;rw[c.cell (by omega),(l j p b).1]
theorem vm.cell1 (h:vm w n m e) {j:Nat} (b:e[j]?=some p):w.cell? ⟨n,j*2+1,none⟩=some (.slice p.at_ p.vals.length p.cap):=by
 obtain⟨f,c,o,l⟩:=h;have:=(aao.1 b).1;rw[c.cell (by omega),(l j p b).2];rfl
theorem vm.frozen (h:vm w n m e) (j:Nat):w.frozen? ⟨n,j,none⟩=false:=by
 obtain⟨f,b,c,l⟩:=h;exact b.frozen j
theorem vm.set (h:vm w n m e) {i:Nat} (p:i<e.length) (c:NItem):
  vm ((w.setCell ⟨n,i*2,none⟩ (.int .i64 c.key)).setCell ⟨n,i*2+1,none⟩ (.slice c.at_ c.vals.length c.cap)) n m (e.set i c):=by
 obtain⟨f,o,r,s⟩:=h;refine⟨_,(o.set (i*2) _).set (i*2+1) _,by grind,fun j q l=>?_⟩;rw[aa3]at l;by_cases b:i=j
 ·subst b;rw[if_pos rfl,if_pos p]at l;cases l;constructor
  ·simp
  rw[if_pos rfl];rfl
 grind
def dA (c:NItem):List NItem->List NItem
 |[]=>[]
 |b::l=>if wq b c then dA b l else b::dA b l
def bu:List NItem->List NItem
 |[]=>[]
 |a::l=>a::dA a l
theorem yA {P:Program} (w:World) (t e p:TypeId) (z:Value) (h:P.underlying t=some (.slice e)) (l: ∀w,(zeroValue e).run P w= .ok z w) (q: ∀v∈z.cells,v.oneCell'=true) (x:0<z.cells.size) (b o n c:Nat) (u:0<n)
  (r: ∀j,j<n*z.cells.size->(w.cell? ⟨b,o+j,none⟩).isSome=true) (s: ∀j,j<n*z.cells.size->w.frozen? ⟨b,o+j,none⟩=false):
  (Builtin.clear_ #[t] p #[.slice (some ⟨b,o,none⟩) n c]).run P w= .ok (.tuple #[]) (w.setCells b o (Builtin.zeroCells z.cells n).toList):=by
 have g:(Builtin.zeroCells z.cells n).toList.length=n*z.cells.size:=by simp[Builtin.zeroCells]
 have f:=run_storeCells_cells (P:=P) b o (Builtin.zeroCells z.cells n).toList 0 w (by grind) (by grind) (by
  grind [Builtin.zeroCells,Nat.mod_lt])
 simp only[aa5]at f;obtain⟨m,rfl⟩: ∃m,n=m+1:=⟨n-1,by omega⟩;simp[Builtin.clear_,run_underlying h,l,f]
theorem ItemOk.gb {b:World} (h:ItemOk w n p) (c:w.grownBy b (some n)):ItemOk b n p:=⟨h.rd.gb h.ne c,h.ne,h.le⟩
theorem tC {k:Nat} {a:NItem} (f: ∀j a b,j+1<k+1->e[j+1]?=some a->e[j]?=some b->wq a b=false) (c:e[k]?=some a):bu e=e.take (k+1)++dA a (e.drop (k+1)):=by
 induction k generalizing a with
 |zero=>
  cases e with
  |nil=>simp at c
  |cons b l=>grind [bu]
 |succ k g=>
  grind [List.drop_eq_getElem_cons,dA]
theorem tD (f: ∀j a b,j+1<e.length->e[j+1]?=some a->e[j]?=some b->wq a b=false):bu e=e:=by
 cases m:e with
 |nil=>rfl
 |cons a l=>
  have c:0<e.length:=by grind
  obtain⟨b,g⟩:=getElem?_of_lt (l:=e) (k:=e.length-1) (by omega);have:=tC (k:=e.length-1) (fun j a b h=>f j a b (by omega)) g;grind [dA]
theorem y9 {a:NItem} (f:e[n+1]?=some a) (c:wq a p=true):dA p (e.drop (n+1))=dA a (e.drop (n+1+1)):=by
 grind [List.drop_eq_getElem_cons,dA]
theorem KI {a:NItem} (f:e[n+1]?=some a) (c:wq a p=false):dA p (e.drop (n+1))=a::dA a (e.drop (n+1+1)):=by
 grind [List.drop_eq_getElem_cons,dA]
theorem OY {pre:List NItem} (h:pre.length<=n):(pre++e.drop pre.length)[n]?=e[n]?:=by
 grind
theorem Tc {pre:List NItem} {a:NItem} (h:pre.length<e.length):(pre++e.drop pre.length).set pre.length a=(pre++[a])++e.drop (pre++[a]).length:=by
 grind [List.drop_eq_getElem_cons]
theorem uk (g cap:Nat) (L:List NItem) (bx sx so:Nat) (w:World) (hL:vm w g (cap*2) L) (hcap:L.length<=cap) (hlen:L.length<=4611686018427387904)
  (hok: ∀it∈L,ItemOk w g it) (h1:w.cell? ⟨bx,0,none⟩=some (.pointer (some ⟨sx,so,none⟩))) (h2:w.cell? ⟨sx,so+1,none⟩=some (.func (Fn.func 132) #[] #[])) (hbx:bx≠g) (hsx:sx≠g):
  Calls prog 199 #[.slice (some ⟨g,0,none⟩) L.length cap,.func (Fn.func 200) #[] #[.pointer (some ⟨bx,0,none⟩)]] w fun e w'=>
   e= .returned (.slice (some ⟨g,0,none⟩) (bu L).length cap)/\vm w' g (cap*2) (bu L)/\w.grownBy w' (some g):=by
 have HL:=aal hL;have HOK:=aal hok;have HB1:=aal h1;have HB2:=aal h2;have HN1:=aal hbx;have HN2:=aal hsx;clear hL hok h1 h2 hbx hsx;have hz59: ∀w,(zeroValue 177).run prog w= .ok (.agg #[.int .i64 0,.slice none 0 0]) w:=fun w=>by kernel_rfl
 have HZ:=aal hz59;clear hz59;by_cases hsz:L.length<2
 ·have HC:Hid (bu L=L):=aal (tD (fun j a b h=>by omega))
  go_enter func199,ntmps199
  go_wp2_with fail
  go_ret
  rw[HC.out];exact⟨rfl,HL.out,World.grownBy.refl _ _⟩
 have hszb:decide ((L.length:Int)<2)=false:=by simp;omega
 go_enter func199,ntmps199
 go_wp2_with fail
 clear hszb
 go_loopw [5,6,7] (fun i _ _ wr=> ∃k:Nat,1<=k/\k<=L.length/\i= .int .i64 k/\Hid (Ext w wr)/\Hid (∀j a b,j+1<k->L[j+1]?=some a->L[j]?=some b->wq a b=false)) (fun i _ _ _=>L.length-(intOf i).toNat)
 case atStart=>exact⟨1,by omega,by omega,rfl,aal (Ext.refl _),aal (fun j a b h=>by omega)⟩
 case round=>
  obtain⟨k,hk1,hk,rfl,HE,HQ⟩:=hrel;by_cases hlt:k<L.length
  ·obtain⟨a,ha⟩:=getElem?_of_lt hlt;obtain⟨b,hb⟩:=getElem?_of_lt (l:=L) (k:=k-1) (by omega);have HA:=aal ha;have HB:=aal hb;clear ha hb;have HL1:=aal (HL.out.ext (HE.out.drew));have t1:=HL1.out.cell0 HA.out;have t2:=HL1.out.cell1 HA.out;have t3:=HL1.out.cell0 HB.out;have t4:=HL1.out.cell1 HB.out;have HE1:=aal HE.out.drew;clear HE;have a1:IntKind.i64.wrap ((k:Int)-1)=(k:Int)-1:=ac1 _ (by omega);have a2:0<=(k:Int)-1:=by omega
   have a3:((k:Int)-1).toNat=k-1:=by omega
   have a4:(k:Int)-1<(L.length:Int):=by omega
   have a5:(1:Int)<=(k:Int):=by omega
   go_wp2_with fail
   refine cX 10 (by kernel_rfl) (by kernel_rfl) ?_;simp only[abF,acy,abM,abL];generalize wr.drew=w3 at*
   iterate 10 still_step
   refine wpStill_nil ?_;have HC:=aal (xT a b bx sx so w3 g ((HOK.out a (aai HA.out)).ext HE1.out) ((HOK.out b (aai HB.out)).ext HE1.out) (HE1.out.cell HB1.out) (HE1.out.cell HB2.out));unfold NItem.agg at HC;clear t1 t2 t3 t4 HL1 a1 a2 a3 a4 a5;cases heq:wq a b with
   |false=>
    rw[heq]at HC;have HEQ:=aal heq;clear heq
    go_wp2_with fail
    refine HC.out.mono ?_;rintro e w' ⟨rfl,he⟩;have HE2:=aal (HE1.out.trans he);clear he
    go_wp2_with fail
    go_roundw
    case rel=>
     refine⟨k+1,by omega,by omega,by go_num,HE2,aal (fun j x y hj hx hy=>?_)⟩;by_cases e:j+1=k
     ·subst e;rw[HA.out]at hx;have hB:=HB.out;rw[show j+1-1=j from by omega,hy]at hB;cases hx;cases hB;exact HEQ.out
     exact HQ.out j x y (by omega) hx hy
    grind [intOf]
   |true=>
    rw[heq]at HC;have HEQ:=aal heq;clear heq;have HCP:Hid (bu L=L.take k++dA a (L.drop (k+1))):=aal (by
     obtain⟨m,rfl⟩: ∃m,k=m+1:=⟨k-1,by omega⟩;rw[tC (k:=m) HQ.out HB.out,y9 HA.out HEQ.out])
    go_wp2_with fail
    refine HC.out.mono ?_;rintro e w' ⟨rfl,he⟩;have HE2:=aal (HE1.out.trans he);clear he HC HE1
    go_wp2_with fail
    obtain⟨wo,rfl⟩: ∃wo:World,wo=wr:=⟨_,rfl⟩
    go_loopw [7,5] (fun s i wx=> ∃(j:Nat) (pre:List NItem) (last:NItem),1<=j/\j<=L.length-k/\s= .int .i64 j/\i= .int .i64 (pre.length:Nat)/\k<=pre.length/\pre.length+1<=k+j/\Hid (L[k+j-1]?=some last)/\Hid (bu L=pre++dA last (L.drop (k+j)))/\Hid (vm wx g (cap*2) (pre++L.drop pre.length))/\Hid (w.grownBy wx (some g))) (fun s _ _=>L.length-(intOf s).toNat)
    case atStart=>
     have hlt':(L.take k).length=k:=by simp_all
     refine⟨1,L.take k,a,by omega,by omega,rfl,by rw[hlt'],by omega,by omega,aal (by rw[show k+1-1=k from by omega];exact HA.out),HCP,aal ?_,aal (fh HE2.out g)⟩;rw[hlt',List.take_append_drop];exact HL.out.ext HE2.out
    case round=>
     clear HE2 HCP HEQ HQ HA HB;obtain⟨j,pre,last,hj1,hj,rfl,rfl,hp1,hp2,HLA,HCP,HLS,HGB⟩:=hrel;by_cases hjl:j<L.length-k
     ·obtain⟨a2,ha2⟩:=getElem?_of_lt (l:=L) (k:=k+j) (by omega);have m1:(pre++L.drop pre.length)[k+j]?=some a2:=by rw[OY (by omega)];exact ha2
      have m2:(pre++L.drop pre.length)[k+(j-1)]?=some last:=by rw[OY (by omega),show k+(j-1)=k+j-1 from by omega];exact HLA.out
      have t1:=HLS.out.cell0 m1;have t2:=HLS.out.cell1 m1;have t3:=HLS.out.cell0 m2;have t4:=HLS.out.cell1 m2;rw[adb]at t1 t2 t3 t4;have HA2:=aal ha2;have HM1:=aal m1;clear ha2 m1 m2;have t1':wr.drew.cell? _=_:=t1;have t2':wr.drew.cell? _=_:=t2;have t3':wr.drew.cell? _=_:=t3;have t4':wr.drew.cell? _=_:=t4;have HGB1:Hid (w.grownBy wr.drew (some g)):=aal (iX HGB.out (fh ((Ext.refl _).drew) g));have HLS1:Hid (vm wr.drew g (cap*2) (pre++L.drop pre.length)):=aal (HLS.out.ext ((Ext.refl _).drew));clear t1 t2 t3 t4 HGB HLS;have hjz:(j:Int)<((L.length-k:Nat):Int):=by omega
      have a1:IntKind.i64.wrap ((j:Int)-1)=(j:Int)-1:=ac1 _ (by omega);have a2':0<=(j:Int)-1:=by omega
      have a3:((j:Int)-1).toNat=j-1:=by omega
      have a4:(j:Int)-1<((L.length-k:Nat):Int):=by omega
      have a5:(1:Int)<=(j:Int):=by omega
      go_wp2_with fail
      refine cX 10 (by kernel_rfl) (by kernel_rfl) ?_;simp only[abF,acy,abM,abL];generalize wr.drew=w3 at*
      iterate 10 still_step
      refine wpStill_nil ?_;have HC:=aal (xT a2 last bx sx so w3 g ((HOK.out a2 (aai HA2.out)).gb HGB1.out) ((HOK.out last (aai HLA.out)).gb HGB1.out) (ox HGB1.out HB1.out HN1.out) (ox HGB1.out HB2.out HN2.out));unfold NItem.agg at HC;clear t3' t4' a1 a2' a3 a4 a5;cases heq:wq a2 last with
      |true=>
       rw[heq]at HC;have HEQ:=aal heq;clear heq t1' t2'
       go_wp2_with fail
       refine HC.out.mono ?_;rintro e w4 ⟨rfl,he⟩;have HGB2:=aal (iX HGB1.out (fh he g));have HLS2:=aal (HLS1.out.ext he);clear he
       go_wp2_with fail
       go_roundw
       case rel=>
        refine⟨j+1,pre,a2,by omega,by omega,by go_num,rfl,hp1,by omega,aal (by rw[show k+(j+1)-1=k+j from by omega];exact HA2.out),aal ?_,HLS2,HGB2⟩;obtain⟨m,hm⟩: ∃m,k+j=m+1:=⟨k+j-1,by omega⟩;have h1:=HA2.out;rw[hm]at h1;rw[HCP.out,hm,y9 h1 HEQ.out,show k+(j+1)=m+1+1 from by omega]
       case measure=>simp[intOf];omega
      |false=>
       rw[heq]at HC;have HEQ:=aal heq;clear heq;have hpl:pre.length<L.length:=by omega
       have hpz:(pre.length:Int)<(L.length:Int):=by omega
       obtain⟨p,hp⟩: ∃p,p=pre.length:=⟨_,rfl⟩
       go_wp2_with fail
       refine HC.out.mono ?_;rintro e w4 ⟨rfl,he⟩;have HGB2:=aal (iX HGB1.out (fh he g));have HLS2:=aal (HLS1.out.ext he);have s1:=he.cell t1';have s2:=he.cell t2';have hlm:pre.length<(pre++L.drop pre.length).length:=by rw[aaV,List.length_drop];omega
       obtain⟨q,hq⟩:=getElem?_of_lt hlm;have s3:=HLS2.out.cell0 hq;have s4:=HLS2.out.cell1 hq;have s5:=HLS2.out.frozen (pre.length*2);have s6:=HLS2.out.frozen (pre.length*2+1);have HSET:=aal (HLS2.out.set hlm a2);clear he t1' t2' hq hlm HC hp
       go_wp2_with fail
       go_roundw
       case rel=>
        refine⟨j+1,pre++[a2],a2,by omega,by omega,by go_num,by simp,by simp;omega,by simp;omega,aal (by rw[show k+(j+1)-1=k+j from by omega];exact HA2.out),aal ?_,aal ?_,aal (A4 (A4 HGB2.out _ _) _ _)⟩
        ·obtain⟨m,hm⟩: ∃m,k+j=m+1:=⟨k+j-1,by omega⟩;have h1:=HA2.out;rw[hm]at h1;rw[HCP.out,hm,KI h1 HEQ.out,show k+(j+1)=m+1+1 from by omega]
         simp
        have:=HSET.out;rw[Tc hpl]at this;exact this
       case measure=>simp[intOf];omega
     have hjl':j=L.length-k:=by omega
     have HF:Hid (bu L=pre):=aal (by rw[HCP.out,show k+j=L.length from by omega,acL];simp[dA]);have hpl:pre.length<L.length:=by omega
     have hcl: ∀ty,(Builtin.clear_ #[171] ty #[.slice (some ⟨g,pre.length*2,none⟩) (L.length-pre.length) (cap-pre.length)]).run prog wr= .ok (.tuple #[]) (wr.setCells g (pre.length*2) (Builtin.zeroCells #[.int .i64 0,.slice none 0 0] (L.length-pre.length)).toList):=fun ty=>by
      obtain⟨f,f1,f2,f3⟩:=HLS.out;refine yA wr _ 177 ty (.agg #[.int .i64 0,.slice none 0 0]) underlying171 HZ.out (by simp[Value.cells,Value.oneCell']) (by simp[Value.cells]) g _ _ _ (by omega) (fun j hj=>?_) (fun j hj=>f1.frozen _);simp[Value.cells]at hj;rw[f1.cell (by omega)];rfl
     have HCL:Hid (vm (wr.setCells g (pre.length*2) (Builtin.zeroCells #[.int .i64 0,.slice none 0 0] (L.length-pre.length)).toList) g (cap*2) pre):=aal (by
      obtain⟨f,f1,f2,f3⟩:=HLS.out;obtain⟨f',q1,q2,_⟩:=ru (Builtin.zeroCells #[.int .i64 0,.slice none 0 0] (L.length-pre.length)).toList (pre.length*2) wr f f1;refine⟨f',q1,by omega,fun i it hi=>?_⟩;have hlt:=(aao.1 hi).1;have:=f3 i it (by simp_all[aaB]);rw[q2 _ (by omega),q2 _ (by omega)];exact this)
     have HGB3:Hid (w.grownBy (wr.setCells g (pre.length*2) (Builtin.zeroCells #[.int .i64 0,.slice none 0 0] (L.length-pre.length)).toList) (some g)):=aal (tI (b:=wr) _ _ HGB.out);clear hjl'
     go_wp2_with fail
     go_ret
     rw[HF.out];exact⟨rfl,HCL.out,HGB3.out⟩
  have HC:Hid (bu L=L):=aal (tD (fun j a b h=>HQ.out j a b (by omega)))
  go_wp2_with fail
  go_ret
  rw[HC.out];exact⟨rfl,HL.out.ext HE.out,fh HE.out g⟩
end Go.Proofs.YtalmoejhjceflaaGreat
