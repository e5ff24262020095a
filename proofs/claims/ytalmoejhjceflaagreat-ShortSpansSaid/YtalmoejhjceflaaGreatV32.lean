/-
  Part 33 of a proof (walks and plain facts).
-/
import Derived.Test.YtalmoejhjceflaaGreatV31
set_option linter.all false
set_option maxRecDepth 100000
set_option maxHeartbeats 64000000
open List renaming replicate → af
namespace Go.Proofs.YtalmoejhjceflaaGreat
open Go.RowKit Go.Proofs.Tryz
variable {b:List (List Int)} {n:Nat}
section
abbrev fK (p:Int×List Int):List PV:=[.raw (.int .i64 p.1),.sl (ls fI p.2)]
abbrev ab2:Value:= .func (.func 132) #[] #[]
abbrev uA (a:Nat) (L:List (Int×List Int)):List OObj:=[⟨173,2,[[.sl a 1 0 L.length,.p (.raw ab2)]]⟩,⟨177,2,lc fK L⟩]
theorem aaa (a d:Nat) (L:List (Int×List Int)):(uA a L).map (renO d)=uA d L:=by
 simp only[uA,aeX,afh,renO,dA,jh]
theorem Cr (a:Nat) (L:List (Int×List Int)): ∀o∈uA a L,selfO a o:=fun o f e b x c=>by
 simp only[afn,afx,or_false]at f;rcases f with rfl|rfl
 ·simp only[aeK]at b;subst b;simp only[afn,afx,or_false]at c;rcases c with rfl|rfl<;>trivial
 exact dj (bF 177 2 _ e b x c)
theorem Y8 {X:Nat->Prop} {w:World} {p:Int×List Int} {u v:Value} (B:X n) (o:p.2≠[]) (s:bS X w (.raw (.int .i64 p.1)) u) (h:bS X w (.sl (ls fI p.2)) v):
  ∃f:NItem,f.dat=p/\u= .int .i64 f.key/\v=f.val/\ItemOk w n f/\bS X w (.sl (ls fI f.vals)) f.val:=by
 obtain⟨A,c,rfl,_,t,r⟩:=zu h;refine⟨⟨p.1,p.2,A,c⟩,rfl,jw s,rfl,⟨r,fun q l e=>?_,t⟩,h⟩;obtain⟨b,m,rfl,_⟩:=r (by simpa using o);injection l with l
 subst l;generalize C:Value.slice (some ⟨b,m,none⟩) p.2.length c=V at h;generalize j:PV.sl (ls fI p.2)=y at h;cases h with
 |raw _ _=>cases j
 |ptr _ _ _ _ _ _ _ _=>cases j
 |nil _ _=>
  injection j with j
  exact o (by simpa[ls] using j)
 |sl x _ _ _ _ _ z _ _ _ _ _ _=>grind
theorem IL {X:Nat->Prop} {w:World} {g:Nat} (n:X g) {F:Nat->Value} {L:List (Int×List Int)} (o: ∀p∈L,p.2≠[]) (h: ∀i p,L[i]?=some p->bS X w (.raw (.int .i64 p.1)) (F (i*2))/\bS X w (.sl (ls fI p.2)) (F (i*2+1))):
  ∀k,k<=L.length-> ∃I:List NItem,I.map NItem.dat=L.take k/\ ∀j b,I[j]?=some b->F (j*2)= .int .i64 b.key/\F (j*2+1)=b.val/\ItemOk w g b/\bS X w (.sl (ls fI b.vals)) b.val
 |0,_=>⟨[],by simp,by simp⟩
 |k+1,y=>by
  obtain⟨I,m,r⟩:=IL n o h k (by omega);obtain⟨p,c⟩:=getElem?_of_lt (l:=L) (k:=k) (by omega);obtain⟨u,v⟩:=h k p c;obtain⟨b,e,q⟩:=Y8 n (o p (adQ c)) u v;have s:I.length=k:=by have:=congrArg List.length m;simpa[ahI (show k<=L.length by omega)] using this
  refine⟨I++[b],by rw[ah1,c];simp[m,e],fun j t f=>?_⟩;by_cases x:j<k
  ·exact r j t (by rwa[aff (by omega)]at f)
  obtain rfl:j=k:=by grind
  rw[afs (by omega),s,afO]at f;injection f with f
  subst f;exact q
theorem HK {a:Array Value} {i:Nat} (h:i<a.size):a[i]?=some (a.getD i undef):=by
 rw[agi,Array.getElem?_eq_getElem h];rfl
theorem Iz (F:List OObj):famH 0 F 0=F:=rfl
section
variable {X:Nat->Prop} {ρ:Rho} {w w':World} {L U:List (Int×List Int)}
theorem WK (f:Inv w (fun j=>famB (uA 0 L) ρ j\/VI.B j) X (famH 0 (uA 0 L)) ρ w) (v:Keep (fun j=>famB (uA 0 L) ρ j\/VI.B j) w w')
  (h: ∀r o,(uA 0 U)[r]?=some o->objRel ρ (famH 0 (uA 0 U)) (Xo X ρ (famH 0 (uA 0 U))) w' 0 r o):Inv w (fun j=>famB (uA 0 L) ρ j\/VI.B j) X (famH 0 (uA 0 U)) ρ w':=by
 have m: ∀(x r:Nat) o,(famH 0 (uA 0 U) x)[r]?=some o->x=0/\(uA 0 U)[r]?=some o/\ ∃u,(famH 0 (uA 0 L) x)[r]?=some u:=fun x r o l=>by
  by_cases e:x=0
  ·subst e;rw[Iz]at l⊢;have:=(aeI.1 l).1;exact⟨rfl,l,_,aeR (by simpa using this)⟩
  grind [famH]
 refine⟨v,fun x r o l=>?_,fun x r z y o u b c A l p n C=>?_,fun x r o b c l n=>?_,fun b D=>aeT (f.bar b D) v.size,fun x r o l=>?_⟩
 ·obtain⟨rfl,g,_⟩:=m x r o l;exact h r o g
 ·obtain⟨_,_,q,s⟩:=m x r o l;obtain⟨_,_,E,t⟩:=m z y u p;exact f.inj x r z y q E b c A s t n C
 ·obtain⟨_,_,q,s⟩:=m x r o l;exact f.old x r q b c s n
 obtain⟨rfl,g,_⟩:=m x r o l;exact Cr 0 U o (adQ g)
theorem aee (U:List (Int×List Int)) (h:Xo X ρ (famH 0 (uA 0 U)) n):Xo X ρ (famH 0 (uA 0 L)) n:=by
 rcases h with h|⟨x,r,o,c,f,g⟩
 ·exact .inl h
 by_cases e:x=0
 ·subst e;rw[Iz]at f;have:=(aeI.1 f).1;exact .inr ⟨0,r,_,c,(aeR (l:=famH 0 (uA 0 L) 0) (by simpa[Iz] using this)),g⟩
 grind [famH]
end
theorem acT (L:List (Int×List Int)) (hl:L.length<=65536) (hp: ∀p∈L,p.2≠[]):
  lZ prog VI [0] 136 [.one (.ptr 0 0 0 0)] (uA 0 L) (uA 0 (nk L)) () () (.tup []):=by
 refine⟨by kernel_rfl,by simp[selfTV,bJ],by simp[selfTV],Cr 0 L,Cr 0 _,fun r hr o l=>by grind,fun X Y w vs J s _ _ _ bb R=>?_⟩;obtain⟨v,v0,o,H,G,l,y,hi,hv⟩:=R 0 _ rfl;rw[Iz]at l;obtain rfl:(⟨173,2,[[.sl 0 1 0 L.length,.p (.raw ab2)]]⟩:OObj)=o:=by simpa using l
 obtain rfl:vs= #[.pointer (some ⟨H,0,none⟩)]:=by grind
 obtain⟨_,_,q0⟩:=s.objs 0 0 _ rfl;rw[y]at q0;obtain⟨cells,p1,p2,p3,_,p5⟩:=q0;obtain⟨u0,s0,_,r0⟩:=p5 0 _ 0 _ rfl rfl;obtain⟨u1,s1,_,r1⟩:=p5 0 _ 1 _ rfl rfl;obtain rfl:=jw r1;have a3:1<=G:=p3;have p2:cells.size=G*2:=p2;have O:w.rowIs H 173 (G*2) (Cw u0 fun j=>cells.getD j undef):=⟨cells,p1,p2,fun i hi=>by
  match i with
  |0=>exact s0
  |1=>exact s1
  |i+2=>exact HK (by omega)⟩
 have D: ∀r b c,J 0 r=some (b,c)->r<2->famB (uA 0 L) J b:=fun r b c h hr=>by
  match r,hr with
  |0,_=>exact⟨0,_,c,rfl,h⟩
  |1,_=>exact⟨1,_,c,rfl,h⟩
 have C: ∀(U:List (Int×List Int)) (Q:World) (u:Value) (q:Nat->Value),Q.rowIs H 173 (G*2) (Cw u q)->u.oneCell'=true->AV.rel J (famH 0 (uA 0 U)) (Xo X J (famH 0 (uA 0 U))) Q (.sl 0 1 0 U.length) u->
   objRel J (famH 0 (uA 0 U)) (Xo X J (famH 0 (uA 0 U))) Q 0 0 ⟨173,2,[[.sl 0 1 0 U.length,.p (.raw ab2)]]⟩:=fun U Q u q ⟨M,k1,k2,k3⟩ hu hr=>by
  refine⟨by simp,aik,?_⟩;rw[y];refine⟨M,k1,k2,a3,by assumption,fun i e j x A n=>?_⟩
  match i,A with
  |0,A=>
   simp at A;subst A
   match j,n with
   |0,n=>simp at n;subst n;exact⟨_,k3 0 (by omega),hu,hr⟩
   |1,n=>simp at n;subst n;exact⟨_,k3 1 (by omega),rfl,bS.raw _ rfl⟩
  |i+1,A=>simp at A
 obtain⟨o1,ag,_,S⟩:=r0;rw[Iz]at ag;obtain rfl:(⟨177,2,lc fK L⟩:OObj)=o1:=by simpa using ag
 obtain⟨_,_,q1⟩:=s.objs 0 1 _ rfl;rcases S with⟨T,rfl,av,_⟩|⟨g,K,cap,m,rfl,a9,ad⟩
 ·obtain rfl:L=[]:=agy av;refine(WC H (G*2) _ (by omega) w O).mono ?_;rintro e Q ⟨rfl,h1,h2,h3,h4,h5,h6⟩;refine⟨_,rfl,J,WK s ⟨h4,h5,h6,h3,fun k hk T=>h2 k hk fun e=>T (.inl (e▸D 0 H G y (by decide)))⟩ fun r o l=>?_,trivial,⟨#[],rfl,rfl,by simp⟩,fun r hr b c h=>⟨c,h⟩⟩
  match r,l with
  |0,l=>
   injection l with l
   subst l;exact C [] Q _ _ h1 rfl ⟨_,rfl,by simp[lc],.inl ⟨T,rfl,rfl,rfl⟩⟩
  |1,l=>
   injection l with l
   subst l;refine⟨by simp[lc,nk],aik,?_⟩;rw[T];rfl
  |r+2,l=>simp at l
 have a4:K=cap:=by have:=ad (by omega);omega
 subst a4;clear ad;rw[m]at q1;obtain⟨Z,k1,k2,k3,k4,k5⟩:=q1;rw[fO]at k3;have k2:Z.size=K*2:=k2;have ac:Xo X J (famH 0 (uA 0 L)) g:= .inr ⟨0,1,_,K,rfl,m⟩;have a0:Xo X J (famH 0 (uA 0 L)) H:= .inr ⟨0,0,_,G,rfl,y⟩;have a7:H≠g:=fun e=>by
  subst e;have:=s.inj 0 0 0 1 _ _ H G K rfl rfl y m;omega
 obtain⟨I,e1,e2⟩:=IL ac (F:=fun j=>Z.getD j undef) hp (fun i p hi=>by
  have ae:(lc fK L)[i]?=some ((fK p).map AV.p):=by rw[Bf,hi];rfl
  obtain⟨a,a1,_,a2⟩:=k5 i _ 0 _ ae rfl;obtain⟨b,b1,_,b2⟩:=k5 i _ 1 _ ae rfl;simp only[ago]at a1;refine⟨?_,?_⟩
  ·show bS _ _ _ (Z.getD (i*2) undef);rw[agi,a1];exact a2
  show bS _ _ _ (Z.getD (i*2+1) undef);rw[agi,b1];exact b2) L.length (aeJ _)
 rw[afS]at e1;have ap:I.length=L.length:=by rw[<- e1,ae3]
 have aa:zU w g (K*2) I:=⟨fun j=>Z.getD j undef,⟨Z,k1,k2,fun i hi=>HK (by omega)⟩,by omega,fun j P hj=>⟨(e2 j P hj).1,(e2 j P hj).2.1⟩⟩;refine(WB H g K (G*2) _ (by omega) I w aa (by omega) (by omega) (fun P B=>?_) (by rw[ap];simpa using O) a7).mono ?_
 ·obtain⟨j,hj⟩:=afo.1 B;exact(e2 j P hj).2.2.1
 rintro e Q ⟨I',rfl,t,W,af,_,E,N,ai,h4,h5,h6⟩;have hU:(dn I').map NItem.dat=nk L:=E3 (by rw[<- e1];exact t.map _) W;have ab:(nk L).length=(dn I').length:=by rw[<- hU,ae3]
 have ba:(dn I').length<=L.length:=by
  have:=Ic I';have:=t.length_eq;omega
 rw[<- ab]at E;refine⟨_,rfl,J,WK s ⟨h4,h5,h6,ai,fun k hk T=>N k hk (fun e=>T (.inl (e▸D 1 g K m (by decide)))) fun e=>T (.inl (e▸D 0 H G y (by decide)))⟩ fun r o l=>?_,trivial,⟨#[],rfl,rfl,by simp⟩,fun r hr b c h=>⟨c,h⟩⟩
 match r,l with
 |0,l=>
  injection l with l
  subst l;exact C _ Q _ _ E rfl ⟨_,rfl,by simp[lc],.inr ⟨g,K,K,m,by simp,by omega,fun _=>rfl⟩⟩
 |1,l=>
  injection l with l
  subst l;obtain⟨f,⟨an,m1,m2,m3⟩,m4,m5⟩:=af;refine⟨fun e A=>by obtain⟨z,_,rfl⟩:=aeL.1 A;rfl,aik,?_⟩;rw[m];refine⟨an,m1,m2,by rw[fO];omega,k4,fun i e j x A n=>?_⟩;rw[Bf]at A;obtain⟨p,V,rfl⟩:=adT.1 A;have hi:i<(dn I').length:=by rw[<- ab];exact(aeI.1 V).1
  obtain⟨P,B⟩:=getElem?_of_lt hi;have a8:P.dat=p:=by
   rw[<- hU,aeG,B]at V;simpa using V
  subst a8;obtain⟨n1,n2⟩:=m5 i P B;obtain⟨j',a5⟩:=afo.1 (t.subset (Id (adQ B)));have ah:=(e2 j' P a5).2.2.2
  match j,n with
  |0,n=>
   injection n with n
   subst n;exact⟨_,m3 (i*2) (by omega),by rw[n1];rfl,by rw[n1];exact bS.raw _ rfl⟩
  |1,n=>
   injection n with n
   subst n;refine⟨_,m3 (i*2+1) (by omega),by rw[n2];rfl,?_⟩;rw[n2];refine(ah.stays ⟨ai,fun q v hq hc=>?_⟩).weaken fun b _ hb=>aee (L:=L) _ hb
   have a6:=zg hc;rw[iX (N q.block a6 (fun e=>hq (e▸ac)) fun e=>hq (e▸a0))];exact hc
  |j+2,n=>simp at n
 |r+2,l=>simp at l
end
section
abbrev grT (G:List (List Int)) (b:Bool):TV:= .tup [(false,[.p (.sl (ls (fR fI) G))]),(false,[.p (.raw (.bool b))])]
theorem Vb (l:List (Int×List Int)) (p:Int×List Int):lc fK l++[[.p (.raw (.int .i64 p.1)),.p (.sl (ls fI p.2))]]=lc fK (l++[p]):=by simp[lc,fK]
structure SuG (n:Nat) (f:FF) (l:List (List Int)) where
 i:Nat
 A:List (Int×List Int)
 hi:i<=l.length
 e:A=(l.take i).map (itN n f)
abbrev vcR (V:List (List Int)) (i:Nat):List (List AV):=lc (fR fI) (V.take i)++af (V.length-i) vD
theorem aaH {V:List (List Int)} {i:Nat} (h:i<V.length):(vcR V i)[i]?=some vD/\(vcR V i).length=V.length:=by
 have b:(lc (fR fI) (V.take i)).length=i:=by rw[fO,age];omega
 exact⟨by rw[afs (by omega),b,afO];grind,by rw[afg,b,afc];omega⟩
theorem aaI {i:Nat} {v:List Int} (h:b[i]?=some v):(vcR b i).set i [.p (.sl (ls fI v))]=vcR b (i+1):=by
 have e:=(aeI.1 h).1;have c:(lc (fR fI) (b.take i)).length=i:=by rw[fO,age];omega
 rw[ahe _ _ (by omega),c,afO,show b.length-i=b.length-(i+1)+1 by omega,agG,ag5,vcR,ah1,h];simp[lc,fR]
section
variable {M:List (List Int)} {n:Nat} {f:FF}
theorem ZG (h:Rf M n f) (l:List (List Int)) (W:l.length<=65536) (P: ∀z∈l,z.length=n/\(∀c∈z,c.natAbs<=524288)/\bT z≠0):
  CallC prog 89 [bV M,bV l] ⟨[],grT ((nk (l.map (itN n f))).map Prod.snd) true⟩:=by
 have Y:=ge M h.red;have N:=h.l;have ad:=h.n1;have ae:=h.n8;have hc: ∀z∈l,z.length=n/\CallC prog 116 [.raw (.int .i64 (n:Int)),d7 z] ⟨[],.raw (.bool true)⟩/\ ∃y,CallC prog 134 [bV M,d7 z] ⟨[],d7 y⟩/\CallC prog 133 [d7 z,d7 y] ⟨[],tvI (itN n f z).1 true⟩/\
   CallC prog 135 [d7 z] ⟨[],.tup [(false,[.p (.sl (ls fI (itN n f z).2))]),(false,[.p (.raw (.bool true))])]⟩:=fun z v=>by
  obtain⟨B,T,h3⟩:=P z v;have t: ∀j,-524288<=z.getD j 0/\z.getD j 0<=524288:=fun j=>by
   rw[aeM];cases hx:z[j]? with
   |none=>simp
   |some c=>
    have:=T c (adQ hx);simp only[agu];omega
  have w:=UG (x:=z) (by omega) t;rw[B]at w;refine⟨B,w,aA n fun i=>X3 f z i n,?_,?_,TY (by omega) t h3⟩
  ·rw[h.e];exact Yw (by omega) B h.b t
  have:=adM (z:=z) (y:=fun i=>X3 f z i n) (by omega) B t fun i J=>by
   have:=TI (n:=n) (k:=n) h.b t J (aeJ n);omega
  rwa[show(itN n f z).1=smF (fun i=>z.getD i 0*X3 f z i n) n from fL f z]
 have F:=fun p (q:p∈nk (l.map (itN n f)))=>x5.1 q
 have m: ∀p∈l.map (itN n f),p.2≠[]:=fun p q=>by
  obtain⟨z,Q,rfl⟩:=aeL.1 q;have:=(P z Q).1;intro e;have T:z.length=0:=by rw[<- N3 z];exact congrArg List.length e
  omega
 have Z:=acT (l.map (itN n f)) (by rw[ae3];exact W) m;have ab:(nk (l.map (itN n f))).length<=65536:=by
  have:=AZ (l.map (itN n f)) [];rw[ae3]at this;simp only[afP,ago]at this;exact aeN this W
 clear F m P;generalize nk (l.map (itN n f))=U at*
 refine aB func89 rfl ntmps89 (aE (k:=aj (bu [⟨1,_,_,_,Y⟩] (k:=aq rfl (al (ax (k:=aj (aZ (k:=?_)))))))));refine ay (G:=SuG n f l) (fun g=>⟨(bV M::j4 (jk::.one (.ptr 6 0 0 0)::j4 (j4 (j4 (jk::bV l::rN l.length::rN g.i::j16 (j16 (j16 (j4 (j4 ([])))))))))),Hm [(6,uA 6 g.A)]⟩) (fun g=>l.length-g.i) ⟨0,[],by omega,by simp⟩ ?_ ?_
 ·refine(ib 6 0 0 0 177 2 (by omega) rfl rfl rfl).trans (ak ⟨rfl,trivial⟩ ?_);simp[wk]
 rintro⟨i,A,J,C⟩;simp only;by_cases L:i<l.length
 ·obtain⟨z,o⟩:=getElem?_of_lt L;obtain⟨v,w,y,X,R,S⟩:=hc z (adQ o);have D:IntKind.i64.wrap ((i:Int)+1)=((i+1:Nat):Int):=by rw[aH (by omega) (by omega)];omega
  have aa:A.length=i:=by rw[C,ae3,age];omega
  have E:A++[itN n f z]=(l.take (i+1)).map (itN n f):=by rw[C,ah1,o];simp
  generalize itN n f z=p at*
  obtain⟨k,x⟩:=p;simp only at R S;have u:=Vb A (k,x);simp only at u;refine ax (k:=aP rfl (aj (ao (aF o (k:=aj (fJ [⟨3,_,_,_,w⟩] N (k:=aq rfl (al (bu [⟨3,_,_,_,X⟩,⟨4,_,_,_,R⟩] (k:=bu [⟨1,_,_,_,S⟩] (k:=aj (aZ (k:=aq rfl (al (dz u (k:=df D (k:=?_)))))))))))))))));refine⟨⟨i+1,A++[(k,x)],by omega,E⟩,by simp only;omega,ak ⟨?_,trivial⟩ ?_⟩
  ·show[_,_]=[_,_];rw[afg];rfl
  simp[wk]
 obtain rfl:i=l.length:=by omega
 rw[afS]at C;subst C;refine ax (k:=aQ rfl (aj (uJ (iF 0 Z 6 [] [] (by kernel_rfl) (by omega) (by decide) fun K r=>?_))));simp only[kd];refine r _ ⟨⟨rfl,?_⟩,?_⟩
 ·grind [aaa]
 clear r K;intro K r;simp(disch:=omega) only[kd,CO,cwD,qy,oJ];apply r;clear r K;show bv _ _ _ _;refine bv.weak (ak (tm:=(j4 (jk::jk::.one (.ptr 6 0 0 0)::j16 (j16 (j16 (j16 (j4 (j4 ([]))))))))) (l:=[(6,uA 6 U)]) ⟨rfl,trivial⟩ (by simp[wk])) ?_;obtain⟨V,H⟩: ∃V,U.map Prod.snd=V:=⟨_,rfl⟩;have s:V.length=U.length:=by rw[<- H,ae3]
 rw[H];refine ax (k:=aj (aZ (k:=?_)));refine ay (G:=fp U.length) (fun g=>⟨(j4 (jk::jk::.one (.ptr 6 0 0 0)::j4 (jk::jk::.one (.sl 63 0 0 U.length)::j16 (j16 (j16 (jk::jk::jk::.one (.sl 6 1 0 U.length)::rN U.length::rN g.i::j4 (j4 (jk::jk::jk::[])))))))),Hm [(6,uA 6 U),(63,[⟨35,1,vcR V g.i⟩])]⟩) (fun g=>U.length-g.i) ⟨0,by omega⟩ ?_ ?_
 ·refine ak ⟨rfl,?_,trivial⟩ ?_
  ·show[_]=[_];rw[vcR,s];rfl
  simp[wk]
 rintro⟨i,J⟩;simp only;by_cases L:i<U.length
 ·obtain⟨p,q⟩:=getElem?_of_lt L;obtain⟨k,x⟩:=p;have I:V[i]?=some x:=by rw[<- H,aeG,q];rfl
  obtain⟨g1,g2⟩:=aaH (V:=V) (i:=i) (by omega);have g3:=aaI I;have D:IntKind.i64.wrap ((i:Int)+1)=((i+1:Nat):Int):=by rw[aH (by omega) (by omega)];omega
  have ac:(lc fK U).length=U.length:=fO _;refine ax (k:=aP rfl (aj (ao (aF q (k:=dz (aG g1 g3) (k:=df D (k:=?_)))))));refine⟨⟨i+1,by omega⟩,by grind,ak ⟨rfl,rfl,trivial⟩ ?_⟩;simp[wk]
 obtain rfl:i=U.length:=by omega
 have O:vcR V U.length=lc (fR fI) V:=by
  rw[vcR,s,afO,aeS (by omega)];simp
 rw[O];refine ax (k:=aQ rfl (aZ (k:=?_)));refine aM ⟨.inr rfl,dI 63 (bj rfl) ?_ rfl⟩;have eT:List.take U.length V=V:=aeS (by omega);simp(disch:=omega) only[kd,results89,Nat.reduceEqDiff,eT]
end
end
section
section
variable {M:List (List Int)} {n:Nat} {f:FF} {B k:Int}
theorem acZ (c:0<dk f 1) (b:0<=B):R7 f 1 B=(rng 1 (isqF (B/dk f 1))).flatMap (VB (dk f 1) B false):=by
 obtain⟨l1,e⟩:=Bw (f:=f) c b;have g:=(dU (af9 b (afA c))).1;unfold R7;simp only[show 1-1=0 from rfl,CP,if_true,e];grind [jM,List.map_congr_left,mr,VB]
theorem acS {F:Nat->Int} {i:Nat} (h:i<=n) (b: ∀a,a<n->0<=F a):smF F i<=smF F n:=by
 induction n with
 |zero=>grind
 |succ n c=>
  grind [smF]
theorem abn (j:qH n f B): ∀(k:Nat) (y:List Int) (z:Bool),y.length+(k+1)=n->tn y->fq f n B (k+1) (aL n y)->(z=true-> ∀x∈y,x=0)->(CP f n B false k y z).length<=(e9 f n B (k+1) y).length
 |0,y,z,h,q,g,o=>by
  have m:=fun e=>sk j h g (o e)
  rw[mh];simp only[CP,aiD];have b:cu f n B 0 (aL n y)<=(if z=true then 0 else cu f n B 0 (aL n y)):=by
   grind
  refine aeN (zA (G:=fun c=>(e9 f n B 0 (c::y)).length) _ fun c _=>?_) (PB b);show _<=1;grind
 |k+1,y,z,h,q,g,o=>by
  have m:=fun e=>sk j h g (o e)
  rw[mh];simp only[CP,aiD];have b:cu f n B (k+1) (aL n y)<=(if z=true then 0 else cu f n B (k+1) (aL n y)):=by
   grind
  refine aeN (zA (G:=fun c=>(e9 f n B (k+1) (c::y)).length) _ fun c r=>?_) (PB b);obtain⟨l,p⟩:=mr.1 r;have l:cu f n B (k+1) (aL n y)<=c:=by omega
  refine abn j k (c::y) _ (by grind) (j.tcb h q g l p) (j.step h g l p).1 fun e=>?_
  grind
theorem WI (h:Rf M n f) (b:0<=B) (e:B<=65536):(R7 f n B).length<=(e9 f n B n []).length:=by
 have c:=h.vs b e;have g:fq f n B n (aL n []):=gN c.r.pd b;have l:=h.n1;have:=abn c (n-1) [] true (by simp;omega) tn.nil (by grind) (fun _ x j=>by simp at j);rwa[show n-1+1=n by omega]at this
theorem YJ (h:Rf M 1 f) (b:0<=B) (u:B<=65536):CallC prog 90 [bV M,.raw (.int .i64 B),.raw (.bool false)] ⟨[],bV (R7 f 1 B)⟩:=by
 have s:=(h.vs b u).d (k:=1) (aeJ 1);have v:dk f 1<=10000:=h.r.2.2.1;have t:dk f 1=f 0 0:=by show bk f 0 0 0=f 0 0;exact de f 0 0
 rw[acZ s.1 b];have w:0<=B/dk f 1:=af9 b (by omega);have x:B/dk f 1<=B:=ahh _ b;have o:=dU w;have z:isqF (B/dk f 1)<=256:=by
  refine afR fun q=>?_
  have:=ae0 (show(257:Int)<=isqF (B/dk f 1) by omega) (show(257:Int)<=isqF (B/dk f 1) by omega) (by omega) (by omega);have:=o.2.1;omega
 have p:=acA (dk f 1) B false s.1 (by omega) b (by omega) (by
  grind [List.length_flatMap,VB,zB,p9])
 have c:=h.l;have g:M[0]?=some (aA 1 (f 0)):=by rw[h.e];rfl
 have q:=aw (m:=1) (f 0) (j:=0) (by omega);have y:=az 1 (f 0);generalize(rng 1 (isqF (B/dk f 1))).flatMap (VB (dk f 1) B false)=E at*
 rw[t]at p;refine aB func90 rfl ntmps90 (aE (k:=aj (aF c (k:=aC rfl (dF [⟨7,_,_,_,p⟩] (aG g q) (k:=aI @results90))))))
theorem ab6 (h:Rf M n f) (c:0<=B) (g:B<=65536) (j:(R7 f n B).length<=1000000):CallC prog 90 [bV M,.raw (.int .i64 B),.raw (.bool false)] ⟨[],bV (R7 f n B)⟩:=by
 by_cases e:n=1
 ·subst e;exact YJ h c g
 have:=h.n1;rw[h.e];exact YK (h.vs c g) (Me h.r h.n1 h.n8 h.b) false (by omega) j
abbrev vtT (l:List (List Int)) (s e:Int):TV:= .tup [(false,[.p (.sl (ls (fR fI) l))]),(false,[.p (.raw (.int .i64 s))]),(false,[.p (.raw (.int .i64 e))])]
abbrev vtE (e:Int):TV:= .tup [(false,[.p (.raw (.slice none 0 0))]),(false,[.p (.raw (.int .i64 0))]),(false,[.p (.raw (.int .i64 e))])]
theorem abC (M:List (List Int)) (B k e:Int) (g:e≠0) (c:CallC prog 87 [bV M,.raw (.int .i64 B),.raw (.int .i64 k)] ⟨[],sxE e⟩):CallC prog 37 [bV M,.raw (.int .i64 B),.raw (.int .i64 k)] ⟨[],vtE e⟩:=by
 have b:(e=0)=False:=eq_false g;refine aB func37 rfl ntmps37 (aE (k:=bu [⟨3,_,_,_,c⟩] (k:=aj (d9 b (k:=aC rfl (aZ (k:=aI @results37)))))))
theorem Tf (h:Rf M n f) (e:0<=B) (j:B<=65536) (P:0<=k) (o:k<=1000000) (N:(toL f n B (n-1) []:Int)<=k):
  CallC prog 37 [bV M,.raw (.int .i64 B),.raw (.int .i64 k)] ⟨[],if 8194<(e9 f n B n []).length then vtE 7 else vtT ((dJ f n B).map Prod.snd) (toL f n B (n-1) []) 0⟩:=by
 obtain⟨L,K,t,l,u,x⟩:=(CA h e j P o).1 N;have q:=BA h.red e j P o;rw[K]at q;have X:=h.n1;have Y:=h.n8;have m:=nZ (f:=f) (n:=n) (B:=B) (n-1) [];rw[show n-1+1=n by omega]at m;have R:=WI h e j;have s: ∀i,i<n->L[i]?=some (L.getD i 0):=fun i C=>by grind
 have p:=ZH L ((e9 f n B n []).length:Int) (by omega) (by omega) (by grind) (by omega) (by omega);have aa:1<=(e9 f n B n []).length:=by
  have E:af n (0:Int)∈e9 f n B n []:=(qU h.r e _).2 ⟨by simp,by
   grind [fL,gM]⟩
  grind
 have Z:Int.tdiv (((e9 f n B n []).length:Int)-1) 2=(((e9 f n B n []).length:Int)-1)/2:=agk (by omega);rw[Z]at p;have A:=ab6 h e j;have b:=fun W=>ZG h (R7 f n B) W fun z hz=>by
  obtain⟨J,S,T⟩:=(LG h e j z).1 hz;exact⟨J,T8 h.r h.n8 e j J S,Wt T⟩
 rw[show nk ((R7 f n B).map (itN n f))=dJ f n B from rfl]at b;have H: ∀i,i<n->sL i L+L.getD i 0=sL (i+1) L:=fun _ _=>rfl
 have y: ∀i,i<=n->0<=sL i L/\sL i L<=1000000:=fun i C=>by
  refine⟨jG i fun a O=>l a (by omega),?_⟩;have:=acS (F:=fun i=>L.getD i 0) C fun a O=>l a O
  grind [sL]
 have I:sL 0 L=0:=rfl;rw[<- u]at N⊢;generalize(e9 f n B n []).length=z at*
 generalize R7 f n B=Q at*
 generalize(dJ f n B).map Prod.snd=V at*
 clear K x;by_cases c:8194<z
 ·rw[if_pos c];have g:(4096<((z:Int)-1)/2)=True:=eq_true (by omega);refine aB func37 rfl ntmps37 (aE (k:=bu [⟨3,_,_,_,q⟩] (k:=aj (ax (k:=aq rfl (al (aj (ce [⟨1,_,_,_,p⟩] g (k:=aC rfl (aZ (k:=aI @results37)))))))))))
 rw[if_neg c];have g:(4096<((z:Int)-1)/2)=False:=eq_false (by omega);have U:=A (by omega);have b:=b (by omega);refine aB func37 rfl ntmps37 (aE (k:=bu [⟨3,_,_,_,q⟩] (k:=aj (ax (k:=aq rfl (al (aj (fJ [⟨1,_,_,_,p⟩] g (k:=aq rfl (al (aZ (k:=aj (d9 t (k:=?_))))))))))))));refine ay (G:=fp n) (fun v=>⟨(bV M::.raw (.int .i64 B)::j4 (j4 (jk::.raw (.int .i64 (sL v.i L))::j16 (jk::d7 L::rN n::rN v.i::j16 (jk::[]))))),Hm []⟩) (fun v=>n-v.i) ⟨0,by omega⟩ ?_ ?_
 ·refine ak trivial ?_;simp[wk,I]
 rintro⟨i,C⟩;simp only;by_cases E:i<n
 ·have w:=s i E;have s1:=H i E;have b1:=y (i+1) (by omega);refine ax (k:=aP rfl (aj (ao (aF w (k:=dz s1 (k:=bK (k:=?_)))))));refine⟨⟨i+1,by omega⟩,by grind,ak trivial ?_⟩;simp[wk]
 have D:i=n:=by omega
 subst D;refine ax (k:=aQ rfl (fJ [⟨3,_,_,_,U⟩,⟨4,_,_,_,b⟩] @grT.eq_1 (k:=aZ (k:=aI @results37))))
end
end
section
section
variable {M:List (List Int)} {n:Nat} {f:FF} {B k:Int}
def l7 (n:Nat) (f:FF):Int:=LK (aA n fun i=>f i i) (n-1)
theorem VA (L:List Int): ∀i j,j<=i->LK L i<=L.getD j 0
 |0,j,h=>by rw[show j=0 by omega];exact afY _
 |i+1,j,h=>by
  show(if L.getD (i+1) 0<LK L i then L.getD (i+1) 0 else LK L i)<=_;by_cases e:j=i+1
  ·grind
  have:=VA L i j (by omega);omega
theorem Vz (L:List Int): ∀i,∃j,j<=i/\LK L i=L.getD j 0
 |0=>⟨0,aeJ 0,rfl⟩
 |i+1=>by
  obtain⟨j,b,c⟩:=Vz L i;grind [LK]
theorem Od {i:Nat} (b:i<n):(aA n fun i=>f i i).getD i 0=f i i:=by
 grind [aw]
theorem abd (c:1<=n): ∀i,i<n->l7 n f<=f i i:=fun i b=>by
 have:=VA (aA n fun i=>f i i) (n-1) i (by omega);rwa[Od b]at this
theorem abc (c:1<=n): ∃i,i<n/\l7 n f=f i i:=by
 obtain⟨j,e,b⟩:=Vz (aA n fun i=>f i i) (n-1);exact⟨j,by omega,by rw[<- Od (n:=n) (f:=f) (i:=j) (by omega)];exact b⟩
theorem FO (h:Rf M n f) {z:List Int} (p:z.length=n) (l:bT z≠0):0<gp n f z:=by
 have b:=h.r.pd;rw[fL];have g:=(jQ b.1 b.2 (fun i=>z.getD i 0) n 0 (by omega));have e:BF n (bk f 0) (fun i=>z.getD i 0) (fun i=>z.getD i 0)=BF n f (fun i=>z.getD i 0) (fun i=>z.getD i 0):=cf (fun i j _ _=>de f i j) (fun _ _=>rfl) (fun _ _=>rfl);rw[e]at g;refine Int.lt_iff_le_and_ne.2 ⟨g.1,fun m=>l (jP.2 fun c o=>?_)⟩;grind [List.mem_iff_getElem?]
theorem qt (h:Rf M n f):0<l7 n f/\l7 n f<=65536:=by
 have b:=h.n1;obtain⟨i,g,e⟩:=abc (f:=f) b;have l:=(h.vs (B:=0) (by omega) (by omega)).d (k:=1) b;have j:dk f 1=f 0 0:=by show bk f 0 0 0=f 0 0;exact de f 0 0
 have:=abd (f:=f) b 0 (by omega);refine⟨?_,by omega⟩;rw[e];have c:=h.r.pd.diag g;exact c
def unL (n i:Nat):List Int:=aA n (eC i)
theorem adh {i:Nat} (b:i<n):bT (unL n i)=1:=by
 have e:unL n i=af i 0++1::af (n-i-1) 0:=by
  apply aeW;intro j;by_cases c:j<n
  ·grind [unL,eC,aw]
  grind [unL,az]
 grind [Wu]
theorem aed {i:Nat} (b:i<n):gp n f (unL n i)=f i i:=by
 rw[fL,<- Nw (f:=f) b b];refine cf (fun _ _ _ _=>rfl) (fun j c=>?_) (fun j c=>?_)<;>
 ·grind [unL,aw]
theorem Et (h:Rf M n f):0<(dJ f n (l7 n f)).length:=by
 obtain⟨i,b,e⟩:=abc (f:=f) h.n1;have c:=qt h;exact List.length_pos_of_mem ((cq h (by omega) (by omega) (f i i,unL n i)).2 ⟨az _ _,(aed b).symm,by omega,adh b⟩)
theorem GH (h:Rf M n f) (b:0<=B) (c:B<=65536):(dJ f n B).length<=(e9 f n B n []).length:=by
 grind [AZ,WI,dJ,nk]
def JS (b:List (Int×List Int)):List (Int×List Int):=b.takeWhile fun p=>p.1==(b.getD 0 (0,[])).1
theorem abo (v:Int): ∀(b:List (Int×List Int)) (i:Nat) p,b[i]?=some p->(i<(b.takeWhile fun p=>p.1==v).length->p.1=v)/\(i=(b.takeWhile fun p=>p.1==v).length->p.1≠v)
 |[],i,p,h=>by simp at h
 |q::b,i,p,h=>by
  by_cases e:q.1=v
  ·rw[ahf (by simp[e])];cases i with
   |zero=>grind
   |succ i=>
    have:=abo v b i p (by grind);grind
  grind [List.takeWhile_cons_of_neg]
theorem PL (p:(Int×List Int)->Bool): ∀b:List (Int×List Int),b.take (b.takeWhile p).length=b.takeWhile p
 |[]=>rfl
 |q::b=>by
  by_cases e:p q=true
  ·rw[ahf e,ae6,af6,PL p b]
  simp_all
abbrev mnT (v:Int) (l:List (List Int)) (e:Int):TV:= .tup [(false,[.p (.raw (.int .i64 v))]),(false,[.p (.sl (ls (fR fI) l))]),(false,[.p (.raw (.int .i64 e))])]
structure MiG (m:Nat) where
 i:Nat
 h1:1<=i
 h2:i<=m
theorem abz (h:Rf M n f) (T:(e9 f n (l7 n f) n []).length<=8194) (Y:CallC prog 37 [bV M,.raw (.int .i64 (l7 n f)),.raw (.int .i64 k)] ⟨[],vtT ((dJ f n (l7 n f)).map Prod.snd) B 0⟩):
  CallC prog 15 [bV M,.raw (.int .i64 k)] ⟨[],mnT ((dJ f n (l7 n f)).getD 0 (0,[])).1 ((JS (dJ f n (l7 n f))).map Prod.snd) 0⟩:=by
 have Q:=qt h;have X:=ge M h.red;have O:=K7 n f h.n1 (by have:=h.n8;omega);rw[<- h.e]at O;have P:=adX (aA n fun i=>f i i) (by rw[az];exact h.n1) (by rw[az];have:=h.n8;omega);rw[az,show LK (aA n fun i=>f i i) (n-1)=l7 n f from rfl]at P;have y:=Et h;have o: ∀i (p:Int×List Int),(dJ f n (l7 n f))[i]?=some p->CallC prog 40 [bV M,d7 p.2] ⟨[],.raw (.int .i64 p.1)⟩:=fun i p s=>by
  obtain⟨N,U,a3,_⟩:=(cq h (by omega) (by omega) p).1 (adQ s);have hP:fq f n (l7 n f) 0 (aL n p.2):=by
   rw[lk,show aL n p.2=fun i=>p.2.getD i 0 from funext fun i=>nj N i,<- fL];omega
  rw[U,h.e];exact(LV h.r h.n8 h.b (by omega) Q.2 N hP).1
 have R:(dJ f n (l7 n f)).length<=8194:=aeN (GH h (by omega) Q.2) T;clear T;unfold JS;generalize dJ f n (l7 n f)=g at*
 generalize l7 n f=B0 at*
 obtain⟨j,z⟩: ∃j,g[0]?=some j:=⟨g[0],by simp[y]⟩;have Z:g.getD 0 (0,[])=j:=by grind
 rw[Z];have A:=fun(i:Nat) (p:Int×List Int)=>abo j.1 g i p
 have L:=PL (fun p=>p.1==j.1) g;have K:(g.takeWhile fun p=>p.1==j.1).length<=g.length:=by
  grind
 have J:1<=(g.takeWhile fun p=>p.1==j.1).length:=by
  grind
 rw[<- L];generalize(g.takeWhile fun p=>p.1==j.1).length=m at*
 rw[List.map_take];have D: ∀(i:Nat) (p:Int×List Int),g[i]?=some p->(g.map Prod.snd)[i]?=some p.2:=fun i p s=>by grind
 have E:=D 0 j z;have l:(g.map Prod.snd).length=g.length:=by simp
 have w: ∀i,i<g.length-> ∃p:Int×List Int,g[i]?=some p:=fun i hi=>⟨g[i],by simp[hi]⟩
 have W:=o 0 j z;have S:0<g.length:=y;generalize aa:g.map Prod.snd=V at*
 refine aB func15 rfl ntmps15 (aE (k:=aj (bu [⟨1,_,_,_,X⟩] (k:=aq rfl (al (bu [⟨2,_,_,_,O⟩,⟨3,_,_,_,P⟩,⟨5,_,_,_,Y⟩] (k:=aj (ax (k:=aq rfl (al (ce [⟨4,_,_,_,W⟩] E (k:=aZ (k:=aj ?_)))))))))))));refine ay (G:=MiG m) (fun v=>⟨(bV M::j4 (jk::jk::bV V::jk::jk::.raw (.int .i64 j.1)::rN v.i::j16 (j16 (j4 (j4 (jk::[])))))),Hm []⟩) (fun v=>m-v.i) ⟨1,aeJ 1,J⟩ ?_ ?_
 ·refine ak trivial ?_;simp[wk]
 rintro⟨i,ab,ac⟩;simp only;by_cases H:i<m
 ·have u:i<g.length:=by omega
  obtain⟨p,s⟩:=w i u;have t:=D i p s;have C:=o i p s;have F:(p.1=j.1)=True:=eq_true ((A i p s).1 H);refine aj (ce [⟨10,_,_,_,C⟩] (aG l (aG t F)) (k:=aC rfl (al (ao (bK (k:=?_))))));refine⟨⟨i+1,by omega,by omega⟩,by grind,ak trivial ?_⟩;simp[wk]
 obtain rfl:i=m:=by omega
 have x:(i<=g.length)=True:=eq_true K;have q:(∀c∈ls (fR fI) V,c.length=1)=True:=fj (f:=fR fI) (fun _=>rfl) V;by_cases u:i<g.length
 ·obtain⟨p,s⟩:=w i u;have t:=D i p s;have C:=o i p s;have F:(p.1=j.1)=False:=eq_false ((A i p s).2 rfl);refine aj (ce [⟨10,_,_,_,C⟩] (aG l (aG t F)) (k:=aq rfl (aT (iH (aG @afl (aG l (aG x q))) (k:=aI @results15)))))
 have I:((i:Int)<(g.length:Int))=False:=eq_false (by omega);refine aj (aF (aG l I) (k:=aq rfl (aT (iH (aG @afl (aG l (aG x q))) (k:=aI @results15)))))
end
end
section
def X9 (L:List Int):Nat->Int
 |0=>L.getD 0 0
 |i+1=>if X9 L i<L.getD (i+1) 0 then L.getD (i+1) 0 else X9 L i
theorem abb (L:List Int) (m:1<=L.length) (p:L.length<=1000):CallC prog 66 [d7 L] ⟨[],.raw (.int .i64 (X9 L (L.length-1)))⟩:=by
 have j: ∀i,i<L.length->L[i]?=some (L.getD i 0):=fun i n=>by grind
 have l:=j 0 (by omega);have c:X9 L 0=L.getD 0 0:=rfl;have e: ∀i,(if L.getD (i+1) 0>X9 L i then L.getD (i+1) 0 else X9 L i)=X9 L (i+1):=fun _=>rfl
 refine aB func66 rfl ntmps66 (aE (k:=aj (ax (k:=aq rfl (al (aF l (k:=aj (aZ (k:=?_)))))))));refine ay (G:=MnG L.length) (fun g=>⟨(d7 L::jk::jk::.raw (.int .i64 (X9 L g.i))::.raw (.int .i64 ((g.i+1:Nat):Int))::j16 (j4 ([]))),Hm []⟩) (fun g=>L.length-g.i) ⟨0,m⟩ ?_ ?_
 ·refine ak trivial ?_;simp[wk,c]
 rintro⟨i,n⟩;simp only;by_cases h:i+1<L.length
 ·have f:=j (i+1) h;have o:=e i;refine aj (ax (k:=aC rfl (al (aj (ao (dz (aG f o) (k:=bK (k:=?_))))))));refine⟨⟨i+1,h⟩,by grind,ak trivial ?_⟩;simp[wk]
 have b:i=L.length-1:=by omega
 subst b;refine aj (ax (k:=aq rfl (aT (aZ (k:=aI @results66)))))
theorem VC {n:Nat} {f:FF} (b: ∀i,i<n->0<f i i): ∀i,i<n->X9 (aA n fun i=>f i i) i=dN f (i+1)
 |0,h=>by
  have:=b 0 h;show(aA n fun i=>f i i).getD 0 0=if(0:Int)<f 0 0 then f 0 0 else 0
  grind [dm]
 |i+1,h=>by
  show(if X9 _ i<(aA n fun i=>f i i).getD (i+1) 0 then _ else _)=if dN f (i+1)<f (i+1) (i+1)then f (i+1) (i+1)else dN f (i+1)
  rw[VC b i (by omega),dm _ h]
structure ael (n:Nat) (ks R:List (Int×List Int)) where
 i:Nat
 ch:List (Int×List Int)
 L:List (List Int)
 ps:List Nat
 hi:i<=ks.length
 h:SpCh n ch L ps
 e:grS n (ks.drop i) ch=R
section
variable {M:List (List Int)} {n:Nat} {f:FF} {B k s:Int}
theorem P8 (h:Rf M n f) (X:n<=3) (hB:dN f n=B) (O:0<=B) (P:B<=65536) (hl:(dJ f n B).length<=8194) (cV:CallC prog 37 [bV M,.raw (.int .i64 B),.raw (.int .i64 k)] ⟨[],vtT ((dJ f n B).map Prod.snd) s 0⟩):
  CallC prog 28 [bV M,.raw (.int .i64 k)] ⟨[],wq ((grS n (dJ f n B) []).map Prod.fst) 0⟩:=by
 have cI:=ge M h.red;have H:=h.n1;have ab:=h.n8;have Z:=K7 n f H (by omega);rw[<- h.e]at Z;have cM:=abb (aA n fun i=>f i i) (by grind [az]) (by rw[az];omega);rw[az,VC (fun i hi=>h.r.pd.diag hi) (n-1) (by omega),show n-1+1=n by omega,hB]at cM;have D: ∀i (p:Int×List Int),(dJ f n B)[i]?=some p->CallC prog 40 [bV M,d7 p.2] ⟨[],.raw (.int .i64 p.1)⟩/\p.2.length=n/\ ∀c∈p.2,c.natAbs<32768:=fun i p I=>by
  obtain⟨J,a2,a3,_⟩:=(cq h O P p).1 (adQ I);have hP:fq f n B 0 (aL n p.2):=by
   rw[lk,show aL n p.2=fun i=>p.2.getD i 0 from funext fun i=>nj J i,<- fL];omega
  refine⟨?_,J,T9 h.r X O P J (by omega)⟩;rw[a2,h.e];exact(LV h.r h.n8 h.b O P J hP).1
 have F:M.length=n:=by rw[h.e];exact aS n n f
 generalize hR:grS n (dJ f n B) []=R;generalize dJ f n B=o at*
 have hV: ∀(i:Nat) (p:Int×List Int),o[i]?=some p->(o.map Prod.snd)[i]?=some p.2:=fun i p I=>by grind
 have U:(o.map Prod.snd).length=o.length:=by simp
 generalize S:o.map Prod.snd=V at*
 clear h hB S;refine aB func28 rfl ntmps28 (aE (k:=aj (bu [⟨1,_,_,_,cI⟩] (k:=aq rfl (al (bu [⟨2,_,_,_,Z⟩,⟨3,_,_,_,cM⟩,⟨5,_,_,_,cV⟩] (k:=aj (ax (k:=aq rfl (al (ax (k:=aZ (k:=aj (d9 U (k:=?_)))))))))))))));refine ay (G:=ael n o R) (fun g=>⟨(bV M::j4 (j4 (.one (.ptr 9 0 0 0)::.one (.sl 10 0 0 g.ch.length)::j16 (jk::jk::bV V::rN o.length::rN g.i::j16 (j4 ([])))))),Hm [(9,GU 9 g.L g.ps),(10,[⟨2,1,lc fI (g.ch.map Prod.fst)⟩])]⟩) (fun g=>o.length-g.i) ⟨0,[],[],[],by omega,SpCh.nil,hR⟩ ?_ ?_
 ·refine(ca (k:=10) (d:=10) 2 1 (by omega) rfl rfl).trans ((ib 9 0 0 0 85 1 (by omega) rfl rfl rfl).trans ((ib 9 0 0 1 3 1 (by omega) rfl rfl rfl).trans (ak ⟨rfl,rfl,trivial⟩ ?_)));simp[wk]
 rintro⟨i,q,L,y,aa,w,m⟩;simp only;by_cases hm:i<o.length
 ·obtain⟨p,I⟩:=getElem?_of_lt hm;have T:=hV i p I;obtain⟨cn,pl,pb⟩:=D i p I;have hd:o.drop i=p::o.drop (i+1):=by
   grind [List.drop_eq_getElem_cons]
  rw[hd]at m;have Y: ∀j,(p.2.getD j 0).natAbs<32768:=fun j=>by
   grind
  obtain⟨g1,g2,g3⟩:=w.add p (fun j _=>Y j) (o.drop (i+1));have cl:=w.l;have W:=vl w.x.ind;have N:IntKind.i64.wrap ((i:Int)+1)=((i+1:Nat):Int):=by grind [aH]
  have l2:(q.map Prod.fst).length=q.length:=ae3 _;refine ax (k:=aP rfl (aj (ao (aF T (k:=?_)))));by_cases Q:L.length<n
  ·have t:((q.length:Int)<(n:Int))=True:=eq_true (by omega);have cP:=aaY H (by omega) (by omega) w.ok pl pb;refine aj (uJ (Hk 7 cP 9 [] [] (by kernel_rfl) (by omega) (by decide) fun K C=>?_));simp(disch:=omega) only[kd,Nat.reduceAdd,F,t];refine C _ ⟨⟨⟨_,_,_,rfl,rfl,rfl,rfl,rfl⟩,?_⟩,?_⟩
   ·grind [Pu]
   clear C K;intro K C;simp(disch:=omega) only[kd,Nat.reduceAdd,CO,cwD,qy,oJ,Nat.reduceEqDiff];apply C;clear C K;show bv _ _ _ _;by_cases u:(wN n L y p.2).2.2=true
   ·obtain⟨A,h6⟩:=g1 ⟨Q,u⟩;rw[h6]at m;rw[u];generalize(wN n L y p.2).1=L' at*
    generalize(wN n L y p.2).2.1=ps' at*
    obtain⟨v,z⟩:=p;refine aC rfl (nU [⟨3,_,_,_,cn⟩] (aG l2 @j6) (k:=df N (k:=?_)));refine⟨⟨i+1,q++[(v,z)],L',ps',by omega,A,m⟩,by grind,ak ⟨rfl,?_,trivial⟩ ?_⟩
    ·simp only[afv,aeX,afh];rfl
    simp[wk]
   obtain⟨A,_⟩:=g2 fun h=>u h.2
   have u:(wN n L y p.2).2.2=false:=by grind
   obtain⟨h7,h8⟩:=g3 Q u;rw[A]at m;rw[u,h7,h8];refine aq rfl (al (df N (k:=?_)));refine⟨⟨i+1,q,L,y,by omega,w,m⟩,by grind,ak ⟨rfl,rfl,trivial⟩ ?_⟩;simp[wk]
  have t:((q.length:Int)<(n:Int))=False:=eq_false (by omega);obtain⟨A,_⟩:=g2 fun h=>Q h.1
  rw[A]at m;refine d9 (aG F t) (k:=aq rfl (al (df N (k:=?_))));refine⟨⟨i+1,q,L,y,by omega,w,m⟩,by grind,ak ⟨rfl,rfl,trivial⟩ ?_⟩;simp[wk]
 have E:i=o.length:=by omega
 subst E;rw[ags,grS]at m;subst m;refine ax (k:=aQ rfl (aZ (k:=?_)));refine aM ⟨.inr rfl,dI 10 (bj rfl) ?_ rfl⟩;have eT:List.take q.length (q.map Prod.fst)=q.map Prod.fst:=aeS (by simp);simp(disch:=omega) only[kd,results28,Nat.reduceEqDiff,eT]
theorem P7 (h:Rf M n f) (o:dN f n=B) {e:Int} (b:e≠0) (m:CallC prog 37 [bV M,.raw (.int .i64 B),.raw (.int .i64 k)] ⟨[],vtE e⟩):
  CallC prog 28 [bV M,.raw (.int .i64 k)] ⟨[],wq [] e⟩:=by
 have l:=ge M h.red;have c:=h.n1;have q:=h.n8;have g:=K7 n f c (by omega);rw[<- h.e]at g;have j:=abb (aA n fun i=>f i i) (by grind [az]) (by rw[az];omega);rw[az,VC (fun i p=>h.r.pd.diag p) (n-1) (by omega),show n-1+1=n by omega,o]at j;have b:(e=0)=False:=eq_false b;refine aB func28 rfl ntmps28 (aE (k:=aj (bu [⟨1,_,_,_,l⟩] (k:=aq rfl (al (bu [⟨2,_,_,_,g⟩,⟨3,_,_,_,j⟩,⟨5,_,_,_,m⟩] (k:=aj (d9 b (k:=aC rfl (aZ (k:=?_)))))))))));refine aM ⟨.inr rfl,lW 4 rfl rfl ?_ rfl⟩;simp(disch:=omega) only[kd,results28];rfl
end
end
theorem fA (x y:List Int):CallC prog 21 [d7 x,d7 y] ⟨[],.raw (.int .i64 (dZ x y))⟩:=by
 refine oB (by kernel_rfl) fun X w vs u p f=>?_
 obtain⟨C,s,q⟩:=HJ f (j:=0) rfl;obtain⟨D,t,r⟩:=HJ f (j:=1) rfl;obtain⟨A,c,rfl,v,o,l⟩:=zu q;obtain⟨B,d,rfl,z,b,m⟩:=zu r;obtain rfl:vs= #[.slice A x.length c,.slice B y.length d]:=by
  grind
 refine(rD A B c d x y w l m o b).mono fun e E ⟨g,h⟩=>?_
 obtain⟨n,rfl⟩:=h;exact⟨_,g,fun _ _ _=>bS.raw _ rfl,(fm.refl _).drewN n⟩
/-! The same by computable functions. -/
def X7 (a:Nat):Nat->Nat
 |0=>0
 |m+1=>if(m+1)*(m+1)<=a then m+1 else X7 a m
theorem IK (a:Nat): ∀m,a<(m+1)*(m+1)->X7 a m*X7 a m<=a/\a<(X7 a m+1)*(X7 a m+1)
 |0,h=>⟨by simp[X7],by grind⟩
 |m+1,h=>by
  unfold X7;split
  ·omega
  exact IK a m (by omega)
theorem aa7 (a:Int):isqF a=(X7 a.toNat a.toNat:Int):=by
 by_cases c:0<=a
 ·have b:a.toNat<(a.toNat+1)*(a.toNat+1):=aeT (ahA _) (agh _ (Nat.succ_pos _));obtain⟨e,f⟩:=IK a.toNat a.toNat b;refine NC.uniq (dU c) ⟨by omega,?_,?_⟩
  ·omega
  grind
 have:a.toNat=0:=by omega
 rw[this];show isqF a=0;unfold isqF;rw[dif_neg];rintro⟨r,b,g,h⟩;have:=aeQ b b;omega
def loC (f:FF) (n:Nat) (B:Int) (k:Nat) (y:List Int):Int:= -(((X7 (gE f n B k (aL n y)).toNat (gE f n B k (aL n y)).toNat:Int)+jU f n k (aL n y))/dk f (k+1))
def hiC (f:FF) (n:Nat) (B:Int) (k:Nat) (y:List Int):Int:=((X7 (gE f n B k (aL n y)).toNat (gE f n B k (aL n y)).toNat:Int)-jU f n k (aL n y))/dk f (k+1)
theorem Vg (f:FF) (n:Nat) (B:Int) (k:Nat) (y:List Int):cu f n B k (aL n y)=loC f n B k y:=by unfold cu loC;rw[aa7]
theorem UU (f:FF) (n:Nat) (B:Int) (k:Nat) (y:List Int):dy f n B k (aL n y)=hiC f n B k y:=by unfold dy hiC;rw[aa7]
def enC (f:FF) (n:Nat) (B:Int):Nat->List Int->List (List Int)
 |0,y=>[y]
 |k+1,y=>(rng (loC f n B k y) (hiC f n B k y)).flatMap fun c=>enC f n B k (c::y)
theorem acf (f:FF) (n:Nat) (B:Int): ∀k y,e9 f n B k y=enC f n B k y
 |0,y=>rfl
 |k+1,y=>by
  unfold e9 enC;rw[Vg,UU]
  congr 1
  funext c;exact acf f n B k (c::y)
def toC (f:FF) (n:Nat) (B:Int):Nat->List Int->Nat
 |0,y=>(rng (loC f n B 0 y) (hiC f n B 0 y)).length
 |k+1,y=>(rng (loC f n B (k+1) y) (hiC f n B (k+1) y)).length+((rng (loC f n B (k+1) y) (hiC f n B (k+1) y)).map fun c=>toC f n B k (c::y)).sum
theorem adc (f:FF) (n:Nat) (B:Int): ∀k y,toL f n B k y=toC f n B k y
 |0,y=>by unfold toL toC;rw[Vg,UU]
 |k+1,y=>by
  unfold toL toC;rw[Vg,UU]
  congr 3
  funext c;exact adc f n B k (c::y)
def srC (f:FF) (n:Nat) (B:Int):Nat->List Int->Bool->List (List Int)
 |0,y,z=>(rng (if z=true then 0 else loC f n B 0 y) (hiC f n B 0 y)).flatMap fun c=>if(z&&decide (c=0))=true then[]else[c::y]
 |k+1,y,z=>(rng (if z=true then 0 else loC f n B (k+1) y) (hiC f n B (k+1) y)).flatMap fun c=>srC f n B k (c::y) (z&&decide (c=0))
theorem ad4 (f:FF) (n:Nat) (B:Int): ∀k y z,CP f n B false k y z=srC f n B k y z
 |0,y,z=>by
  grind [CP,srC,Vg,UU]
 |k+1,y,z=>by
  unfold CP srC;rw[Vg,UU]
  congr 1
  funext c;exact ad4 f n B k (c::y) _
abbrev awM:List (List Int):=[[2,1],[1,2]]
abbrev awI:List (List Int):=[[1,0],[0,1]]
theorem adH:Rf awM 2 (ent awM):=Pg (M:=awM) (by decide+kernel)
theorem adG:Rf awI 2 (ent awI):=Pg (M:=awI) (by decide+kernel)
theorem TK:l7 2 (ent awM)=2:=by rfl
theorem abV:toL (ent awM) 2 2 1 []=10:=by rw[adc];rfl
theorem abR:(e9 (ent awM) 2 2 2 []).length=7:=by rw[acf];rfl
theorem adJ:dJ (ent awM) 2 2=[(2,[0,1]),(2,[1,-1]),(2,[1,0])]:=by
 unfold dJ R7;rw[ad4];rfl
theorem abU:toL (ent awI) 2 5 1 []<=100:=by rw[adc];decide+kernel
theorem adI:thL (ent awI) 2 5=[1,4,4,0,4,8]:=by
 unfold thL;rw[acf];rfl
theorem NE {f:FF} {k:Int} (h:Rf b n f) (j:0<=k) (c:k<=1000000) (e:(toL f n (l7 n f) (n-1) []:Int)<=k) (l:(e9 f n (l7 n f) n []).length<=8194):
  CallC prog 15 [bV b,.raw (.int .i64 k)] ⟨[],mnT ((dJ f n (l7 n f)).getD 0 (0,[])).1 ((JS (dJ f n (l7 n f))).map Prod.snd) 0⟩:=by
 have g:=qt h;grind [Tf,abz]
theorem abS:CallC prog 15 [bV awM,.raw (.int .i64 100)] ⟨[],mnT 2 [[0,1],[1,-1],[1,0]] 0⟩:=by
 have h:=NE adH (k:=100) (by omega) (by omega) (by grind [TK,abV]) (by rw[TK,abR];decide);rw[TK,adJ]at h;exact h
theorem abT:CallC prog 19 [bV awI,.raw (.int .i64 5),.raw (.int .i64 100)] ⟨[],.tup [(false,[.p (.sl (ls fI [1,4,4,0,4,8]))]),(false,[.p (.raw (.int .i64 0))])]⟩:=by
 have h:=G7 adG 5 (by omega) (k:=100) (by omega) (by omega) (by
  grind [abU])
 grind [adI]
abbrev pI (z:Int):PV:= .raw (.int .i64 z)
theorem oA:CallC prog 18 [] ⟨[],.raw (.bool true)⟩:=by
 have c:CallC prog 15 [.one (.p (.sl [[.sl [[pI 2],[pI 1]]],[.sl [[pI 1],[pI 2]]]])),.raw (.int .i64 100)] ⟨[],.tup [(false,[.p (pI 2)]),(false,[.p (.sl [[.sl [[pI 0],[pI 1]]],[.sl [[pI 1],[pI (-1)]]],[.sl [[pI 1],[pI 0]]]])]),(false,[.p (pI 0)])]⟩:=abS;have f:CallC prog 19 [.one (.p (.sl [[.sl [[pI 1],[pI 0]]],[.sl [[pI 0],[pI 1]]]])),.raw (.int .i64 5),.raw (.int .i64 100)] ⟨[],.tup [(false,[.p (.sl [[pI 1],[pI 4],[pI 4],[pI 0],[pI 4],[pI 8]])]),(false,[.p (pI 0)])]⟩:=abT;have e:CallC prog 17 [.one (.p (.sl [[.sl [[pI 0],[pI 1]]],[.sl [[pI 1],[pI (-1)]]],[.sl [[pI 1],[pI 0]]]])),.one (.p (.sl [[.sl [[pI 0],[pI 1]]],[.sl [[pI 1],[pI (-1)]]],[.sl [[pI 1],[pI 0]]]]))] ⟨[],.raw (.bool true)⟩:=by
  have:=acM [[0,1],[1,-1],[1,0]] [[0,1],[1,-1],[1,0]];rw[decide_eq_true rfl]at this;exact this
 have b:CallC prog 21 [.one (.p (.sl [[pI 1],[pI 4],[pI 4],[pI 0],[pI 4],[pI 8]])),.one (.p (.sl [[pI 1],[pI 4],[pI 4],[pI 0],[pI 4],[pI 8]]))] ⟨[],.raw (.int .i64 0)⟩:=by
  have:=fA [1,4,4,0,4,8] [1,4,4,0,4,8];rw[gH]at this;exact this
 refine aB func18 rfl ntmps18 (aE (k:=ce [⟨3,_,_,_,c⟩] @pI.eq_1 (k:=ce [⟨3,_,_,_,f⟩] @pI.eq_1 (k:=ce [⟨16,_,_,_,e⟩,⟨21,_,_,_,b⟩] @pI.eq_1 (k:=aI @results18)))))
theorem UM (nm:List Int->Int) (m:Int): ∀(l:List (List Int)) (g:MapS),(gF nm g l).2 m=g.2 m+((l.filter fun z=>decide (nm z=m)).length:Int)
 |[],g=>by simp[gF]
 |z::l,g=>by
  have:=UM nm m l (rp g (nm z) (g.2 (nm z)+1));grind [gF,rp]
end Go.Proofs.YtalmoejhjceflaaGreat
