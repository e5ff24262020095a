/-
  Part 5 of a proof (walks and plain facts).
-/
import Derived.Test.YtalmoejhjceflaaGreatV03
set_option linter.all false
set_option maxRecDepth 100000
set_option maxHeartbeats 64000000
open List renaming replicate → af
namespace Go.Proofs.YtalmoejhjceflaaGreat
open Go.RowKit
variable {b c:Nat->Prop} {e:Exit->Act->World->Prop} {f:Act->World->Prop} {g h:Code} {s j:AS} {l:Value} {m:TV} {n:List OObj} {o:Oper} {p:Operand} {q:List Nat} {r:Nat} {w:World} {t:FuncId} {u:Rho} {v:OH} {x:Array Oper} {y:Call} {z:AV} {A:Func}
section
section
variable {P:Program} {w0 w w':World} {O X:Nat->Prop} {ρ:Rho} {H:OH}
theorem mm (x:AV):aY (fun _ _=>false) x=x:=by cases x<;>simp[aY]
theorem pS (t:TV):bi (fun _ _=>false) t=t:=by
 cases t with
 |one x=>simp[bi,mm]
 |agg b=>simp only[bi];congr 1;rw[show aY (fun _ _=>false)=id from funext mm];simp
 |fn f b=>simp only[bi];congr 1;rw[show aY (fun _ _=>false)=id from funext mm];simp
 |tup c=>simp only[bi];congr 1;rw[show aY (fun _ _=>false)=id from funext mm];simp
theorem kP (l:List TV):l.map (bi fun _ _=>false)=l:=by
 rw[show bi (fun _ _=>false)=id from funext pS];simp
theorem Pd {d:Nat} {g:Rho} (t: ∀(r:Nat) o,n[r]?=some o->(v d)[r]?=some (renO d o)/\g d r=u 0 r) (B: ∀e,e<w.heap.size->c e->Xo b u (famH 0 n) e) (h:z.rel u (famH 0 n) (Xo b u (famH 0 n)) w l):(dA d z).rel g v c w l:=by
 refine kW (xx d) (fun z l C h=>?_) z l h;cases z with
 |fn=>cases C
 |p z=>exact bS.weaken B h
 |sl a r D len=>
  obtain⟨o,m,y,s⟩:=h;by_cases q:a=0
  ·subst q;obtain⟨f1,f2⟩:=t r o m;exact⟨renO d o,f1,by grind [renO],Cj (by decide) s f2⟩
  grind [famH]
 |ptr a r i j=>
  obtain⟨o,e,f,m,y,s,A⟩:=h;by_cases q:a=0
  ·subst q;obtain⟨f1,f2⟩:=t r o m;exact⟨renO d o,e,f,f1,by grind,by grind [renO],A⟩
  grind [famH]
 |junk=>trivial
theorem D2 {d:Nat} (h:m.rel ρ H b w l) (e: ∀x l,x.rel ρ H b w l->AV.rel u v c w' (dA d x) l):(renTV d m).rel u v c w' l:=by
 have:=jK h e;cases m<;>exact this
theorem RJ (c:isPure z=true) (h:z.rel ρ H b w l):bS b w (unP z) l:=by
 cases z<;>first|exact h|cases c
theorem DU {own:Bool} (U: ∀(a r:Nat) (o:OObj),(H a)[r]?=some o->objRel ρ H b w a r o) (hZ: ∀g,c g->b g) (S:own=true-> ∀(a r:Nat) (o:OObj) (g n:Nat),(H a)[r]?=some o->ρ a r=some (g,n)-> ¬c g) (h:m.rel ρ H b w l) (q:jj own H m=true):
  (ms H m).rel (fun _ _=>none) (fun _=>[]) c w l:=by
 have wk: ∀x u,bS b w x u->bS c w x u:=fun x u h=>bS.weaken (fun g _ hb=>hZ g hb) h
 unfold jj at q;split at q
 ·rename_i a r p len;simp only[afb]at q;obtain⟨T,q⟩:=q;obtain⟨o,K,g2,g3⟩:=h;rw[K]at q;simp only[aeP]at q;simp only[ms,K];show bS _ _ _ _;obtain⟨q1,q2,q3⟩:=U a r o K;have hl:(((o.elems.take (p+len)).drop p).map (List.map unP)).length=len:=by simp;omega
  rcases g3 with⟨M,L,gl,go⟩|⟨g,n,cap,M,L,W,_⟩
  ·rw[agD.1 (hl.trans gl),L];exact bS.nil _ _
  by_cases E:len=0
  ·rw[agD.1 (hl.trans E),L,E];exact bS.nil _ _
  rw[M]at q3;obtain⟨cells,p1,p2,p3,p4,p5⟩:=q3;have F: ∀(i:Nat) e,(((o.elems.take (p+len)).drop p).map (List.map unP))[i]?=some e-> ∃C,o.elems[p+i]?=some C/\e=C.map unP:=fun i e A=>by
   grind
  have y: ∀(i:Nat) e (j:Nat) x,(((o.elems.take (p+len)).drop p).map (List.map unP))[i]?=some e->e[j]?=some x-> ∃u:Value,cells[(p+i)*o.es+j]?=some u/\bS c w x u:=fun i e j x A s=>by
   obtain⟨C,D,rfl⟩:=F i e A;rw[aeG]at s;obtain⟨x',G,rfl⟩:=adT.1 s;obtain⟨u,B,I,J⟩:=p5 _ C j x' D G;exact⟨u,B,wk _ _ (RJ (q C (adQ D) x' (adQ G)) J)⟩
  rw[L];have:=bS.sl (X:=c) (w:=w) g (p*o.es) o.es cap (((o.elems.take (p+len)).drop p).map (List.map unP)) (fun i j=>(cells[(p+i)*o.es+j]?).getD undef) (S T a r o g n K M) (ae4.1 p1).1
   (fun e A=>by
    grind [List.mem_of_mem_drop]) (by omega) (by omega)
   (fun i e j x A s=>by
    obtain⟨u,B,_⟩:=y i e j x A s;grind [cell_of_row])
   (fun i e j x A s=>by
    obtain⟨u,B,I⟩:=y i e j x A s;grind)
  grind
 ·rename_i x;unfold ms;split
  ·grind
  ·rename_i z;injection z with z
   injection z with z
   subst z;have:=(bo h).1;subst this;exact bS.nil _ _
  exact wk _ _ h
 ·rename_i cs;simp only[aeP]at q;obtain⟨vs,N,Q,R⟩:=h;refine⟨vs,N,Q,fun j x s=>?_⟩;obtain⟨u,B,I,J⟩:=R j x s;refine⟨u,B,I,?_⟩;have V:=q x (adQ s);cases x<;>first|exact wk _ _ J|cases V
 ·rename_i f cs;simp only[aeP]at q;obtain⟨u0,⟨vs,N,Q,R⟩,h4⟩:=h;refine⟨u0,⟨vs,N,Q,fun j x s=>?_⟩,h4⟩;obtain⟨u,B,I,J⟩:=R j x s;refine⟨u,B,I,?_⟩;have V:=q x (adQ s);cases x<;>first|exact wk _ _ J|cases V
 cases q
theorem vE {own:Bool} (g: ∀(a r:Nat) (o:OObj),(H a)[r]?=some o->objRel ρ H b w a r o) (j: ∀e,c e->b e) (f:own=true-> ∀e,¬c e) (h:m.rel ρ H b w l) (n:jj own H m=true):
  (ms H m).rel (fun _ _=>none) (fun _=>[]) c w l:=
 DU g j (fun h _ _ _ e _ _ _=>f h e) h n
end
end
section
section
variable {P:Program} {w0 w w':World} {O X:Nat->Prop} {ρ:Rho} {H:OH}
theorem mI:TV.rel ρ H b w .undef undef:=⟨#[],rfl,rfl,fun j c e h=>by simp at h⟩
theorem DW {a:Nat} (h:Zw a z=true):bJ a z:=by
 cases z with
 |sl b _ _ _=>have h:b=a:=(by grind [Zw]);exact h
 |p z=>trivial
 |_=>cases h
theorem yA {a:Nat}: ∀{f:List AV} {e:List (Nat×Nat×Nat)},od a f=some e->e.length=f.length/\ ∀(n:Nat) q,e[n]?=some q->f[n]?=some (.ptr a q.1 q.2.1 q.2.2)
 |[],e,h=>by grind [od]
 |c::f,e,h=>by
  cases c with
  |ptr b r i j=>
   simp only[od]at h;split at h
   ·rename_i g;subst g;obtain⟨l,m,rfl⟩:=adT.1 h;obtain⟨o,p⟩:=yA m;grind
   cases h
  |_=>grind [od]
theorem Lr {a:Nat} {e:List AV} {c:List (Nat×Nat×Nat)} (y:od a e=some c) (m:0<c.length) (h:(TV.fn t e).rel ρ H b w l):(AV.fn t a c).rel ρ H b w l:=by
 obtain⟨u,⟨vs,o,p,r⟩,s⟩:=h;subst o;obtain⟨g,j⟩:=yA y;refine⟨vs,s,p.trans g.symm,m,fun n q x=>?_⟩;obtain⟨u,z,B,A⟩:=r n _ (j n q x);exact⟨u,z,A⟩
theorem wy {s:AS} {a:Act} (J:a.defers=[]) (C:a.tmps.size=s.tmps.length) (q:Inv w0 O X s.H ρ w) (D:bz X ρ s a w) {t:TypeId} {x:Operand} (V:o.op= .store t p x) {h i j n:Nat} {F:OObj} {g cs:List AV} (G:s.ev p=some (.one (.ptr r h i j))) (hn:szO P t=some n) (z:(s.H r)[h]?=some F) (U:F.elems[i]?=some g) (T:cs.length=n) (hj:j+n<=g.length) (Y:pC ρ s.H (Xo X ρ s.H) w cs (a.eval x).cells) (m: ∀y∈cs,bJ r y) (S: ∀v w',dP w0 O X (AS.put ⟨s.tmps,aK s.H r ((s.H r).set h {F with elems:=F.elems.set i (putCells g j cs)})⟩ o.dst .undef) (a.put o.dst v) w'->f (a.put o.dst v) w'):o.wp P a w f e:=by
 obtain⟨aa,b,c,E,N,g3,R⟩:=bE D p _ G;rw[z]at E;injection E with E
 subst E;obtain⟨x1,x2⟩:=Y;have I:(a.eval x).cells.toList.length=cs.length:=by omega
 obtain⟨cells,L,M,c3,c4⟩:=Eg J C q D (vs:=(a.eval x).cells.toList) (j:=j) z N U (by omega) I (fun k y Z=>by
  grind) m
 have A: ∀u∈(a.eval x).cells,u.oneCell'=true:=fun u W=>by
  obtain⟨k,hk,rfl⟩:=aip W;obtain⟨y,Z⟩:=getElem?_of_lt (l:=cs) (k:=k) (by omega);grind
 have B:=yD (P:=P) (t:=t) (v:=a.eval x) (by grind) L (by simpa using M) A;unfold Oper.wp execOp;simp only[V,R];rw[abi B];refine S undef _ (fF (ρ:=ρ) J C ?_ ?_ mI)
 ·omega
 omega
theorem Lg {a:Act} (h1:a.defers=[]) (af:a.tmps.size=s.tmps.length) (B:Inv w0 O X s.H ρ w) (C:bz X ρ s a w) {q:Kr} (h:iY P s.ev s.H o.op=some q) (U: ∀v w',dP w0 O X (AS.put ⟨s.tmps.map (bi q.k),q.H⟩ o.dst q.t) (a.put o.dst v) w'->f (a.put o.dst v) w'):o.wp P a w f e:=by
 cases ho:o.op<;>rw[ho]at h<;>simp only[iY]at h<;>try cases h
 case store t ad x=>
  split at h
  ·rename_i u r i j n G hn;split at h
   ·rename_i T D;split at h
    ·rename_i l he;split at h
     ·rename_i M r' a2 len N;split at h
      ·rename_i ab;subst ab;split at h
       ·rename_i S;injection h with h
        subst h;simp only[kP]at U;have I:=bE C x _ N;have E:(a.eval x).oneCell'=true:=by
         obtain⟨_,_,_,R⟩:=I;rcases R with⟨_,R,_⟩|⟨_,_,_,_,R,_⟩<;>rw[R]<;>rfl
        refine wy h1 af B C ho G hn D he (cs:=[.sl M r' a2 len]) (by simp;omega) (by omega) ⟨by grind [ic],fun k y F=>?_⟩ (fun y F=>by simp at F;subst F;rfl) U;cases k with
        |succ k=>simp at F
        |zero=>simp at F;subst F;exact⟨a.eval x,by grind [ic],E,I⟩
       cases h
      rename_i ab;split at h
      ·rename_i o2 hH;split at h
       ·rename_i S;obtain⟨c0,c1,c2,c3,c4,c5,c6⟩:=S;injection h with h
        subst h;subst c1 c2;simp only[aeP]at c6;obtain⟨m1,m2,m3⟩:=DJ B (a:=u) (b:=M) c0 ab hH c6;have av:=Fr C m2;have I:=m3 _ _ _ (bE C x _ N);have E:(a.eval x).oneCell'=true:=by
         obtain⟨_,_,_,R⟩:=I;rcases R with⟨_,R,_⟩|⟨_,_,_,_,R,_⟩<;>rw[R]<;>rfl
        have bw:r<(s.H u).length:=(aeI.1 D).1;have br:aK (aK s.H u (s.H u++[o2])) M [] u=s.H u++[o2]:=by grind [aU,be]
        have ah:AS.ev ⟨s.tmps.map (bi fun x _=>x==M),aK (aK s.H u (s.H u++[o2])) M []⟩ ad=some (.one (.ptr u r i j)):=by
         cases ad with
         |tmp k=>
          grind [AS.ev,bi,aY]
         |const v=>exact G
         |global g=>exact G
         |func m=>exact G
        refine wy (s:=⟨s.tmps.map (bi fun x _=>x==M),aK (aK s.H u (s.H u++[o2])) M []⟩) (a:=a) h1 (by grind) m1 av ho ah hn (by grind) he (cs:=[.sl u (s.H u).length 0 len]) (by simp;omega) (by omega) ⟨by grind [ic],fun k y F=>?_⟩ (fun y F=>by simp at F;subst F;rfl) ?_
        ·grind [ic]
        intro v w2 bn;refine U v w2 ?_;have e1:aK (aK (aK s.H u (s.H u++[o2])) M []) u ((aK (aK s.H u (s.H u++[o2])) M [] u).set r {T with elems:=T.elems.set i (putCells l j [.sl u (s.H u).length 0 len])})=
          aK (aK s.H u ((s.H u).set r {T with elems:=T.elems.set i (putCells l j [.sl u (s.H u).length 0 len])}++[o2])) M []:=by
         grind [be,aU]
        grind
       cases h
      cases h
     ·rename_i m cs N;split at h
      ·rename_i qs a7;split at h
       ·rename_i S;injection h with h
        subst h;simp only[kP]at U;have I:=Lr a7 S.2.2 (bE C x _ N);have E:=KP (by simp) I;refine wy h1 af B C ho G hn D he (cs:=[.fn m u qs]) (by simp;omega) (by omega) ⟨by grind [ic],fun k y F=>?_⟩ (fun y F=>by simp at F;subst F;exact⟨rfl,agO S.2.2⟩) U;grind [ic]
       cases h
      cases h
     ·rename_i v hv bx N;split at h
      ·rename_i cs a6;split at h
       ·rename_i S;obtain⟨c1,c2,c3⟩:=S;injection h with h
        subst h;simp only[kP]at U;simp only[aeP]at c3;exact wy h1 af B C ho G hn D he c1 c2 (lC a6 (bE C x _ N)) (fun y F=>DW (c3 y F)) U
       cases h
      cases h
     cases h
    cases h
   cases h
  cases h
 case call c=>
  obtain⟨callee,⟨args⟩,⟨argTypes⟩⟩:=c;split at h
  ·rename_i sx x t t' V J a0;simp only at V J a0;subst V J a0;split at h
   ·rename_i u r a2 len a1 l hs N a9;split at h
    ·rename_i T z sz a3 D hz an a4;split at h
     ·rename_i S;obtain⟨c0,rfl,rfl,rfl,c4,rfl,rfl,c7,c8,c9,ag⟩:=S;injection h with h
      subst h;simp only[aeP]at c4;obtain⟨tx,ba,ac⟩:=aeZ.1 N;have W:=B.objs u r T D;have Z:0<T.es:=W.2.1;obtain⟨us,aa⟩:=pY B.objs ac (bE C x tx ba) ag Z;obtain⟨xs,Y,bh,bc⟩:=FY c0 W D (bE C sx _ hs);obtain⟨⟨A,cc,hv,a8⟩,bb,E,bt,a5⟩:=id aa;obtain⟨ti,zv,ap,b0,bH⟩:=jH hz;obtain⟨bl,p,bq⟩:=o6 an;rw[ap]at p;injection p with p;subst p
      obtain⟨bl,p,bm⟩:=qP a4;rw[ap]at p;injection p with p;subst p
      obtain⟨v',w1,bp,ae,hg,ai⟩:=og (P:=P) w 0 t o.type T.ty zv T.es a3 (eG a9) (by grind) (by grind) Z _ _ xs Y A a1.length cc us a8 bb E (by grind [maxLen]) c7 (afl _);obtain⟨b1,i1,i2,i3⟩:=KM B C D ag bh Y.1 bc aa ae hg ai (fun l he x N=>c4 l he x N);unfold Oper.wp execOp;have L:(execOp a.eval o).run P w= .ok (.value v') w1:=by
       unfold execOp;grind [resolve,invoke,builtin,Sem.run_bind,Sem.run_pure,Result.andThen_ok]
      unfold execOp at L;rw[L];exact U v' w1 (fF h1 (by grind) i1 i2 i3)
     cases h
    cases h
   cases h
  cases h
end
end
section
section
variable {P:Program} {w0 w w':World} {O X:Nat->Prop} {ρ:Rho} {H:OH}
theorem nW {f : FuncId} (h : callable P f = true) : ∃ fn, P.funcs[f]? = some fn /\ fn.body.isNone = false /\ (fn.name == "runtime.NumGoroutine") = false := by
 unfold callable at h;split at h
 ·simp_all
 cases h
theorem gY {e:Operand->Value} (n:o.op= .call y) (j:y.callee= .value (.func t)) (l:e (.func t)= .func (.func t) #[] #[]) (m:callable P t=true):
  (execOp e o).run P w= .ok (.enter t (y.args.map e)) w:=by
 obtain⟨p,b,g,h⟩:=nW m;unfold execOp;simp only[n,resolve,j,l,Deferred.ofValue,aeU,afC,aeH,invoke];unfold callFunc;simp only[aeU];show Result.andThen (.ok P w) _=_;rw[aeH,b];simp only[h,g,afq,if_false]
 simp
theorem xQ {e:Operand->Value} {vs:Array Value} (n:o.op= .call y) (j:y.callee= .value p) (l:e p= .func (.func t) #[] vs) (m:callable P t=true):
  (execOp e o).run P w= .ok (.enter t (y.args.map e++vs)) w:=by
 obtain⟨q,b,g,h⟩:=nW m;unfold execOp;simp only[n,resolve,j,l,Deferred.ofValue,aeU,afC,aeH,invoke];unfold callFunc;simp only[aeU];show Result.andThen (.ok P w) _=_;rw[aeH,b];simp only[h,g,afq,if_false]
 simp
theorem w8 {q:Option TV} {v:Value} {e:List TV} (o: ∀c,q=some c->c.rel ρ H b w v) (h:KS q=some (t,e)): ∃vs:Array Value,v= .func (.func t) #[] vs/\vs.size=e.length/\ ∀(j:Nat) c,e[j]?=some c-> ∃u:Value,vs[j]?=some u/\c.rel ρ H b w u:=by
 unfold KS at h;split at h
 ·rename_i x D;injection h with h
  injection h with h g
  subst h g;obtain⟨u,⟨vs,m,A,n⟩,B⟩:=o _ rfl;subst m;refine⟨vs,B,by grind,fun j c l=>?_⟩;rw[aeG]at l;obtain⟨y,p,rfl⟩:=adT.1 l;obtain⟨u,r,z,C⟩:=n j y p;exact⟨u,r,C⟩
 ·rename_i x a F;injection h with h
  injection h with h g
  subst h g;obtain⟨vs,m,A,_,n⟩:=o _ rfl;refine⟨vs,m,by grind,fun j c l=>?_⟩;rw[aeG]at l;obtain⟨y,p,rfl⟩:=adT.1 l;obtain⟨u,r,z⟩:=n j y p;exact⟨u,r,z⟩
 ·rename_i x first s
  split at h
  ·rename_i E;injection h with h
   injection h with h g
   subst h g;have:=(bo (o _ rfl)).1;grind
  cases h
 cases h
theorem xK {d:Nat} (h:vR z=true) (g:z.rel ρ H b w l):(dA d z).rel u v c w' l:=by
 cases z with
 |p z=>
  cases z with
  |raw e=>
   obtain⟨rfl,f⟩:=bo (ρ:=ρ) (H:=H) g;exact bS.raw _ f
  |sl o=>cases h
  |ptr n=>cases h
 |sl a r m len=>cases h
 |ptr a r i j=>cases h
 |junk=>cases h
 |fn=>cases h
theorem ZP {d:Nat} (h:te m=true) (p:m.rel ρ H b w l):(renTV d m).rel u v c w' l:=by
 have agg: ∀n l,n.all vR=true->dK ρ H b w n l->dK u v c w' (n.map (dA d)) l:=fun n l s h=>by
  simp only[aeP]at s;obtain⟨vs,o,q,r⟩:=h;refine⟨vs,o,by grind,fun j x y=>?_⟩;grind [xK]
 cases m with
 |one x=>exact xK h p
 |agg n=>exact agg n l h p
 |fn f n=>obtain⟨g,o,q⟩:=p;exact⟨g,agg n g h o,q⟩
 |tup z=>
  simp only[te,aeP]at h;obtain⟨vs,o,q,r⟩:=p;refine⟨vs,o,by grind,fun j e n y=>?_⟩;grind [xK]
theorem H7 {it:dD P} {d:Nat} {a:Act} (E:Inv w0 O X s.H ρ w) (U:bz X ρ s a w) (ht:renTV d it.res.r=m) (Y:it.res.fam.map (renO d)=n) (hd:n≠[]->s.H d=[]) {G:World} (B:Inv w (fun _=>False) (Xo X ρ s.H) (famH 0 it.res.fam) u G) (hr:it.res.r.rel u (famH 0 it.res.fam) (Xo (Xo X ρ s.H) u (famH 0 it.res.fam)) G l):
  ∃(y:Rho) (K:OH),kq s d m n=AS.put ⟨s.tmps,K⟩ (some d) m/\Inv w0 O X K y G/\bz X y ⟨s.tmps,K⟩ a G/\m.rel y K (Xo X y K) G l/\ ∀b,Xo X y K b->Xo (Xo X ρ s.H) u (famH 0 it.res.fam) b:=by
 have o:fm w G:=⟨B.keep.os,B.keep.tape,B.keep.output,B.keep.size,fun k hk=>B.keep.block k hk id⟩;by_cases D:it.res.fam=[]
 ·rw[D]at B hr;have I:n=[]:=by grind
  subst I;refine⟨ρ,s.H,rfl,E.grow o,U.grow o,?_,fun b A=> .inl A⟩;rw[<- ht];exact D2 hr (fun x f W=>Pd (fun r q j=>by simp at j) (fun b _ A=> .inl A) W)
 have I:n≠[]:=by rw[<- Y];simpa using D
 have T:kq s d m n=AS.put ⟨s.tmps,aK s.H d n⟩ (some d) m:=by
  grind [kq]
 have S: ∀r b c,u 0 r=some (b,c)->(∃q,it.res.fam[r]?=some q)->w.heap.size<=b:=fun r b c Z ⟨q,j⟩=>by
  have:=(B.old 0 r q b c (by grind [famH]) Z).1;grind
 have p: ∀r b c,(if r<it.res.fam.length then u 0 r else none)=some (b,c)->(∃q,it.res.fam[r]?=some q)/\u 0 r=some (b,c):=fun r b c h=>by
  simp_all
 have R: ∀(r b c:Nat),(if r<it.res.fam.length then u 0 r else none)=some (b,c)->w.heap.size<=b:=fun r b c h=>S r b c (p r b c h).2 (p r b c h).1
 have N: ∀b,Xo X (newρ ρ d fun r=>if r<it.res.fam.length then u 0 r else none) (aK s.H d n) b->Xo (Xo X ρ s.H) u (famH 0 it.res.fam) b:=fun b A=>by
  rcases A with A|⟨x',y',q,c,V,L⟩
  ·exact .inl (.inl A)
  by_cases J:x'=d
  ·subst J;rw[newρ_eq]at L;obtain⟨⟨M,C⟩,g3⟩:=p y' b c L;exact .inr ⟨0,y',M,c,by grind [famH],g3⟩
  rw[aU J]at V;rw[newρ_ne J]at L;exact .inl (.inr ⟨x',y',q,c,V,L⟩)
 have Q: ∀x f,AV.rel u (famH 0 it.res.fam) (Xo (Xo X ρ s.H) u (famH 0 it.res.fam)) G x f->AV.rel (newρ ρ d fun r=>if r<it.res.fam.length then u 0 r else none) (aK s.H d n) (Xo X (newρ ρ d fun r=>if r<it.res.fam.length then u 0 r else none) (aK s.H d n)) G (dA d x) f:=fun x f W=>by
  refine Pd (fun r q j=>?_) (fun b _ A=>N b A) W;grind [be,newρ_eq]
 refine(fun hI=>⟨_,_,T,And.left hI,And.right hI,by grind [D2],N⟩:_/\_->_) (FM E U o (hd I) (fun r=>if r<it.res.fam.length then u 0 r else none) R (fun r r' b c n' g g'=>?_) (fun r q j=>?_) (fun r q j=>?_))
 ·obtain⟨⟨o1,aa⟩,V⟩:=p r b c g;obtain⟨⟨M,C⟩,L⟩:=p r' b n' g';exact(B.inj 0 r 0 r' o1 M b c n' (by grind [famH]) (by grind [famH]) V L).2
 ·rw[<- Y,aeG]at j;obtain⟨M,C,rfl⟩:=adT.1 j;intro e he x W;grind [renO,gk]
 rw[<- Y,aeG]at j;obtain⟨M,C,rfl⟩:=adT.1 j;exact iO (B.objs 0 r M (by grind [famH])) (by rw[newρ_eq,if_pos (aeI.1 C).1]) rfl (fun _ _ _=>rfl) fun _ _ z _ f u3=>Q z f u3
theorem gW {it:dD P} {d:Nat} {a:Act} (p:a.defers=[]) (j:a.tmps.size=s.tmps.length) (c:Inv w0 O X s.H ρ w) (l:bz X ρ s a w) (z:renTV d it.res.r=m) (u:it.res.fam.map (renO d)=n) (x:n≠[]->s.H d=[]) {v:Value} {w1:World} {ρc:Rho} (f:Inv w (fun _=>False) (if it.res.plain then(fun _=>False)else Xo X ρ s.H) (famH 0 it.res.fam) ρc w1) (q:it.res.r.rel ρc (famH 0 it.res.fam) (Xo (if it.res.plain then(fun _=>False)else Xo X ρ s.H) ρc (famH 0 it.res.fam)) w1 v):
  dP w0 O X (kq s d m n) (a.put (some d) v) w1:=by
 have b:fm w w1:=⟨f.keep.os,f.keep.tape,f.keep.output,f.keep.size,fun k y=>f.keep.block k y id⟩;by_cases g:it.res.plain=true
 ·unfold CallRes.plain at g;simp only[afb,List.isEmpty_iff]at g;have o:n=[]:=by grind
  subst o;show dP w0 O X (s.put (some d) m) _ _;refine fF p j (c.grow b) (l.grow b) ?_;grind [ZP]
 have h:it.res.plain=false:=by grind
 simp only[h,afq,if_false]at f q;obtain⟨D,E,e,A,B,C,_⟩:=H7 (it:=it) c l z u x f q;rw[e];exact fF p j A B C
def Kp (P:Program) (f:FuncId) (args:List TV) (res:CallRes) (w:World):Prop:=
 callable P f=true/\ ∀(X:Nat->Prop) (vs:Array Value),(∀b,X b->b<w.heap.size)->vs.size=args.length->
  (∀(j:Nat) t,args[j]?=some t-> ∃v:Value,vs[j]?=some v/\t.rel (fun _ _=>none) (fun _=>[]) X w v)->
  Calls P f vs w fun e w'=> ∃v,e= .returned v/\ ∃ρ:Rho,
   Inv w (fun _=>False) X (famH 0 res.fam) ρ w'/\res.r.rel ρ (famH 0 res.fam) (Xo X ρ (famH 0 res.fam)) w' v
def pf (P:Program) (b:List (dD P)) (w:World):Prop:= ∀c∈b,Kp P c.f c.args c.res w
theorem l9.at {b:List (dD P)} (h:l9 P b) (w:World):pf P b w:=fun e c=>⟨(h e c).1,fun X vs=>(h e c).2 X w vs⟩
theorem YA {z:List (dD P)} {i d:Nat} {a:Act} (hI:pf P z w) (h1:a.defers=[]) (ab:a.tmps.size=s.tmps.length) (r:Inv w0 O X s.H ρ w) (J:bz X ρ s a w) (U:o.op= .call y) (B:y.callee= .value (.func t)) (h:dM P z q i d s.ev s.H o.op=some (m,n)) (hd:n≠[]->s.H d=[]) (T:o.dst=some d) {Q:Exit->Act->World->Prop} (hK: ∀v w',dP w0 O X (kq s d m n) (a.put o.dst v) w'->f (a.put o.dst v) w'):o.wp P a w f Q:=by
 rw[U]at h;simp only[dM,B]at h;split at h
 ·rename_i N ts I L;split at h
  ·rename_i hc;obtain⟨W,Y,R,_⟩:=hc;injection h with h
   injection h with ht hF
   subst W;obtain⟨e1,Z⟩:=co L;obtain⟨p,D⟩:=hI N (ahW I);have E:=gY (w:=w) U B (e:=a.eval) rfl p;unfold Oper.wp;rw[E];simp only[Oper.upon];simp only[aeP]at R;have S: ∀b,(if N.res.plain then(fun _=>False)else Xo X ρ s.H:Nat->Prop) b->Xo X ρ s.H b:=fun b A=>by
    split at A
    ·grind
    exact A
   have C: ∀b,Xo X ρ s.H b->b<w.heap.size:=fun b A=>by
    rcases A with A|⟨x,l,o',g,g1,g2⟩
    ·exact r.bar b A
    exact bI (r.objs x l o' g1) g2
   refine(D (if N.res.plain then(fun _=>False)else Xo X ρ s.H) (y.args.map a.eval) (fun b A=>C b (S b A)) ?_ ?_).mono ?_
   ·grind
   ·intro j u V;rw[<- Y,aeG]at V;obtain⟨t0,G,rfl⟩:=adT.1 V;obtain⟨x,hx,M⟩:=Z j t0 G;refine⟨a.eval x,by grind,?_⟩;exact vE r.objs S (fun aa b A=>by simp_all) (bE J x t0 M) (R t0 (adQ G))
   grind [gW]
  cases h
 cases h
theorem TX {B:List (dD P)} {i d:Nat} {a:Act} (hI:pf P B w) (h1:a.defers=[]) (aa:a.tmps.size=s.tmps.length) (A:Inv w0 O X s.H ρ w) (L:bz X ρ s a w) {k:Tmp} (ho:o.op= .call y) (D:y.callee= .value (.tmp k)) (h:dM P B q i d s.ev s.H o.op=some (m,n)) (hd:n≠[]->s.H d=[]) (Z:o.dst=some d) {Q:Exit->Act->World->Prop} (hK: ∀v w',dP w0 O X (kq s d m n) (a.put o.dst v) w'->f (a.put o.dst v) w'):o.wp P a w f Q:=by
 rw[ho]at h;simp only[dM,D]at h;split at h
 ·rename_i g M W ts R T U;split at h
  ·rename_i hc;obtain⟨c1,c2,Y,_⟩:=hc;injection h with h
   injection h with ht hF
   subst c1;obtain⟨e1,e2⟩:=co U;obtain⟨us,k1,k2,k3⟩:=w8 (v:=a.eval (.tmp k)) (fun t0 z=>bE L (.tmp k) t0 z) R;obtain⟨r,I⟩:=hI W (ahW T);have J:=xQ (w:=w) ho D (e:=a.eval) k1 r;unfold Oper.wp;rw[J];simp only[Oper.upon];simp only[aeP]at Y;have N: ∀b,(if W.res.plain then(fun _=>False)else Xo X ρ s.H:Nat->Prop) b->Xo X ρ s.H b:=fun b C=>by
    split at C
    ·grind
    exact C
   have G: ∀b,Xo X ρ s.H b->b<w.heap.size:=fun b C=>by
    rcases C with C|⟨x,p,o',l,g1,g2⟩
    ·exact A.bar b C
    exact bI (A.objs x p o' g1) g2
   refine(I (if W.res.plain then(fun _=>False)else Xo X ρ s.H) (y.args.map a.eval++us) (fun b C=>G b (N b C)) ?_ ?_).mono ?_
   ·grind
   ·intro j u hu;rw[<- c2,aeG]at hu;obtain⟨t0,z,rfl⟩:=adT.1 hu;have E:=Y t0 (adQ z);by_cases hj:j<ts.length
    ·rw[aff hj]at z;obtain⟨x,hx,V⟩:=e2 j t0 z;refine⟨a.eval x,by grind,?_⟩;exact vE A.objs N (fun S b C=>by simp_all) (bE L x t0 V) E
    rw[afs (by omega)]at z;obtain⟨v,v1,v2⟩:=k3 _ t0 z;refine⟨v,by grind,?_⟩;exact vE A.objs N (fun S b C=>by simp_all) v2 E
   grind [gW]
  cases h
 cases h
theorem Qu {G:List (dD P)} {i d:Nat} {a:Act} (h1:a.defers=[]) (aa:a.tmps.size=s.tmps.length) (u:Inv w0 O X s.H ρ w) (E:bz X ρ s a w) (ho:o.op= .call y) (l:y.callee= .builtin .append) (h:dM P G q i d s.ev s.H o.op=some (m,n)) (hd:n≠[]->s.H d=[]) (L:o.dst=some d) (hK: ∀v w',dP w0 O X (kq s d m n) (a.put o.dst v) w'->f (a.put o.dst v) w'):o.wp P a w f e:=by
 rw[ho]at h;simp only[dM,l]at h;obtain⟨callee,⟨args⟩,⟨argTypes⟩⟩:=y;simp only at l;subst l;split at h
 ·rename_i sx x ty av j S;simp only at j S;subst j S;split at h
  ·rename_i T b hs hx Z;split at h
   ·rename_i z sz U hz N V;split at h
    ·rename_i hc;obtain⟨rfl,c7,c8,c9,r,I⟩:=hc;injection h with h
     injection h with ht hF
     subst ht hF;obtain⟨tx,ab,C⟩:=aeZ.1 hx;obtain⟨us,B⟩:=pY u.objs C (bE E x tx ab) I r;have ai:=(bo (bE E sx _ hs)).1;obtain⟨⟨A,cc,hv,Y⟩,ac,M,ah,W⟩:=id B;obtain⟨ti,zv,R,ap,an⟩:=jH hz;obtain⟨ad,g,ag⟩:=o6 N;rw[R]at g;injection g with g;subst g
     obtain⟨ad,g,ae⟩:=qP V;rw[R]at g;injection g with g;subst g
     obtain⟨v',w1,af,p,hg,J⟩:=og (P:=P) w 0 ty o.type b zv sz U (eG Z) (by grind) (by grind) r (.slice none 0 0) 0 [] (ah3 _ _ _ _) A T.length cc us Y ac M (by grind [maxLen]) (by grind) (afl _);have D:(execOp a.eval o).run P w= .ok (.value v') w1:=by
      unfold execOp;grind [resolve,invoke,builtin,Sem.run_bind,Sem.run_pure,Result.andThen_ok]
     unfold Oper.wp;rw[D];rw[afm,afQ]at p;refine hK v' w1 ?_;rw[L];exact KL h1 aa u E (hd (by simp)) r I B p hg J
    cases h
   cases h
  cases h
 cases h
theorem YW {b:List (dD P)} {i d:Nat} {a:Act} (B:pf P b w) (A:a.defers=[]) (y:a.tmps.size=s.tmps.length) (j:Inv w0 O X s.H ρ w) (z:bz X ρ s a w) {F:List OObj} (h:dM P b q i d s.ev s.H o.op=some (m,F)) (C:F≠[]->s.H d=[]) (g:o.dst=some d) {Q:Exit->Act->World->Prop} (r: ∀v w',dP w0 O X (kq s d m F) (a.put o.dst v) w'->f (a.put o.dst v) w'):o.wp P a w f Q:=by
 have p:(∃v w',(execOp a.eval o).run P w= .ok (.value v) w'/\dP w0 O X (kq s d m F) (a.put (some d) v) w')->o.wp P a w f Q:=fun⟨v,w1,g1,g2⟩=>by
  unfold Oper.wp;rw[g1];exact r v w1 (by grind)
 have ne: ∀{e:OObj} {l:List OObj},e::l≠[]:=fun{e l}=>by simp
 cases u:o.op
 case box e x=>
  grind [Us,dM]
 case alloc e=>
  grind [Lc,dM]
 case makeSlice ty l c=>
  grind [QK,dM]
 case buildSlice ty n parts=>grind [Uu]
 case call c=>
  grind [YA,TX,dM,Qu]
 all_goals (rw[u]at h;simp only[dM]at h;cases h)
theorem Hs {g:List (dD P)} {i:Nat} {a:Act} (y:pf P g w) (l:dP w0 O X s a w) (h:fo P g q i o s=some j) (x: ∀v w',dP w0 O X j (a.put o.dst v) w'->f (a.put o.dst v) w'):o.wp P a w f e:=by
 obtain⟨u,m,ρ,c,b⟩:=l;have b:bz X ρ s a w:=b;unfold fo at h;split at h
 ·obtain⟨t,r,rfl⟩:=adT.1 h;obtain⟨v,n,p⟩:=AN (bE b) r;unfold Oper.wp;rw[n];exact x v w (fF u m c b p)
 split at h
 ·obtain⟨t,r,rfl⟩:=adT.1 h;obtain⟨v,n,p⟩:=AR (bE b) c.objs r;unfold Oper.wp;rw[n];exact x v w (fF u m c b p)
 grind [Lg,YW,kq]
theorem yj {c:List (dD P)} {i:Nat} {a:Act} (G:pf P c w) (n:dP w0 O X s a w) (h:bs P c q x i o s=some j) (y: ∀v w',dP w0 O X j (a.put o.dst v) w'->f (a.put o.dst v) w'):
  if Region.wanted o (yielded x a.tmps)then o.wp P a w f e else f (a.put o.dst undef) w:=by
 unfold bs at h;split at h
 ·grind [Region.wanted,Hs]
 rename_i g A J;split at h
 ·cases h
 rename_i d I;have t:=n;obtain⟨u,p,ρ,m,l⟩:=n;split at h
 ·rename_i b r;obtain⟨v,D,z⟩:=l d _ r;have E:=(bo z).1;have F:yielded x a.tmps g=some b:=by
   grind [yielded]
  split at h
  ·grind [Region.wanted,Hs]
  rename_i B;rw[if_neg (by grind [Region.wanted])];injection h with h
  subst h;exact y undef w (fF u p m l mI)
 ·rename_i r;obtain⟨v,D,vs,z,C,_⟩:=l d _ r;have F:yielded x a.tmps g=none:=by
   grind [yielded]
  rw[if_neg (by grind [Region.wanted])];injection h with h
  subst h;exact y undef w (fF u p m l mI)
 cases h
theorem jA {b:List (dD P)} {i:Nat} {a:Act} (e:l9 P b) (c:dP w0 O X s a w) (h:bs P b q x i o s=some j) {K:Act->World->Prop} {Q:Exit->Act->World->Prop} (f: ∀v w',dP w0 O X j (a.put o.dst v) w'->K (a.put o.dst v) w'):
  if Region.wanted o (yielded x a.tmps)then o.wp P a w K Q else K (a.put o.dst undef) w:=yj (e.at w) c h f
end
end
section
def bv (P:Program) (c:Code) (Q:Exit->AS->Prop) (s:AS):Prop:=
 ∀(f:World) (O X:Nat->Prop) (a:Act) (w:World),dP f O X s a w->c.wp P (fun e g h=> ∃b,Q e b/\dP f O X b g h) a w
def bN (s c:AS):Prop:= ∀(b:World) (O X:Nat->Prop) (a:Act) (w:World),dP b O X s a w->dP b O X c a w
def l8 (next:AS->Prop) (Q:Exit->AS->Prop):Exit->AS->Prop
 | .normal,s=>next s
 |e,s=>Q e s
def w7 (id:Nat) (Q:Exit->AS->Prop):Exit->AS->Prop
 | .exit b,s=>if b=id then Q .normal s else Q (.exit b) s
 |e,s=>Q e s
section
variable {P:Program} {s s':AS} {Q:Exit->AS->Prop}
theorem bN.refl (s:AS):bN s s:=fun _ _ _ _ _ h=>h
theorem bN.trans {b:AS} (h:bN s j) (k:bN j b):bN s b:=fun _ _ _ _ _ r=>k _ _ _ _ _ (h _ _ _ _ _ r)
theorem bv.weak (h:bN s s') (k:bv P g Q s'):bv P g Q s:=fun _ _ _ _ _ r=>k _ _ _ _ _ (h _ _ _ _ _ r)
theorem bv.mono {b:Exit->AS->Prop} (h:bv P g Q s) (k: ∀e s',Q e s'->b e s'):bv P g b s:=fun _ _ _ _ _ r=>
 wp_mono (h _ _ _ _ _ r) fun _ _ _ ⟨s',f,j⟩=>⟨s',k _ _ f,j⟩
theorem al (h:Q .normal s):bv P .skip Q s:=fun _ _ _ _ _ r=>wp_skip ⟨s,h,r⟩
theorem aT {id:Nat} (h:Q (.exit id) s):bv P (.exit id) Q s:=fun _ _ _ _ _ r=>wp_exit ⟨s,h,r⟩
theorem aM (h:Q .ret s):bv P .ret Q s:=fun _ _ _ _ _ r=>wp_ret ⟨s,h,r⟩
theorem aj (b:bv P g (l8 (bv P h Q) Q) s):bv P (.seq g h) Q s:=fun _ _ _ _ _ r=>
 wp_seq (wp_mono (b _ _ _ _ _ r) fun e a w ⟨s',c,f⟩=>by
  cases e with
  |normal=>exact c _ _ _ _ _ f
  |_=>exact⟨s',c,f⟩)
theorem ao {id:Nat} (h:bv P g (w7 id Q) s):bv P (.block id g) Q s:=fun _ _ _ _ _ r=>
 wp_block (wp_mono (h _ _ _ _ _ r) fun e a w ⟨s',b,c⟩=>by
  cases e with
  |exit f=>
   grind [w7,Exit.inBlock]
  |_=>exact⟨s',b,c⟩)
theorem aX {b:Bool} (m:s.ev p=some (.raw (.bool b))) (q:b=true->bv P g Q s) (n:b=false->bv P h Q s):bv P (.cond p g h) Q s:=fun _ _ _ _ _ r=>by
 obtain⟨t,o,u,j,f⟩:=id r;have l:=(bo (bE f p _ m)).1;exact wp_cond_split l (fun e=>q e _ _ _ _ _ r) (fun e=>n e _ _ _ _ _ r)
theorem aC (e:s.ev p=some (.raw (.bool true))) (b:bv P g Q s):bv P (.cond p g h) Q s:=aX e (fun _=>b) (fun b=>by cases b)
theorem aq (e:s.ev p=some (.raw (.bool false))) (b:bv P h Q s):bv P (.cond p g h) Q s:=aX e (fun b=>by cases b) (fun _=>b)
theorem aP (e:s.ev p=some (.raw (.bool true))) (b:bv P h Q s):bv P (.seq (.cond p .skip g) h) Q s:=aj (aC e (al b))
theorem aQ {id:Nat} (e:s.ev p=some (.raw (.bool false))) (b:Q (.exit id) s):bv P (.seq (.cond p g (.exit id)) h) Q s:=aj (aq e (aT b))
theorem Fa (h: ∃n,b n): ∃n,b n/\ ∀m,b m->n<=m:=by
 obtain⟨n,c⟩:=h
 induction n using Nat.strongRecOn with
 |_ n e=>
  grind
theorem Ha {G:Type} (St:G->AS) (h:G->Nat) (j:G) (p:bN s (St j)) (round: ∀b,bv P g (l8 (fun s'=> ∃f,h f<h b/\bN s' (St f)) Q) (St b)):bv P (.loop g) Q s:=fun v O X a w r=>by
 refine wp_loop_ghost (fun n a w=> ∃b,h b=n/\dP v O X (St b) a w) (h j) ⟨j,rfl,p _ _ _ _ _ r⟩ fun n a w ⟨b,q,t⟩=>?_
 refine wp_mono (round b _ _ _ _ _ t) fun e x y ⟨s',m,o⟩=>?_
 cases e with
 |normal=>
  obtain⟨f,l,u⟩:=m;exact⟨_,q▸l,f,rfl,u _ _ _ _ _ o⟩
 |_=>exact⟨s',m,o⟩
theorem fC {b:List (dD P)} (n:l9 P b) {x:List Nat} {c:Array Oper} {q:World} {O X:Nat->Prop} {Q:Exit->Act->World->Prop}: ∀(l:List Oper) (k:Nat) (s s':AS) (a:Act) (w:World),(∀(j:Nat) o,l[j]?=some o->c[k+j]?=some o)->
  ja P b x c (l.zipIdx k) s=some s'->dP q O X s a w->(∀m g,dP q O X s' m g->Q .normal m g)->wpOps P c Q (List.range' k l.length) a w
 |[],k,s,s',a,w,_,h,r,e=>by
  simp only[ag8,ja]at h;injection h with h
  subst h;exact e a w r
 |o::l,k,s,s',a,w,p,h,r,e=>by
  simp only[agt,ja]at h;split at h
  ·rename_i y f;simp only[ae6,afj,wpOps];have t:c[k]?=some o:=by have:=p 0 o rfl;omega
   rw[t];simp only;have:=jA (Q:=Q) n r f (K:=wpOps P c Q (List.range' (k+1) l.length)) (fun v g u=>fC n l (k+1) y s' _ _ (fun j o z=>by have:=p (j+1) o (by grind);grind) h u e);grind
  cases h
theorem Ky (b:List (dD P)) (g:l9 P b) (n:List Nat) {id:Nat} (h:ja P b n x x.toList.zipIdx s=some s') (l:Q .normal s'):bv P (.region id x false) Q s:=fun p O X a w r=>by
 refine wp_region ?_;rw[afi];have:=fC g (Q:=fun e c f=> ∃s',Q e s'/\dP p O X s' c f) x.toList 0 s s' a w (fun j o q=>by grind) h r (fun c f m=>⟨s',l,m⟩);omega
end
/-! ### The end of a function -/
def xM (P:Program) (s:AS):ResultVar->Option TV
 | .tmp t=>s.tmps[t]?
 | .cell a t=>match s.tmps[a]? with
  |some (.one (.ptr b r i j))=>match(s.H b)[r]? with
   |some o=>match o.elems[i]? with
    |some e=>nJ P t (e.drop j)
    |none=>none
   |none=>none
  |_=>none
def GC:TV->Option (Bool×List AV)
 | .one x=>some (false,[x])
 | .agg b=>some (true,b)
 | .tup _=>none
 | .fn _ _=>none
def BR (P:Program) (s:AS):List ResultVar->Option (List (Bool×List AV))
 |[]=>some []
 |r::l=>match(xM P s r).bind GC,BR P s l with
  |some t,some b=>some (t::b)
  |_,_=>none
def uh (P:Program) (s:AS):List ResultVar->Option TV
 |[r]=>xM P s r
 |rs=>(BR P s rs).map TV.tup
section
variable {P:Program} {w0 w:World} {O X:Nat->Prop} {ρ:Rho} {s:AS}
def Bv (tmps:Array Value):ResultVar->Sem Value
 | .tmp t=>pure (tmps.getD t undef)
 | .cell b t=>do loadVar t (<- asAddr (tmps.getD b undef))
theorem Mh (b:Func) (tmps:Array Value):results b tmps=(do let vs<- b.results.mapM (Bv tmps);pure (if h:vs.size=1 then vs[0]else .tuple vs)):=by
 rfl
theorem vU {a:Act} (f:Inv w0 O X s.H ρ w) (g:bz X ρ s a w) {l:ResultVar} (h:xM P s l=some m):
  ∃v,(Bv a.tmps l).run P w= .ok v w/\m.rel ρ s.H (Xo X ρ s.H) w v:=by
 cases l with
 |tmp k=>
  simp only[xM]at h;obtain⟨v,y,D⟩:=g k m h;simp_all[Bv]
 |cell p E=>
  simp only[xM]at h;split at h
  ·rename_i q r i j A;obtain⟨v,y,o,b,c,n,x,B,C⟩:=g p _ A;rw[n]at h;simp only at h;split at h
   ·rename_i e z;obtain⟨u,F,G⟩:=tY h (pE (DX (f.objs q r o n) x z) j);simp_all[Bv,asAddr]
   cases h
  cases h
theorem BS {a:Act} (c:Inv w0 O X s.H ρ w) (n:bz X ρ s a w): ∀{q:List ResultVar} {m:List (Bool×List AV)},BR P s q=some m->
  ∃vs:List Value,(q.mapM (Bv a.tmps)).run P w= .ok vs w/\vs.length=m.length/\
   ∀(j:Nat) b e,m[j]?=some (b,e)-> ∃u:Value,vs[j]?=some u/\((b=true/\dK ρ s.H (Xo X ρ s.H) w e u)\/(b=false/\ ∃x,e=[x]/\x.rel ρ s.H (Xo X ρ s.H) w u))
 |[],m,h=>by
  simp only[BR]at h;simp_all
 |r::l,m,h=>by
  simp only[BR]at h;split at h
  ·rename_i t C A B;injection h with h
   subst h;obtain⟨D,o,g⟩:=aeZ.1 A;obtain⟨v,G,y⟩:=vU c n o;obtain⟨vs,E,z,F⟩:=BS c n B;refine⟨v::vs,?_,by simp[z],fun j b e p=>?_⟩
   ·simp_all
   cases j with
   |succ j=>grind
   |zero=>
    simp at p;subst p;refine⟨v,rfl,?_⟩;cases D with
    |one x=>simp[GC]at g;obtain⟨rfl,rfl⟩:=g;exact .inr ⟨rfl,x,rfl,y⟩
    |agg e=>simp[GC]at g;obtain⟨rfl,rfl⟩:=g;exact .inl ⟨rfl,y⟩
    |tup m=>cases g
    |fn f e=>cases g
  cases h
theorem gU {a:Act} (c:Inv w0 O X s.H ρ w) (f:bz X ρ s a w) (h:uh P s A.results.toList=some m): ∃v,(results A a.tmps).run P w= .ok v w/\m.rel ρ s.H (Xo X ρ s.H) w v:=by
 rw[Mh,Array.mapM_eq_mapM_toList];generalize q:A.results.toList=e at h;unfold uh at h;split at h
 ·rename_i r;obtain⟨v,D,E⟩:=vU c f h;simp_all
 rename_i p;cases n:BR P s e with
 |none=>grind
 |some g=>
  rw[n]at h;simp at h;subst h;obtain⟨vs,x,y,z⟩:=BS c f n;refine⟨.tuple vs.toArray,?_,vs.toArray,rfl,by omega,fun j b u B=>by grind⟩;have o: ∀{e:List ResultVar} {g:List (Bool×List AV)},BR P s e=some g->g.length=e.length:=by
   intro e
   induction e with
   |nil=>grind [BR]
   |cons r l C=>
    grind [BR]
  grind [List.length_eq_one_iff,map_eq_pure_bind,Sem.run_bind,Result.andThen_ok,Sem.run_pure]
def selfTV (a:Nat):TV->Prop
 | .one x=>bJ a x
 | .agg b=> ∀x∈b,bJ a x
 | .fn _ b=> ∀x∈b,bJ a x
 | .tup c=> ∀t∈c,∀x∈t.2,bJ a x
def yE (H:OH) (b:Nat) (r:TV):Prop:=match Nat.ble b 4999 with
 |true=>selfTV b r
 |false=>selfTV b r/\H b=[]
theorem Mr (h:yE v r m):selfTV r m/\(r<=4999\/v r=[]):=by
 unfold yE at h;split at h
 ·simp_all
 grind
theorem RV (h:selfTV r m) (b:v r=[]):yE v r m:=by
 grind [yE]
theorem Cf (h:selfTV r m) (b:r<=4999):yE v r m:=by
 grind [yE,Nat.ble_eq_true_of_le]
def qn (P:Program) (c:Func) (res:CallRes) (s:AS):Prop:=
 ∃r b,uh P s c.results.toList=some r/\yE s.H b r/\res.fam=(s.H b).map (renO 0)/\res.r=renTV 0 r
theorem Pf {G:World} {res:CallRes} (B:Inv w b c s.H u G) (v2:m.rel u s.H (Xo c u s.H) G l) (J:yE s.H r m) (ad:res.fam=(s.H r).map (renO 0)) (hr:res.r=renTV 0 m):
  ∃A:Rho,Inv w b c (famH 0 res.fam) A G/\res.r.rel A (famH 0 res.fam) (Xo c A (famH 0 res.fam)) G l/\ ∀g,Xo c A (famH 0 res.fam) g->Xo c u s.H g:=by
 obtain⟨C,h5⟩:=Mr J;have S: ∀(k:Nat) o,(famH 0 res.fam 0)[k]?=some o-> ∃F,(s.H r)[k]?=some F/\o=renO 0 F:=fun k o D=>by
  grind [famH]
 have M: ∀(x k:Nat) o,(famH 0 res.fam x)[k]?=some o->x=0:=fun x k o D=>by
  grind [famH]
 have W: ∀g,Xo c (fun _ k=>u r k) (famH 0 res.fam) g->Xo c u s.H g:=fun g Y=>by
  rcases Y with Y|⟨x,k,o,n,E,R⟩
  ·exact .inl Y
  have:=M x k o E;subst this;obtain⟨F,g3,_⟩:=S k o E;exact .inr ⟨r,k,F,n,g3,R⟩
 have K: ∀x t,bJ r x->AV.rel u s.H (Xo c u s.H) G x t->AV.rel (fun _ k=>u r k) (famH 0 res.fam) (Xo c (fun _ k=>u r k) (famH 0 res.fam)) G (dA 0 x) t:=oz (c:=bJ r) (fun _ _ _ _ _ _ h=>h.1) (xx 0) fun x t hn L Q=>by
  cases x with
  |fn=>cases hn
  |p x=>exact bS.weaken (fun g _ Y=>W g Y) Q
  |sl x k af len=>
   have L:x=r:=L;subst L;obtain⟨o,E,R,g3⟩:=Q;have h6:x<=4999:=h5.resolve_right fun h=>by grind
   exact⟨renO 0 o,by grind [famH],by grind [renO],Cj (ρ':=fun _ k=>u x k) (a':=0) (r':=k) h6 g3 rfl⟩
  |ptr x k i j=>
   have L:x=r:=L;subst L;obtain⟨o,g,q,E,R,g3,g4⟩:=Q;exact⟨renO 0 o,g,q,by grind [famH],R,by grind [renO],g4⟩
  |junk=>trivial
 have Z: ∃A:Rho,Inv w b c (famH 0 res.fam) A G/\res.r.rel A (famH 0 res.fam) (Xo c A (famH 0 res.fam)) G l/\ ∀g,Xo c A (famH 0 res.fam) g->Xo c u s.H g:=by
  refine⟨fun _ k=>u r k,⟨B.keep,fun x k o D=>?_,fun x k x' k' o F g q c' D aa N ac=>?_,fun x k o g q D N=>?_,B.bar,fun x k o D=>?_⟩,?_,W⟩
  ·have:=M x k o D;subst this;obtain⟨F,E,rfl⟩:=S k o D;exact iO (B.objs r k F E) rfl rfl (fun _ _ _=>rfl) fun e he z M t u3=>K z t (B.self r k F E e he z M) u3
  ·have U:=M x k o D;have e2:=M x' k' F aa;subst U e2;obtain⟨o1,E,_⟩:=S k o D;obtain⟨o2,R,_⟩:=S k' F aa;exact⟨rfl,(B.inj r k r k' o1 o2 g q c' E R N ac).2⟩
  ·have U:=M x k o D;subst U;obtain⟨o1,E,_⟩:=S k o D;exact B.old r k o1 g q E N
  ·have U:=M x k o D;subst U;obtain⟨o1,E,rfl⟩:=S k o D;intro e he z ae;grind [renO,gk]
  rw[hr];have agg: ∀I t,(∀x∈I,bJ r x)->dK u s.H (Xo c u s.H) G I t->dK (fun _ k=>u r k) (famH 0 res.fam) (Xo c (fun _ k=>u r k) (famH 0 res.fam)) G (I.map (dA 0)) t:=fun I t L h=>by
   obtain⟨us,V,h2,h3⟩:=h;refine⟨us,V,by grind,fun j x Q=>?_⟩;grind
  cases m with
  |one x=>exact K x l C v2
  |agg I=>exact agg I l C v2
  |fn f I=>obtain⟨t,V,h2⟩:=v2;exact⟨t,agg I t C V,h2⟩
  |tup ts=>
   obtain⟨us,V,h2,h3⟩:=v2;refine⟨us,V,by grind,fun j g I Q=>?_⟩;rw[aeG]at Q;obtain⟨y,hy,ab⟩:=adT.1 Q;obtain⟨b',T⟩:=y;simp at ab;obtain⟨rfl,rfl⟩:=ab;obtain⟨t,u1,u2⟩:=h3 j b' T hy;have L:=C (b',T) (adQ hy);grind
 exact Z
theorem r6 {vs:Array Value} {args:List TV} (h:vs.size=args.length) (f: ∀(j:Nat) t,args[j]?=some t-> ∃c:Value,vs[j]?=some c/\t.rel u v b w c) (t:Nat) (x:TV) (e:(args++af (r-args.length) .undef)[t]?=some x): ∃c:Value,(vs++Array.replicate (r-vs.size) undef)[t]?=some c/\x.rel u v b w c:=by
 by_cases l:t<args.length
 ·grind
 rw[afs (by omega),agC]at e;split at e
 ·rename_i g;injection e with e
  subst e;refine⟨undef,?_,mI⟩;grind
 cases e
theorem P5 (h:Xo b (fun _ _=>none) (fun _=>[]) r):b r:=by
 rcases h with h|⟨a,e,o,c,g,f⟩
 ·exact h
 cases f
theorem Dw (h: ∀j,c j->j<w.heap.size):Inv w b c (fun _=>[]) (fun _ _=>none) w:=
 ⟨Keep.refl w,fun a r o g=>by simp at g,fun a r l p o n e f m g=>by simp at g,fun a r o e f g=>by simp at g,h,fun a r o g=>by simp at g⟩
theorem It {vs:Array Value} {args:List TV} (l:vs.size=args.length) (e: ∀(j:Nat) t,args[j]?=some t-> ∃v:Value,vs[j]?=some v/\t.rel (fun _ _=>none) (fun _=>[]) b w v):
  bz b (fun _ _=>none) ⟨args++af (r-args.length) .undef,fun _=>[]⟩ {tmps:=vs++Array.replicate (r-vs.size) undef,defers:=[]} w:=r6 l fun j t q=>by
 obtain⟨v,z,A⟩:=e j t q;refine⟨v,z,TV.rel_map A (fun y u m=>?_)⟩;cases y with
 |p y=>exact bS.weaken (fun _ _ h=>P5 h) m
 |sl a c x len=>obtain⟨o,g,_⟩:=m;simp at g
 |ptr a c i j=>obtain⟨o,_,_,g,_⟩:=m;simp at g
 |fn f a B=>grind [Ou]
 |junk=>trivial
theorem xg {vs:Array Value} {args:List TV} (g: ∀j,c j->j<w.heap.size) (f:vs.size=args.length) (e: ∀(j:Nat) t,args[j]?=some t-> ∃v:Value,vs[j]?=some v/\t.rel (fun _ _=>none) (fun _=>[]) c w v):
  dP w b c ⟨args++af (r-args.length) .undef,fun _=>[]⟩ {tmps:=vs++Array.replicate (r-vs.size) undef,defers:=[]} w:=⟨rfl,by simp[f],_,Dw g,It f e⟩
theorem At (G:World->Prop) {args:List TV} {res:CallRes} (J:P.funcs[t]?=some A) (H:A.body=some g) (K:callable P t=true) (h: ∀(w0:World) (X:Nat->Prop) (a:Act),G w0->dP w0 (fun _=>False) X ⟨args++af (A.ntmps-args.length) .undef,fun _=>[]⟩ a w0->g.wp P (fun e y D=> ∃x,((e= .normal\/e= .ret)/\ ∃B,bN x B/\qn P A res B)/\dP w0 (fun _=>False) X x y D) a w0) (w:World) (E:G w):Kp P t args res w:=by
 refine⟨K,fun X vs F u l=>?_⟩;refine calls_of_wp J H ?_;refine wp_mono (h _ _ _ E (xg F u l)) fun e y D ⟨x,⟨I,S,N,r,R,o,b,n,L⟩,m⟩=>?_
 obtain⟨z,M,ρ,j,q⟩:=N _ _ _ _ _ m;obtain⟨v,C,Q⟩:=gU j q o;obtain⟨p,f1,f2,_⟩:=Pf j Q b n L;rcases I with rfl|rfl
 ·exact⟨z,v,C,v,rfl,p,f1,f2⟩
 exact⟨z,v,C,v,rfl,p,f1,f2⟩
theorem b6 {args:List TV} {res:CallRes} (m:P.funcs[t]?=some A) (l:A.body=some g) (b:callable P t=true) (h:bv P g (fun e s=>(e= .normal\/e= .ret)/\ ∃j,bN s j/\qn P A res j) ⟨args++af (A.ntmps-args.length) .undef,fun _=>[]⟩):CallC P t args res:=
 ⟨b,fun X w vs=>(At (fun _=>True) m l b (fun w0 X a _ r=>h w0 _ X a w0 r) w trivial).2 X vs⟩
end
end
end Go.Proofs.YtalmoejhjceflaaGreat
