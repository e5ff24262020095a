/-
  Part 8 of a proof (walks and plain facts).
-/
import Derived.Test.YtalmoejhjceflaaGreatR06
set_option linter.all false
set_option maxRecDepth 100000
set_option maxHeartbeats 64000000
namespace Go.Proofs.YtalmoejhjceflaaGreat
open Go.RowKit
variable {b c:Nat->Prop} {e:Value} {f:List Value} {n:Nat} {g:List (List AV)} {h:OObj} {j:Rho} {s:AS} {l:OH} {m:TV} {o:AV}
section
section
variable {P:Program} {w0 w w':World} {O X:Nat->Prop} {ρ:Rho} {H:OH}
theorem F6 {i j sz:Nat} (b:j<sz):(i*sz+j)/sz=i/\(i*sz+j)%sz=j:=by
 grind [Nat.mul_comm,Nat.mul_add_div,Nat.div_eq_of_lt,Nat.mul_add_mod,Nat.mod_eq_of_lt]
def Is (ρ:Rho) (H:OH) (Y:Nat->Prop) (w:World) (v:Value) (b:List (List AV)) (sz:Nat) (f:List Value):Prop:=
 (∃A c,v= .slice A b.length c/\Rd w A f)/\f.length=b.length*sz/\(∀u∈f,u.oneCell'=true)/\(∀e∈b,∀x∈e,isPure x=true)/\
  ∀(i:Nat) e (j:Nat) y,b[i]?=some e->e[j]?=some y-> ∃u:Value,f[i*sz+j]?=some u/\u.oneCell'=true/\y.rel ρ H Y w u
theorem rG (sz:Nat) (A:Option Addr) (c:Nat):Is ρ H b w (.slice A 0 c) [] sz []:=
 ⟨⟨A,c,rfl,Rd.nil _ _⟩,by simp,by simp,by simp,fun i e j y h=>by simp at h⟩
theorem wR (ae: ∀(a r:Nat) (o:OObj),(H a)[r]?=some o->objRel ρ H b w a r o) {sz:Nat} (h:gH H m=some g) (M:m.rel ρ H b w e) (af: ∀p∈g,p.length=sz) (a0:0<sz):
  ∃us,Is ρ H b w e g sz us:=by
 unfold gH at h;split at h
 ·rename_i B;injection h with h
  subst h;have M:bM b w (.sl B) e:=M;cases M with
  |nil a c=>exact⟨[],rG sz a c⟩
  |sl n q z cap B f hX hb I al hm hc C=>
   by_cases ad:B=[]
   ·subst ad;exact⟨[],rG sz _ cap⟩
   have J:z=sz:=by
    cases a1:B with
    |nil=>grind
    |cons y ys=>
     simp_all
   subst J;have key: ∀k,k<B.length*z-> ∃p y,B[k/z]?=some p/\p[k%z]?=some y:=fun k D=>by
    simp_all[acv,abB,aaQ]
   have av:((List.range (B.length*z)).map fun k=>f (k/z) (k%z)).length=B.length*z:=by simp
   refine⟨(List.range (B.length*z)).map fun k=>f (k/z) (k%z),⟨some ⟨n,q,none⟩,cap,by simp,fun _=>⟨n,q,rfl,fun k x R=>?_⟩⟩,by simp,fun u Q=>?_,?_,?_⟩
   ·grind [Nat.div_add_mod]
   ·obtain⟨k,D,rfl⟩:=aau.1 Q;obtain⟨p,y,s,E⟩:=key k (by grind);exact(C _ p _ y s E).one
   ·intro p s x R;simp at s;obtain⟨S,_,rfl⟩:=s;simp at R;obtain⟨x',_,rfl⟩:=R;rfl
   intro i p j y s E;rw[aam]at s;cases A:B[i]? with
   |none=>grind
   |some S=>
    rw[A]at s;simp at s;subst s;rw[aam]at E;cases G:S[j]? with
    |none=>grind
    |some y'=>
     rw[G]at E;simp at E;subst E;have hj:j<z:=by grind
     have V:i<B.length:=(aao.1 A).1;have D:i*z+j<B.length*z:=by
      have:(i+1)*z<=B.length*z:=aav _ V;grind
     refine⟨f i j,?_,(C i S j y' A G).one,C i S j y' A G⟩;grind [F6]
 ·injection h with h
  subst h;have:=(aX M).1;subst this;exact⟨[],rG sz _ _⟩
 ·rename_i a r q len;split at h
  ·rename_i o ho;split at h
   ·rename_i F;injection h with h
    subst h;simp only[aat]at F;obtain⟨o',T,g2,g3⟩:=M;rw[ho]at T;injection T with T
    subst T;obtain⟨q1,q2,W⟩:=ae a r o ho;rcases g3 with⟨Z,U,gl,go⟩|⟨n,c,cap,Z,U,_⟩
    ·subst gl go;rw[Z]at W;simp only[W,List.take_nil,List.drop_nil];rw[U];exact⟨[],rG sz _ _⟩
    rw[Z]at W;obtain⟨cells,p1,p2,p3,p4,p5⟩:=W;have L:((o.elems.take (q+len)).drop q).length=len:=by simp;omega
    by_cases ac:len=0
    ·subst ac;have:(o.elems.take (q+0)).drop q=[]:=abY.1 L;rw[this,U];exact⟨[],rG sz _ _⟩
    have N: ∀(i:Nat) p,((o.elems.take (q+len)).drop q)[i]?=some p->i<len/\o.elems[q+i]?=some p:=fun i p s=>by
     grind
    have I:o.es=sz:=by
     obtain⟨p,s⟩:=getElem?_of_lt (l:=(o.elems.take (q+len)).drop q) (k:=0) (by omega);have h1:=af p (aai s);grind
    subst I;have aa:(q+len)*o.es<=cells.size:=by rw[p2];exact aav _ (by omega)
    rw[adb]at aa;have K: ∀k,k<len*o.es->((cells.toList.drop (q*o.es)).take (len*o.es))[k]?=cells[q*o.es+k]?:=fun k D=>by
     grind
    have ah:((cells.toList.drop (q*o.es)).take (len*o.es)).length=len*o.es:=by simp;omega
    have key: ∀k,k<len*o.es-> ∃(p:List AV) (y:AV),o.elems[q+k/o.es]?=some p/\p[k%o.es]?=some y:=fun k D=>by
     have V:k/o.es<len:=acv (by grind);have ab:q+k/o.es<o.elems.length:=by omega
     refine⟨o.elems[q+k/o.es],o.elems[q+k/o.es][k%o.es]'(by simp_all[aaQ]),aay ab,aay _⟩
    refine⟨(cells.toList.drop (q*o.es)).take (len*o.es),⟨some ⟨n,q*o.es,none⟩,cap,by rw[U,L],fun _=>⟨n,q*o.es,rfl,fun k x R=>?_⟩⟩,by grind,fun u Q=>?_,fun p s x R=>?_,fun i p j y s E=>?_⟩
    ·grind [cell_of_row]
    ·obtain⟨k,D,Q⟩:=abo Q;have ag:=aao.2 ⟨D,Q⟩;rw[ah]at D;rw[K k D]at ag;obtain⟨p,y,s,E⟩:=key k D;obtain⟨u',u1,u2,u3⟩:=p5 _ p _ y s E;have ap:(q+k/o.es)*o.es+k%o.es=q*o.es+k:=by
      grind [Nat.div_add_mod]
     grind
    ·grind
    obtain⟨V,A⟩:=N i p s;have hj:j<o.es:=by grind
    obtain⟨u,u1,u2,u3⟩:=p5 _ p j y A E;refine⟨u,?_,u2,u3⟩;have D:i*o.es+j<len*o.es:=by
     have:(i+1)*o.es<=len*o.es:=aav _ V;grind
    grind
   cases h
  cases h
 cases h
theorem Tq {a:Nat} (S:a<=4999) (s:objRel ρ H b w a n h) (D:(H a)[n]?=some h) (E:AV.rel ρ H b w (.sl a n 0 h.elems.length) e):
  ∃y,w.ownsRow 0 h.ty h.es e h.elems.length y/\(∀(i:Nat) g (j:Nat) x,h.elems[i]?=some g->g[j]?=some x-> ∃u:Value,y[i*h.es+j]?=some u/\u.oneCell'=true/\x.rel ρ H b w u)/\e.ownBlock=(ρ a n).map (·.1):=by
 obtain⟨V,W,t⟩:=s;obtain⟨U,m,Q,z⟩:=E;rw[D]at m;injection m with m
 subst m;rcases z with⟨l,p,A,_⟩|⟨f,c,cap,l,p,_,R⟩
 ·rw[l]at t;rw[p,l,A];refine⟨[],acH _ _ _ _,fun i g j x q=>?_,rfl⟩;grind
 rw[l]at t;obtain⟨cells,G,I,J,K,L⟩:=t;have C:(cells.toList.take (h.elems.length*h.es)).length=h.elems.length*h.es:=by
  simp_all
 refine⟨cells.toList.take (h.elems.length*h.es),⟨C,.inr ⟨f,c,cells,?_,aaW _,G,J,K,I,rfl⟩⟩,fun i g j x q F=>?_,?_⟩
 ·grind
 ·obtain⟨u,Z,M,N⟩:=L i g j x q F;refine⟨u,?_,M,N⟩;have B:i<h.elems.length:=(aao.1 q).1;have T:j<h.es:=by grind
  have:(i+1)*h.es<=h.elems.length*h.es:=aav _ B;grind
 rw[p,l];rfl
end
end
section
section
variable {P:Program} {w0 w w':World} {O X:Nat->Prop} {ρ:Rho} {H:OH}
theorem Sa {h:List Value} {elems:List (List AV)} {R:AV->Value->Prop} (s:f.length=elems.length*n) (m: ∀e∈elems,e.length=n) (p: ∀(i:Nat) e (j:Nat) x,elems[i]?=some e->e[j]?=some x-> ∃u:Value,f[i*n+j]?=some u/\u.oneCell'=true/\R x u) (l: ∀(i:Nat) e (j:Nat) x,g[i]?=some e->e[j]?=some x-> ∃u:Value,h[i*n+j]?=some u/\u.oneCell'=true/\R x u):
  ∀(i:Nat) e (j:Nat) x,(elems++g)[i]?=some e->e[j]?=some x-> ∃u:Value,(f++h)[i*n+j]?=some u/\u.oneCell'=true/\R x u:=by
 intro i e j x c b;by_cases q:i<elems.length
 ·grind
 rw[aaE (by omega)]at c;obtain⟨u,t,o⟩:=l _ e j x c b;refine⟨u,?_,o⟩;have r:elems.length*n<=i*n:=aav _ (by omega);grind [Nat.mul_sub_right_distrib]
theorem Jp {a m:Nat} {o:OObj} (p:w'.ownsRow 0 o.ty o.es e m f) (L:o.elems.length=m) (y:0<o.es) (t: ∀c∈o.elems,c.length=o.es) (s: ∀(i:Nat) c (h:Nat) x,o.elems[i]?=some c->c[h]?=some x-> ∃u:Value,f[i*o.es+h]?=some u/\u.oneCell'=true/\x.rel j l b w' u) (G:j a n=none->e= .slice none 0 0) (q: ∀g cap cur,e= .slice (some ⟨g,0,none⟩) m cap->w'.heap[g]?=some (.cells cur o.ty (0,0))->j a n=some (g,cap)) (A:e= .slice none 0 0->j a n=none):objRel j l b w' a n o:=by
 refine⟨t,y,?_⟩;obtain⟨K,C⟩:=p;rcases C with⟨B,I⟩|⟨g,cap,cur,B,_,z,E,D,F,M⟩
 ·grind
 rw[q g cap cur B z];refine⟨cur,z,F,by omega,D,fun i c h x J N=>?_⟩;grind
theorem Jq {Y':Nat->Prop} {a b:Nat} {o:OObj} (c:w'.ownsRow 0 o.ty o.es e b f) (t:o.elems.length=b) (p:(l a)[n]?=some o) (m: ∀g cap cur,e= .slice (some ⟨g,0,none⟩) b cap->w'.heap[g]?=some (.cells cur o.ty (0,0))->j a n=some (g,cap)) (h:e= .slice none 0 0->j a n=none):AV.rel j l Y' w' (.sl a n 0 b) e:=by
 refine⟨o,p,by omega,?_⟩;obtain⟨s,q⟩:=c;grind
def valρ:Value->Option (Nat×Nat)
 | .slice (some a) _ cap=>some (a.block,cap)
 |_=>none
theorem wA (h:w.grownBy w' none):Ext w w':=⟨h.os,h.tape,h.output,h.size,fun k b=>h.block k b (by simp)⟩
theorem FL {q:Act} (Q:q.defers=[]) (J:q.tmps.size=s.tmps.length) (B:Inv w0 O X s.H ρ w) (K:aV X ρ s q w) {d:Nat} {l:TypeId} {vs:Value} (R:s.H d=[]) (I:0<n) (G: ∀x∈g,x.length=n) (D:Is ρ s.H (Xo X ρ s.H) w vs g n f) (p:w'.ownsRow 0 l n e g.length f) (S:w.grownBy w' none) (Y:e.ownBlock=none\/e.ownBlock=some w.heap.size):
  dx w0 O X (AS.put ⟨s.tmps,ax s.H d [⟨l,n,g⟩]⟩ (some d) (.one (.sl d 0 0 g.length))) (q.put (some d) e) w':=by
 obtain⟨_,U,_,T,F⟩:=D;have A:=wA S;have V: ∀m c,valρ e=some (m,c)->m=w.heap.size:=fun m c h=>by
  rcases p.2 with⟨t,_⟩|⟨N,cap,cur,t,_⟩
  ·rw[t]at h;cases h
  grind [valρ,Value.ownBlock]
 have C: ∀(r b E:Nat),(if r=0 then valρ e else none)=some (b,E)->w.heap.size<=b:=fun r b E h=>by
  grind
 have v: ∀(m cap:Nat) (cur:Array Value),e= .slice (some ⟨m,0,none⟩) g.length cap->w'.heap[m]?=some (.cells cur l (0,0))->newρ ρ d (fun r=>if r=0 then valρ e else none) d 0=some (m,cap):=fun m cap cur t _=>by
  rw[newρ_eq,if_pos rfl,t];rfl
 have u:e= .slice none 0 0->newρ ρ d (fun r=>if r=0 then valρ e else none) d 0=none:=fun t=>by rw[newρ_eq,if_pos rfl,t];rfl
 refine Bu Q J B K A R (fun r=>if r=0 then valρ e else none) C (fun r r' b c E h W=>?_) (fun r o z=>?_) (fun r o z=>?_) ?_
 ·grind
 ·cases r with
  |succ r=>simp at z
  |zero=>simp at z;subst z;exact fun x L y M=>cf (T x L y M)
 ·cases r with
  |succ r=>simp at z
  |zero=>
   simp at z;subst z;refine Jp (o:=⟨l,n,g⟩) p rfl I G (fun i x j y L M=>?_) (fun h=>?_) v u
   ·grind [jb]
   rcases p.2 with⟨t,_⟩|⟨N,cap,cur,t,_,Z,_⟩
   ·exact t
   grind
 exact Jq (Y':=Xo X (newρ ρ d (fun r=>if r=0 then valρ e else none)) (ax s.H d [⟨l,n,g⟩])) (o:=⟨l,n,g⟩) p rfl (by rw[aM];rfl) v u
theorem FM {a3:Act} (A:Inv w0 O X s.H ρ w) (bb:aV X ρ s a3 w) {a:Nat} {us:List Value} {vs v':Value} (ho:(s.H a)[n]?=some h) (bq: ∀x∈g,x.length=h.es) (bh: ∀(i:Nat) l (j:Nat) x,h.elems[i]?=some l->l[j]?=some x-> ∃u:Value,f[i*h.es+j]?=some u/\u.oneCell'=true/\x.rel ρ s.H (Xo X ρ s.H) w u) (bd:f.length=h.elems.length*h.es) (a1:e.ownBlock=(ρ a n).map (·.1)) (a6:Is ρ s.H (Xo X ρ s.H) w vs g h.es us) (W:w'.ownsRow 0 h.ty h.es v' (h.elems.length+g.length) (f++us)) (hg:w.grownBy w' e.ownBlock) (hb:v'.ownBlock=e.ownBlock\/v'.ownBlock=some w.heap.size):
  let k:Nat->Nat->Bool:=fun x y=>x==a&&y==n
  let R:=ax s.H a (((s.H a).map (lL k)).set n {h with elems:=h.elems++g})
  (∀l∈h.elems,∀x∈l,isPure x=true)->
  ∃D,Inv w0 O X R D w'/\aV X D ⟨s.tmps.map (aP k),R⟩ a3 w'/\AV.rel D R (Xo X D R) w' (.sl a n 0 (h.elems.length+g.length)) v':=by
 intro k R a9;obtain⟨_,bt,_,hp,ap⟩:=a6;obtain⟨q1,q2,q3⟩:=A.objs a n h ho;have br:n<(s.H a).length:=(aao.1 ho).1;have ab: ∀r':Nat,(R a)[r']?=if r'=n then some {h with elems:=h.elems++g}else((s.H a)[r']?).map (lL k):=fun r'=>by
  grind [aM]
 have bl: ∀a',a'≠a->R a'=s.H a':=fun a' ha=>aG ha
 generalize bp:(fun x y=>if x=a/\y=n then valρ v' else ρ x y:Rho)=D;have N:D a n=valρ v':=by grind
 have I: ∀x y,¬(x=a/\y=n)->D x y=ρ x y:=fun x y t=>by grind
 have Y: ∀q c,valρ v'=some (q,c)->(∃c0,ρ a n=some (q,c0))\/q=w.heap.size:=fun q c t=>by
  rcases W.2 with⟨hv,_⟩|⟨g',cap,cur,hv,_⟩
  ·rw[hv]at t;cases t
  grind [valρ,Value.ownBlock]
 -- a ac row of R other than (a, n) is one of H, killed or not
 have G: ∀(x y:Nat) F,(R x)[y]?=some F-> ¬(x=a/\y=n)-> ∃J,(s.H x)[y]?=some J/\F.ty=J.ty/\F.es=J.es/\F.elems.length=J.elems.length/\(F=J/\x≠a\/F=lL k J):=fun x y F B a4=>by
  by_cases hx:x=a
  ·subst hx;rw[ab,if_neg (fun t=>a4 ⟨rfl,t⟩)]at B;obtain⟨J,K,g2⟩:=aak.1 B;grind [lL]
  grind
 have ac: ∀(x y:Nat) F,(s.H x)[y]?=some F-> ¬(x=a/\y=n)-> ∃J,(R x)[y]?=some J/\J.es=F.es/\J.elems.length=F.elems.length:=fun x y F B a4=>by
  grind
 have ae: ∀b,b<w.heap.size->Xo X D R b->Xo X ρ s.H b:=fun b hb hX=>by
  rcases hX with hX|⟨x,y,F,c,K,g2⟩
  ·exact .inl hX
  by_cases E:x=a/\y=n
  ·obtain⟨rfl,rfl⟩:=E;rw[N]at g2;rcases Y b c g2 with⟨c0,U⟩|hh
   ·exact .inr ⟨x,y,h,c0,ho,U⟩
   omega
  obtain⟨J,k1,_⟩:=G x y F K E;rw[I x y E]at g2;exact .inr ⟨x,y,J,c,k1,g2⟩
 have mono: ∀x e,AV.rel ρ s.H (Xo X ρ s.H) w x e->AV.rel D R (Xo X D R) w' (aO k x) e:=gp (pH k) fun x u hn hx=>by
  cases x with
  |fn=>cases hn
  |p x=>
   have Z:bM (fun b=>Xo X ρ s.H b\/Xo X D R b) w x u:=bM.weaken (fun b hb M=>M.elim id (ae b hb)) hx;have z2:bM (fun b=>Xo X ρ s.H b\/Xo X D R b) w' x u:=bM.stays ⟨hg.size,fun p z hp M=>by
    have a8:=mj M;unfold World.cell? at M⊢;rw[hg.block _ a8 (fun C=>?_)]
    ·exact M
    apply hp;left;rw[a1]at C;cases hr:ρ a n with
    |none=>grind
    |some S=>
     rw[hr]at C;simp at C;exact .inr ⟨a,n,h,S.2,ho,by grind⟩⟩ Z
   exact bM.weaken (fun b _ M=> .inr M) z2
  |sl x y a7 len=>
   simp only[aO];by_cases E:x=a/\y=n
   ·obtain⟨rfl,rfl⟩:=E;simp[k];trivial
   have:k x y=false:=by grind
   simp only[this,aaZ,if_false];obtain⟨F,T,h2,h3⟩:=hx;obtain⟨J,K,g2,g3⟩:=ac x y F T E;exact⟨J,K,by omega,by grind⟩
  |ptr x y i j=>
   simp only[aO];by_cases E:x=a/\y=n
   ·obtain⟨rfl,rfl⟩:=E;simp[k];trivial
   have:k x y=false:=by grind
   simp only[this,aaZ,if_false];obtain⟨F,b,c,T,h2,h3,h4⟩:=hx;obtain⟨J,K,g2,g3⟩:=ac x y F T E;exact⟨J,b,c,K,by grind,by omega,by grind⟩
  |junk=>trivial
 have ad: ∀x e,isPure x=true->AV.rel ρ s.H (Xo X ρ s.H) w x e->AV.rel D R (Xo X D R) w' x e:=fun x u ba hx=>by
  have:=mono x u hx;cases x<;>first|exact this|cases ba
 have ah:v'= .slice none 0 0->D a n=none:=fun hv=>by rw[N,hv];rfl
 have al: ∀(q cap:Nat) (cur:Array Value),v'= .slice (some ⟨q,0,none⟩) (h.elems.length+g.length) cap->w'.heap[q]?=some (.cells cur h.ty (0,0))->D a n=some (q,cap):=fun q cap cur hv _=>by rw[N,hv];rfl
 have ag:(h.elems++g).length=h.elems.length+g.length:=by simp
 have bn: ∀S,ρ a n=some S->S.1<w.heap.size:=fun S t=>bJ (A.objs a n h ho) (b:=S.1) (c:=S.2) t
 refine⟨D,⟨?_,fun x y F B=>?_,fun x y x' y' F J b c c' B a5 L V=>?_,fun x y F b c B L=>?_,fun b hb=>aaA (A.bar b hb) hg.size,fun x y F B=>?_⟩,Bb bb mono,?_⟩
 ·refine⟨hg.os.trans A.keep.os,hg.tape.trans A.keep.tape,hg.output.trans A.keep.output,aap A.keep.size hg.size,fun j hj hO=>?_⟩;rw[hg.block j (aaA hj A.keep.size) (fun C=>?_)]
  ·exact A.keep.block j hj hO
  rw[a1]at C;cases hr:ρ a n with
  |none=>grind
  |some S=>
   rw[hr]at C;simp at C;rcases(A.old a n h S.1 S.2 ho hr).1 with t|t
   ·omega
   grind
 ·by_cases E:x=a/\y=n
  ·obtain⟨rfl,rfl⟩:=E;rw[ab,if_pos rfl]at B;injection B with B
   subst B;refine Jp (o:={h with elems:=h.elems++g}) W ag q2 (fun l Q=>?_) (Sa bd q1 (fun i l j z Q M=>?_) (fun i l j z Q M=>?_)) (fun t=>?_) al ah
   ·grind
   ·obtain⟨u,u1,u2,u3⟩:=bh i l j z Q M;exact⟨u,u1,u2,ad z u (a9 l (aai Q) z (aai M)) u3⟩
   ·obtain⟨u,u1,u2,u3⟩:=ap i l j z Q M;exact⟨u,u1,u2,ad z u (hp l (aai Q) z (aai M)) u3⟩
   rcases W.2 with⟨hv,_⟩|⟨g',cap,cur,hv,_,hh,_⟩
   ·exact hv
   grind
  obtain⟨J,K,g2,g3,g4,g5⟩:=G x y F B E;have bm: ∀b c,ρ x y=some (b,c)->w'.heap[b]?=w.heap[b]?:=fun b c hb=>hg.block b (bJ (A.objs x y J K) hb) (fun C=>by
   rw[a1]at C;cases hr:ρ a n with
   |none=>grind
   |some S=>
    rw[hr]at C;simp at C;exact E (A.inj x y a n J h b c S.2 K ho hb (by grind)))
  rcases g5 with⟨rfl,bw⟩|rfl
  ·have a0:=A.self x y F K;obtain⟨Z,z2,z3⟩:=A.objs x y F K;refine⟨Z,z2,?_⟩;rw[I x y E];cases hr:ρ x y with
   |none=>grind
   |some S=>
    obtain⟨b,c⟩:=S;rw[hr]at z3;obtain⟨cells,p1,p2,p3,p4,p5⟩:=z3;refine⟨cells,by grind,p2,p3,p4,fun i l j z Q M=>?_⟩;obtain⟨u,u1,u2,u3⟩:=p5 i l j z Q M;refine⟨u,u1,u2,?_⟩;have hs:=a0 l (aai Q) z (aai M);have:=mono z u u3;cases z with
    |sl Z z2 a7 len=>have hs:Z=x:=hs;grind [aO]
    |ptr Z z2 i j=>have hs:Z=x:=hs;grind [aO]
    |p z=>exact this
    |fn m Z qs=>have hs:Z=x:=hs.1;have: ∀y,k Z y=false:=(fun y=>by grind);rename_i hm;simpa[aO,this] using hm
    |junk=>trivial
  obtain⟨Z,z2,z3⟩:=A.objs x y J K;refine⟨fun l Q=>?_,z2,?_⟩
  ·simp only[lL,aau]at Q;grind
  rw[I x y E];cases hr:ρ x y with
  |none=>grind
  |some S=>
   obtain⟨b,c⟩:=S;rw[hr]at z3;obtain⟨cells,p1,p2,p3,p4,p5⟩:=z3;refine⟨cells,by grind,p2,by omega,p4,fun i l j z Q M=>?_⟩;simp only[lL,aam]at Q;obtain⟨e',av,rfl⟩:=aak.1 Q;rw[aam]at M;obtain⟨z',a2,rfl⟩:=aak.1 M;obtain⟨u,u1,u2,u3⟩:=p5 i e' j z' av a2;grind
 ·by_cases T:x=a/\y=n
  ·obtain⟨rfl,rfl⟩:=T;by_cases h2:x'=x/\y'=y
   ·omega
   exfalso;rw[N]at L;rw[I x' y' h2]at V;obtain⟨af,K,_⟩:=G x' y' J a5 h2;rcases Y b c L with⟨c0,U⟩|hh
   ·have:=A.inj x' y' x y af h b c' c0 K ho V U;omega
   have:=bJ (A.objs x' y' af K) V;omega
  by_cases h2:x'=a/\y'=n
  ·exfalso;obtain⟨rfl,rfl⟩:=h2;rw[N]at V;rw[I x y T]at L;obtain⟨aa,K,_⟩:=G x y F B T;rcases Y b c' V with⟨c0,U⟩|hh
   ·have:=A.inj x y x' y' aa h b c c0 K ho L U;omega
   have:=bJ (A.objs x y aa K) L;omega
  rw[I x y T]at L;rw[I x' y' h2]at V;obtain⟨aa,K,_⟩:=G x y F B T;obtain⟨af,g2,_⟩:=G x' y' J a5 h2;exact A.inj x y x' y' aa af b c c' K g2 L V
 ·by_cases T:x=a/\y=n
  ·obtain⟨rfl,rfl⟩:=T;rw[N]at L;rcases Y b c L with⟨c0,U⟩|hh
   ·exact A.old x y h b c0 ho U
   have:=A.keep.size;exact⟨.inl (by omega),fun hX=>by have:=A.bar b hX;omega⟩
  rw[I x y T]at L;obtain⟨aa,K,_⟩:=G x y F B T;exact A.old x y aa b c K L
 ·by_cases T:x=a/\y=n
  ·obtain⟨rfl,rfl⟩:=T;rw[ab,if_pos rfl]at B;injection B with B
   subst B;intro l Q z M;grind [cf]
  obtain⟨J,K,g2,g3,g4,g5⟩:=G x y F B T;rcases g5 with⟨rfl,_⟩|rfl
  ·exact A.self x y F K
  intro l Q z M;simp only[lL,aau]at Q;obtain⟨e',av,rfl⟩:=Q;simp only[aau]at M;obtain⟨z',a2,rfl⟩:=M;have:=A.self x y J K e' av z' a2;cases z' with
  |sl Z z2 a7 len=>simp only[aO];split;trivial;omega
  |ptr Z z2 i j=>simp only[aO];split;trivial;omega
  |fn m Z qs=>simp only[aO];split;trivial;omega
  |p z=>trivial
  |junk=>trivial
 exact Jq (o:={h with elems:=h.elems++g}) W ag (by grind) al ah
end
end
section
section
variable {P:Program} {w0 w w':World} {O X:Nat->Prop} {ρ:Rho} {H:OH}
theorem jG (x:AV):aO (fun _ _=>false) x=x:=by cases x<;>simp[aO]
theorem mt (t:TV):aP (fun _ _=>false) t=t:=by
 cases t with
 |one x=>simp[aP,jG]
 |agg b=>simp only[aP];congr 1;rw[show aO (fun _ _=>false)=id from funext jG];simp
 |fn f b=>simp only[aP];congr 1;rw[show aO (fun _ _=>false)=id from funext jG];simp
 |tup c=>simp only[aP];congr 1;rw[show aO (fun _ _=>false)=id from funext jG];simp
theorem iD (l:List TV):l.map (aP fun _ _=>false)=l:=by
 rw[show aP (fun _ _=>false)=id from funext mt];simp
theorem uN {F:List OObj} {d:Nat} {q:Rho} (y: ∀(r:Nat) n,F[r]?=some n->(l d)[r]?=some (renO d n)/\q d r=j 0 r) (B: ∀f,f<w.heap.size->c f->Xo b j (famH 0 F) f) (h:o.rel j (famH 0 F) (Xo b j (famH 0 F)) w e):(cb d o).rel q l c w e:=by
 refine gp (oC d) (fun o e C h=>?_) o e h;cases o with
 |fn=>cases C
 |p o=>exact bM.weaken B h
 |sl a r D len=>
  obtain⟨n,s,z,u⟩:=h;by_cases t:a=0
  ·subst t;obtain⟨f1,f2⟩:=y r n s;exact⟨renO d n,f1,by grind [renO],tf (by decide) u f2⟩
  grind [famH]
 |ptr a r i m=>
  obtain⟨n,f,g,s,z,u,A⟩:=h;by_cases t:a=0
  ·subst t;obtain⟨f1,f2⟩:=y r n s;exact⟨renO d n,f,g,f1,by grind,by grind [renO],A⟩
  grind [famH]
 |junk=>trivial
theorem oH {d:Nat} (h:m.rel ρ H b w e) (s: ∀x e,x.rel ρ H b w e->AV.rel j l c w' (cb d x) e):(renTV d m).rel j l c w' e:=by
 have agg: ∀o e,bH ρ H b w o e->bH j l c w' (o.map (cb d)) e:=fun o e h=>by
  obtain⟨vs,p,q,r⟩:=h;refine⟨vs,p,by grind,fun n x y=>?_⟩;grind
 cases m with
 |one x=>exact s _ _ h
 |agg o=>exact agg o e h
 |fn f o=>obtain⟨u,p,q⟩:=h;exact⟨u,agg o u p,q⟩
 |tup z=>
  obtain⟨vs,p,q,r⟩:=h;refine⟨vs,p,by grind,fun n g o y=>?_⟩;grind
theorem LJ (c:isPure o=true) (h:o.rel ρ H b w e):bM b w (uq o) e:=by
 cases o<;>first|exact h|cases c
theorem zK {own:Bool} (U: ∀(a r:Nat) (o:OObj),(H a)[r]?=some o->objRel ρ H b w a r o) (hZ: ∀g,c g->b g) (S:own=true-> ∀(a r:Nat) (o:OObj) (g l:Nat),(H a)[r]?=some o->ρ a r=some (g,l)-> ¬c g) (h:m.rel ρ H b w e) (q:g9 own H m=true):
  (j9 H m).rel (fun _ _=>none) (fun _=>[]) c w e:=by
 have wk: ∀x u,bM b w x u->bM c w x u:=fun x u h=>bM.weaken (fun g _ hb=>hZ g hb) h
 unfold g9 at q;split at q
 ·rename_i a r p len;simp only[aaO]at q;obtain⟨T,q⟩:=q;obtain⟨o,K,g2,g3⟩:=h;rw[K]at q;simp only[aat]at q;simp only[j9,K];show bM _ _ _ _;obtain⟨q1,q2,q3⟩:=U a r o K;have hl:(((o.elems.take (p+len)).drop p).map (List.map uq)).length=len:=by simp;omega
  rcases g3 with⟨M,L,gl,go⟩|⟨g,l,cap,M,L,W,_⟩
  ·rw[abY.1 (hl.trans gl),L];exact bM.nil _ _
  by_cases E:len=0
  ·rw[abY.1 (hl.trans E),L,E];exact bM.nil _ _
  rw[M]at q3;obtain⟨cells,p1,p2,p3,p4,p5⟩:=q3;have F: ∀(i:Nat) n,(((o.elems.take (p+len)).drop p).map (List.map uq))[i]?=some n-> ∃C,o.elems[p+i]?=some C/\n=C.map uq:=fun i n A=>by
   grind
  have y: ∀(i:Nat) n (j:Nat) x,(((o.elems.take (p+len)).drop p).map (List.map uq))[i]?=some n->n[j]?=some x-> ∃u:Value,cells[(p+i)*o.es+j]?=some u/\bM c w x u:=fun i n j x A s=>by
   obtain⟨C,D,rfl⟩:=F i n A;rw[aam]at s;obtain⟨x',G,rfl⟩:=aak.1 s;obtain⟨u,B,I,J⟩:=p5 _ C j x' D G;exact⟨u,B,wk _ _ (LJ (q C (aai D) x' (aai G)) J)⟩
  rw[L];have:=bM.sl (X:=c) (w:=w) g (p*o.es) o.es cap (((o.elems.take (p+len)).drop p).map (List.map uq)) (fun i j=>(cells[(p+i)*o.es+j]?).getD undef) (S T a r o g l K M) (aaD.1 p1).1
   (fun n A=>by
    grind [List.mem_of_mem_drop]) (by omega) (by omega)
   (fun i n j x A s=>by
    obtain⟨u,B,_⟩:=y i n j x A s;grind [cell_of_row])
   (fun i n j x A s=>by
    obtain⟨u,B,I⟩:=y i n j x A s;grind)
  grind
 ·rename_i x;unfold j9;split
  ·grind
  ·rename_i z;injection z with z
   injection z with z
   subst z;have:=(aX h).1;subst this;exact bM.nil _ _
  exact wk _ _ h
 ·rename_i cs;simp only[aat]at q;obtain⟨vs,N,Q,R⟩:=h;refine⟨vs,N,Q,fun j x s=>?_⟩;obtain⟨u,B,I,J⟩:=R j x s;refine⟨u,B,I,?_⟩;have V:=q x (aai s);cases x<;>first|exact wk _ _ J|cases V
 ·rename_i f cs;simp only[aat]at q;obtain⟨u0,⟨vs,N,Q,R⟩,h4⟩:=h;refine⟨u0,⟨vs,N,Q,fun j x s=>?_⟩,h4⟩;obtain⟨u,B,I,J⟩:=R j x s;refine⟨u,B,I,?_⟩;have V:=q x (aai s);cases x<;>first|exact wk _ _ J|cases V
 cases q
theorem qT {own:Bool} (j: ∀(a r:Nat) (o:OObj),(H a)[r]?=some o->objRel ρ H b w a r o) (l: ∀f,c f->b f) (g:own=true-> ∀f,¬c f) (h:m.rel ρ H b w e) (n:g9 own H m=true):
  (j9 H m).rel (fun _ _=>none) (fun _=>[]) c w e:=
 zK j l (fun h _ _ _ f _ _ _=>g h f) h n
end
end
section
section
variable {P:Program} {w0 w w':World} {O X:Nat->Prop} {ρ:Rho} {H:OH}
theorem eJ:TV.rel ρ H b w .undef undef:=⟨#[],rfl,rfl,fun j c e h=>by simp at h⟩
theorem zL {a:Nat} (h:Tk a o=true):bs a o:=by
 cases o with
 |sl b _ _ _=>have h:b=a:=(by grind [Tk]);exact h
 |p o=>trivial
 |_=>cases h
theorem tT {a:Nat}: ∀{f:List AV} {e:List (Nat×Nat×Nat)},k9 a f=some e->e.length=f.length/\ ∀(n:Nat) q,e[n]?=some q->f[n]?=some (.ptr a q.1 q.2.1 q.2.2)
 |[],e,h=>by grind [k9]
 |c::f,e,h=>by
  cases c with
  |ptr b r i j=>
   simp only[k9]at h;split at h
   ·rename_i g;subst g;obtain⟨l,m,rfl⟩:=aak.1 h;obtain⟨o,p⟩:=tT m;grind
   cases h
  |_=>grind [k9]
theorem Gp {f:FuncId} {a:Nat} {g:List AV} {c:List (Nat×Nat×Nat)} (x:k9 a g=some c) (m:0<c.length) (h:(TV.fn f g).rel ρ H b w e):(AV.fn f a c).rel ρ H b w e:=by
 obtain⟨u,⟨vs,o,p,r⟩,s⟩:=h;subst o;obtain⟨j,l⟩:=tT x;refine⟨vs,s,p.trans j.symm,m,fun n q t=>?_⟩;obtain⟨u,y,A,z⟩:=r n _ (l n q t);exact⟨u,y,z⟩
theorem rK {s:AS} {a:Act} (G:a.defers=[]) (A:a.tmps.size=s.tmps.length) (m:Inv w0 O X s.H ρ w) (B:aV X ρ s a w) {o:Oper} {t:TypeId} {D x:Operand} (T:o.op= .store t D x) {r i j f:Nat} {e cs:List AV} (E:s.ev D=some (.one (.ptr n r i j))) (hn:gL P t=some f) (p:(s.H n)[r]?=some h) (S:h.elems[i]?=some e) (R:cs.length=f) (hj:j+f<=e.length) (V:me ρ s.H (Xo X ρ s.H) w cs (a.eval x).cells) (g: ∀y∈cs,bs n y) {K:Act->World->Prop} {Q:Exit->Act->World->Prop} (N: ∀v w',dx w0 O X (AS.put ⟨s.tmps,ax s.H n ((s.H n).set r {h with elems:=h.elems.set i (putCells e j cs)})⟩ o.dst .undef) (a.put o.dst v) w'->K (a.put o.dst v) w'):o.wp P a w K Q:=by
 obtain⟨Y,b,c,C,L,g3,M⟩:=bz B D _ E;rw[p]at C;injection C with C
 subst C;obtain⟨x1,x2⟩:=V;have F:(a.eval x).cells.toList.length=cs.length:=by omega
 obtain⟨cells,I,J,Z,c4⟩:=Ai G A m B (vs:=(a.eval x).cells.toList) (j:=j) p L S (by omega) F (fun k y W=>by
  grind) g
 have q: ∀u∈(a.eval x).cells,u.oneCell'=true:=fun u U=>by
  obtain⟨k,hk,rfl⟩:=adY U;obtain⟨y,W⟩:=getElem?_of_lt (l:=cs) (k:=k) (by omega);grind
 have z:=tV (P:=P) (t:=t) (v:=a.eval x) (by grind) I (by simpa using J) q;unfold Oper.wp execOp;simp only[T,M];rw[Vh z];refine N undef _ (eD (ρ:=ρ) G A ?_ ?_ eJ)
 ·omega
 omega
theorem Gd {a:Act} (h1:a.defers=[]) (ac:a.tmps.size=s.tmps.length) (p:Inv w0 O X s.H ρ w) (u:aV X ρ s a w) {o:Oper} {q:Fm} (h:fP P s.ev s.H o.op=some q) {K:Act->World->Prop} {Q:Exit->Act->World->Prop} (S: ∀v w',dx w0 O X (AS.put ⟨s.tmps.map (aP q.k),q.H⟩ o.dst q.t) (a.put o.dst v) w'->K (a.put o.dst v) w'):o.wp P a w K Q:=by
 cases ho:o.op<;>rw[ho]at h<;>simp only[fP]at h<;>try cases h
 case store t ad x=>
  split at h
  ·rename_i m r i j n E hn;split at h
   ·rename_i R B;split at h
    ·rename_i e he;split at h
     ·rename_i J r' a1 len L;split at h
      ·rename_i Z;subst Z;split at h
       ·rename_i N;injection h with h
        subst h;simp only[iD]at S;have F:=bz u x _ L;have C:(a.eval x).oneCell'=true:=by
         obtain⟨_,_,_,M⟩:=F;rcases M with⟨_,M,_⟩|⟨_,_,_,_,M,_⟩<;>rw[M]<;>rfl
        refine rK h1 ac p u ho E hn B he (cs:=[.sl J r' a1 len]) (by simp;omega) (by omega) ⟨by grind [fg],fun k y D=>?_⟩ (fun y D=>by simp at D;subst D;rfl) S;cases k with
        |succ k=>simp at D
        |zero=>simp at D;subst D;exact⟨a.eval x,by grind [fg],C,F⟩
       cases h
      rename_i Z;split at h
      ·rename_i o2 hH;split at h
       ·rename_i N;obtain⟨c0,c1,c2,c3,c4,c5,c6⟩:=N;injection h with h
        subst h;subst c1 c2;simp only[aat]at c6;obtain⟨m1,m2,m3⟩:=zy p (a:=m) (b:=J) c0 Z hH c6;have ap:=Bb u m2;have F:=m3 _ _ _ (bz u x _ L);have C:(a.eval x).oneCell'=true:=by
         obtain⟨_,_,_,M⟩:=F;rcases M with⟨_,M,_⟩|⟨_,_,_,_,M,_⟩<;>rw[M]<;>rfl
        have br:r<(s.H m).length:=(aao.1 B).1;have bp:ax (ax s.H m (s.H m++[o2])) J [] m=s.H m++[o2]:=by grind [aG,aM]
        have af:AS.ev ⟨s.tmps.map (aP fun x _=>x==J),ax (ax s.H m (s.H m++[o2])) J []⟩ ad=some (.one (.ptr m r i j)):=by
         cases ad with
         |tmp k=>
          grind [AS.ev,aP,aO]
         |const v=>exact E
         |global g=>exact E
         |func f=>exact E
        refine rK (s:=⟨s.tmps.map (aP fun x _=>x==J),ax (ax s.H m (s.H m++[o2])) J []⟩) (a:=a) h1 (by grind) m1 ap ho af hn (by grind) he (cs:=[.sl m (s.H m).length 0 len]) (by simp;omega) (by omega) ⟨by grind [fg],fun k y D=>?_⟩ (fun y D=>by simp at D;subst D;rfl) ?_
        ·grind [fg]
        intro v w2 bl;refine S v w2 ?_;have e1:ax (ax (ax s.H m (s.H m++[o2])) J []) m ((ax (ax s.H m (s.H m++[o2])) J [] m).set r {R with elems:=R.elems.set i (putCells e j [.sl m (s.H m).length 0 len])})=
          ax (ax s.H m ((s.H m).set r {R with elems:=R.elems.set i (putCells e j [.sl m (s.H m).length 0 len])}++[o2])) J []:=by
         grind [aM,aG]
        grind
       cases h
      cases h
     ·rename_i f cs L;split at h
      ·rename_i qs a6;split at h
       ·rename_i N;injection h with h
        subst h;simp only[iD]at S;have F:=Gp a6 N.2.2 (bz u x _ L);have C:=FQ (by simp) F;refine rK h1 ac p u ho E hn B he (cs:=[.fn f m qs]) (by simp;omega) (by omega) ⟨by grind [fg],fun k y D=>?_⟩ (fun y D=>by simp at D;subst D;exact⟨rfl,acl N.2.2⟩) S;grind [fg]
       cases h
      cases h
     ·rename_i v hv hv2 L;split at h
      ·rename_i cs a5;split at h
       ·rename_i N;obtain⟨c1,c2,c3⟩:=N;injection h with h
        subst h;simp only[iD]at S;simp only[aat]at c3;exact rK h1 ac p u ho E hn B he c1 c2 (iU a5 (bz u x _ L)) (fun y D=>zL (c3 y D)) S
       cases h
      cases h
     cases h
    cases h
   cases h
  cases h
 case call c=>
  obtain⟨callee,⟨args⟩,⟨argTypes⟩⟩:=c;split at h
  ·rename_i sx x t t' T G av;simp only at T G av;subst T G av;split at h
   ·rename_i m r a1 len a0 e hs L a8;split at h
    ·rename_i R z sz a2 B hz ah a3;split at h
     ·rename_i N;obtain⟨c0,rfl,rfl,rfl,c4,rfl,rfl,c7,c8,c9,ae⟩:=N;injection h with h
      subst h;simp only[aat]at c4;obtain⟨tx,a9,aa⟩:=aaG.1 L;have U:=p.objs m r R B;have W:0<R.es:=U.2.1;obtain⟨us,Y⟩:=wR p.objs aa (bz u x tx a9) ae W;obtain⟨xs,V,bc,bb⟩:=Tq c0 U B (bz u sx _ hs);obtain⟨⟨A,cc,hv,a7⟩,ba,C,bq,a4⟩:=id Y;obtain⟨ti,zv,al,bw,bt⟩:=ko hz;obtain⟨bd,l,bn⟩:=rM ah;rw[al]at l;injection l with l;subst l
      obtain⟨bd,l,bh⟩:=vR a3;rw[al]at l;injection l with l;subst l
      obtain⟨v',w1,bm,ab,hg,ag⟩:=ld (P:=P) w 0 t o.type R.ty zv R.es a2 (dI a8) (by grind) (by grind) W _ _ xs V A a0.length cc us a7 ba C (by grind [maxLen]) c7 (aaW _);obtain⟨bx,i1,i2,i3⟩:=FM p u B ae bc V.1 bb Y ab hg ag (fun e he x L=>c4 e he x L);unfold Oper.wp execOp;have I:(execOp a.eval o).run P w= .ok (.value v') w1:=by
       unfold execOp;grind [resolve,invoke,builtin,Sem.run_bind,Sem.run_pure,Result.andThen_ok]
      unfold execOp at I;rw[I];exact S v' w1 (eD h1 (by grind) i1 i2 i3)
     cases h
    cases h
   cases h
  cases h
end
end
end Go.Proofs.YtalmoejhjceflaaGreat
