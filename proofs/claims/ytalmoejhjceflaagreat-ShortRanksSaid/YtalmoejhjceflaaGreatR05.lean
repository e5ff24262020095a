/-
  Part 6 of a proof (walks and plain facts).
-/
import Derived.Test.YtalmoejhjceflaaGreatR04
set_option linter.all false
set_option maxRecDepth 100000
set_option maxHeartbeats 64000000
namespace Go.Proofs.YtalmoejhjceflaaGreat
open Go.RowKit
variable {b:Operand->Value} {n m:Nat} {c:TypeId} {e:Operand} {f:Option Operand} {g:List AV} {h:Oper} {j:TV} {l:Value}
section
section
variable {P:Program} {ρ:Rho} {H:OH} {X:Nat->Prop} {w:World}
theorem rM (h:gL P c=some n): ∃i,P.info? c=some i/\i.size=n:=by
 unfold gL at h;simp_all
theorem BP {i:TypeInfo} (h:P.info? c=some i):(typeInfo c).run P w= .ok i w:=by
 simp_all[typeInfo]
theorem dU (h:gL P c=some n):(sizeOf c).run P w= .ok n w:=by
 obtain⟨i,b,e⟩:=rM h;simp_all[sizeOf,BP]
theorem rq {b:Bool} (h:gd P c=some b):(isAgg c).run P w= .ok b w:=by
 unfold gd at h;cases e:P.underlying c with
 |none=>grind
 |some d=>
  rw[e]at h;unfold isAgg;rw[aax,run_underlying e,aan];cases d<;>simp at h<;>subst h<;>rfl
theorem dI {e:TypeId} (h:dn P c=some e):P.underlying c=some (.slice e):=by
 unfold dn at h;cases b:P.underlying c with
 |none=>grind
 |some d=>grind
theorem nB {e:TypeId} (h:cU P c n=some (m,e)): ∃b d,P.underlying c=some (.struct b)/\b[n]?=some d/\d.offset=m/\d.type=e:=by
 unfold cU at h;cases g:P.underlying c with
 |none=>grind
 |some d=>
  grind
def oq (ρ:Rho) (H:OH) (X:Nat->Prop) (w:World) (b c:Nat) (e:List AV):Prop:=
 ∀(j:Nat) x,e[j]?=some x-> ∃v:Value,w.cell? ⟨b,c+j,none⟩=some v/\v.oneCell'=true/\x.rel ρ H X w v
theorem mm {cs:List AV} (h:oq ρ H X w n m cs) (k:Nat):oq ρ H X w n (m+k) (cs.drop k):=by
 intro j x c;rw[abR]at c;obtain⟨v,e,f⟩:=h _ _ c;grind
theorem AQ {b off:Nat} {cs:List AV} (h:oq ρ H X w b off cs):
  ∃vs:List Value,vs.length=cs.length/\(∀(j:Nat) v,vs[j]?=some v->w.cell? ((⟨b,off,none⟩:Addr).add j)=some v)/\(∀(j:Nat) x,cs[j]?=some x-> ∃u:Value,vs[j]?=some u/\u.oneCell'=true/\x.rel ρ H X w u):=by
 induction cs generalizing off with
 |nil=>simp
 |cons c cs e=>
  obtain⟨v,f,g,l⟩:=h 0 c rfl;obtain⟨vs,l1,o,p⟩:=e (off:=off+1) (mm (cs:=c::cs) h 1);refine⟨v::vs,by simp[l1],fun j u m=>?_,fun j x n=>?_⟩
  ·grind [Addr.add_lit]
  grind
theorem pF (h:kO P c g=some j) (q:oq ρ H X w n m g):
  ∃v,(loadVar c ⟨n,m,none⟩).run P w= .ok v w/\j.rel ρ H X w v:=by
 unfold kO at h;split at h
 ·rename_i f r p;split at h
  ·rename_i A;injection h with h
   subst h;obtain⟨vs,l1,u,B⟩:=AQ (cs:=g.take f) (b:=n) (off:=m) (fun e x o=>by
    rw[acg]at o;split at o
    ·exact q e x o
    cases o)
   refine⟨.agg vs.toArray,?_,vs.toArray,rfl,by simp[l1],fun e x o=>?_⟩
   ·unfold loadVar;rw[aax,rq p,aan,if_pos rfl,aax,dU r,aan];have:=run_loadCells_list (P:=P) w ⟨n,m,none⟩ vs u;simp_all
   grind
  cases h
 ·rename_i r p;split at h
  ·rename_i x l;injection h with h
   subst h;obtain⟨v,y,z,s⟩:=q 0 x rfl;refine⟨v,?_,s⟩;simp_all[loadVar,rq]
  cases h
 cases h
theorem iN {e:List PV} (h:bM X w (.ptr e) l): ∃b c,l= .pointer (some ⟨b,c,none⟩)/\ ¬X b/\oq ρ H X w b c (e.map AV.p):=by
 cases h with
 |ptr b c e f o r q n=>
  refine⟨b,c,rfl,o,fun j x m=>?_⟩;rw[aam]at m;cases g:e[j]? with
  |none=>grind
  |some y=>
   rw[g]at m;simp at m;subst m;exact⟨f j,q j y g,(n j y g).one,n j y g⟩
theorem rl {c:List PV} {k:Nat} (h:bM X w (.ptr c) (.pointer (some ⟨n,m,none⟩))):bM X w (.ptr (c.drop k)) (.pointer (some ⟨n,m+k,none⟩)):=by
 cases h with
 |ptr n m c f e g o p=>
  refine .ptr n (m+k) (c.drop k) (fun j=>f (k+j)) e g (fun j x l=>?_) (fun j x l=>?_)
  ·grind
  grind
theorem zM {a:Nat} {o:OObj} {c i:Nat} (l:objRel ρ H X w a n o) (f:ρ a n=some (m,c)) (p:o.elems[i]?=some g):oq ρ H X w m (i*o.es) g:=by
 obtain⟨_,_,h⟩:=l;rw[f]at h;obtain⟨cells,q,_,_,_,s⟩:=h;intro j x t;grind [World.cell?]
theorem pM {z:Int} (h:zD z=some n):0<=z/\z.toNat=n:=by
 grind [zD]
theorem KU {ev:Operand->Option TV} (p:il ρ H X w ev b) (y: ∀(a r:Nat) (h:OObj),(H a)[r]?=some h->objRel ρ H X w a r h) (E:h.op= .load c e) (l:bT P ev H h.op=some j): ∃v,(execOp b h).run P w= .ok (.value v) w/\j.rel ρ H X w v:=by
 unfold execOp;rw[E]at l⊢;simp only[bT]at l;split at l
 ·rename_i I A;obtain⟨f,G,z,K,D⟩:=iN (ρ:=ρ) (H:=H) (p e _ A);obtain⟨v,q,s⟩:=pF l D;refine⟨v,eh ?_,s⟩;rw[z];exact q
 ·rename_i a r i m A;obtain⟨L,f,g,q,s,J,z⟩:=p e _ A;split at l
  ·rename_i F n;rw[q]at n;injection n with n
   subst n;split at l
   ·rename_i el u;obtain⟨v,B,C⟩:=pF l (mm (zM (y a r _ q) s u) m);refine⟨v,eh ?_,C⟩;rw[z];exact B
   cases l
  cases l
 cases l
theorem wm {ev:Operand->Option TV} (u:il ρ H X w ev b) (ad: ∀(a r:Nat) (h:OObj),(H a)[r]?=some h->objRel ρ H X w a r h) {ix:Operand} (ho:h.op= .indexAddr c e ix) (p:bT P ev H h.op=some j): ∃v,(execOp b h).run P w= .ok (.value v) w/\j.rel ρ H X w v:=by
 unfold execOp;rw[ho]at p⊢;simp only[bT]at p;split at p
 ·rename_i k n U;have M:=(aX (u ix _ U)).1;split at p
  ·cases p
  rename_i i K;obtain⟨G,K⟩:=pM K;split at p
  ·rename_i el xs F A;have A:=u e _ A;split at p
   ·rename_i l J;split at p
    ·rename_i z;injection p with p
     subst p;generalize V:b e=vx at*
     have S:i<xs.length:=(aao.1 J).1;cases A with
     |nil a l=>simp at S
     |sl g s Q cap xs f hX hb R aa hm D N=>
      have ab:l.length=Q:=R l (aai J);refine⟨.pointer (some ⟨g,s+i*Q,none⟩),eh ?_,.ptr g (s+i*Q) l (f i) hX hb (fun q y W=>D i l q y J W) (fun q y W=>N i l q y J W)⟩;unfold Instr.indexAt;rw[M,V,aax];show Result.andThen (.ok (k,n) w) _=_;rw[aan];simp only[aax,run_underlying (dI F),aan,abc];rw[if_pos ⟨G,by omega⟩,aax,dU z,aan];simp_all[acI]
    cases p
   cases p
  ·rename_i el a r s len F A;obtain⟨O,Z,h2,h3⟩:=u e _ A;split at p
   ·rename_i ae B;rw[Z]at B;injection B with B
    subst B;split at p
    ·rename_i E;injection p with p
     subst p;rcases h3 with⟨_,_,ac,_⟩|⟨g,l,cap,Y,C,_⟩
     ·omega
     refine⟨.pointer (some ⟨g,(s+i)*O.es+0,none⟩),eh ?_,O,g,l,Z,Y,by omega,rfl⟩;unfold Instr.indexAt;rw[M,C,aax];show Result.andThen (.ok (k,n) w) _=_;rw[aan];simp only[aax,run_underlying (dI F),aan,abc];rw[if_pos ⟨G,by omega⟩,aax,dU E.1,aan];simp_all[acI,adb]
    cases p
   cases p
  ·rename_i cs F A;split at p
   ·rename_i m el I;split at p
    ·rename_i sz z;split at p
     ·rename_i L;injection p with p
      subst p;obtain⟨g,s,C,hX,J⟩:=iN (ρ:=ρ) (H:=H) (u e _ A);have hr:=u e _ A;rw[C]at hr;refine⟨.pointer (some ⟨g,s+i*sz,none⟩),eh ?_,rl hr⟩;unfold Instr.indexAt;rw[M,C,aax];show Result.andThen (.ok (k,n) w) _=_;rw[aan];simp only[aax,run_underlying (iR I),aan,abc,Instr.sureAddr];rw[if_pos ⟨G,by omega⟩,aax,dU z,aan,K,acI];rfl
     cases p
    cases p
   cases p
  ·rename_i a r kk q F A;split at p
   ·rename_i m el I;split at p
    ·rename_i sz z;split at p
     ·rename_i L;injection p with p
      subst p;obtain⟨O,g,l,g1,g2,g3,C⟩:=u e _ A;refine⟨.pointer (some ⟨g,kk*O.es+(q+i*sz),none⟩),eh ?_,O,g,l,g1,g2,g3,rfl⟩;unfold Instr.indexAt;rw[M,C,aax];show Result.andThen (.ok (k,n) w) _=_;rw[aan];simp only[aax,run_underlying (iR I),aan,abc,Instr.sureAddr];rw[if_pos ⟨G,by omega⟩,aax,dU z,aan,K,acI,adE];rfl
     cases p
    cases p
   cases p
  ·rename_i g s F A;split at p
   ·rename_i m el I;split at p
    ·rename_i sz z;split at p
     ·rename_i L;injection p with p
      subst p;have C:=(aX (u e _ A)).1;refine⟨.pointer (some ⟨g,s+i*sz,none⟩),eh ?_,b7 rfl⟩;unfold Instr.indexAt;rw[M,C,aax];show Result.andThen (.ok (k,n) w) _=_;rw[aan];simp only[aax,run_underlying (iR I),aan,abc,Instr.sureAddr];rw[if_pos ⟨G,by omega⟩,aax,dU z,aan,K,acI];rfl
     cases p
    cases p
   cases p
  cases p
 cases p
theorem wl {ev:Operand->Option TV} (s:il ρ H X w ev b) (M:h.op= .fieldAddr c e n) (m:bT P ev H h.op=some j): ∃v,(execOp b h).run P w= .ok (.value v) w/\j.rel ρ H X w v:=by
 unfold execOp;rw[M]at m⊢;simp only[bT]at m;split at m
 ·rename_i C G O A u;obtain⟨g,S,B,Q,R⟩:=iN (ρ:=ρ) (H:=H) (s e _ u);have u:=s e _ u;split at m
  ·rename_i q y;injection m with m
   subst m;obtain⟨F,d,z,D,L,E⟩:=nB A;rw[B]at u;refine⟨_,eh ?_,rl u⟩;unfold Instr.fieldAt;rw[aax,run_underlying z,aan];simp_all[Instr.sureAddr,fieldPlace,dU,acI]
  cases m
 ·rename_i C G a r i p A u;obtain⟨N,g,l,I,J,K,B⟩:=s e _ u;split at m
  ·rename_i q y;injection m with m
   subst m;obtain⟨F,d,z,D,L,E⟩:=nB A;refine⟨_,eh ?_,N,g,l,I,J,K,rfl⟩;unfold Instr.fieldAt;rw[aax,run_underlying z,aan];simp only[D,B,Instr.sureAddr,aax,abc,aan,fieldPlace,E,dU y];grind [Sem.run_pure,Result.andThen_ok,Addr.add_lit]
  cases m
 cases m
end
end
section
section
variable {P:Program} {ρ:Rho} {H:OH} {X:Nat->Prop} {w:World}
theorem xg {vs:Array Value} (h:kO P c (g.drop n)=some j) (z:vs.size=g.length) (r: ∀(b:Nat) x,g[b]?=some x-> ∃u:Value,vs[b]?=some u/\u.oneCell'=true/\x.rel ρ H X w u):
  ∃v,(part c vs n).run P w= .ok v w/\j.rel ρ H X w v:=by
 unfold kO at h;split at h
 ·rename_i e o f;split at h
  ·rename_i m;injection h with h
   subst h;refine⟨.agg (vs.extract n (n+e)),?_,_,rfl,?_,fun b x p=>?_⟩
   ·unfold part;rw[aax,rq f,aan,if_pos rfl,aax,dU o,aan];rfl
   ·grind
   grind
  cases h
 ·rename_i o f;split at h
  ·rename_i x l m;injection h with h
   subst h;have p:g[n]?=some x:=by
    have:(g.drop n)[0]?=some x:=by rw[m];rfl
    grind
   obtain⟨u,s,y,q⟩:=r _ x p;refine⟨u,?_,q⟩;simp_all[part,rq]
  cases h
 cases h
theorem Gf {ev:Operand->Option TV} (l:il ρ H X w ev b) (q:h.op= .field c e n) (g:bT P ev H h.op=some j): ∃v,(execOp b h).run P w= .ok (.value v) w/\j.rel ρ H X w v:=by
 unfold execOp;rw[q]at g⊢;simp only[bT]at g;split at g
 ·rename_i u A y p s;obtain⟨vs,I,r,m⟩:=l e _ s;obtain⟨z,d,D,E,F,G⟩:=nB p;obtain⟨v,B,C⟩:=xg g r m;simp_all[Instr.field,run_underlying,asAgg]
 cases g
theorem Gg {ev:Operand->Option TV} (g:il ρ H X w ev b) {r:Operand} (D:h.op= .index c e r) (f:bT P ev H h.op=some j): ∃v,(execOp b h).run P w= .ok (.value v) w/\j.rel ρ H X w v:=by
 unfold execOp;rw[D]at f⊢;simp only[bT]at f;split at f
 ·rename_i k n p;have C:=(aX (g r _ p)).1;split at f
  ·cases f
  rename_i i l;obtain⟨y,l⟩:=pM l;split at f
  ·rename_i m el I z G;split at f
   ·rename_i sz q;split at f
    ·rename_i B;obtain⟨vs,F,E,A⟩:=g e _ G;obtain⟨v,s,u⟩:=xg f E A;refine⟨v,eh ?_,u⟩;unfold Instr.index;rw[C,F,aax];show Result.andThen (.ok (k,n) w) _=_;rw[aan];simp only[aax,run_underlying (iR z),aan,abc];rw[if_pos ⟨y,by omega⟩,aax,dU q,aan,l,s]
    cases f
   cases f
  cases f
 cases f
theorem iw {ev:Operand->Option TV} (c:il ρ H X w ev b) {d:Nat} (h:d7 ev f d=some n):
  (f=none/\n=d)\/ ∃y k z,f=some y/\b y= .int k z/\0<=z/\z.toNat=n:=by
 unfold d7 at h;split at h
 ·grind
 rename_i dd y;split at h
 ·rename_i k z l;obtain⟨g,j⟩:=pM h;exact .inr ⟨y,k,z,rfl,(aX (c y _ l)).1,g,j⟩
 cases h
theorem ic {k:IntKind} {z:Int} {c:BoundsCode} (b:0<=z) (e:z.toNat=m) (f:m<=n):(Instr.sliceBound (.int k z) n c).run P w= .ok m w:=by
 unfold Instr.sliceBound;show(if 0<=z/\z<=n then(pure z.toNat:Sem Nat)else boundsPanic k z n c).run P w=_;rw[if_pos ⟨b,by omega⟩,e];rfl
theorem ff {ev:Operand->Option TV} (c:il ρ H X w ev b) {j:Option Operand} {len cap:Nat} (r:d7 ev f 0=some n) (g:d7 ev j len=some m) (B:n<=m) (C:m<=cap):
  (Instr.sliceBounds true len cap (f.map b) (j.map b) none).run P w= .ok (n,m,cap) w:=by
 unfold Instr.sliceBounds;rcases iw c r with⟨rfl,rfl⟩|⟨y,k,z,rfl,v,x,A⟩
 ·rcases iw c g with⟨rfl,rfl⟩|⟨t,s,u,rfl,o,p,q⟩
  ·rfl
  simp_all[ic]
 rcases iw c g with⟨rfl,rfl⟩|⟨t,s,u,rfl,o,p,q⟩
 ·simp_all[ic]
 simp_all[ic]
theorem ta {ev:Operand->Option TV} (f:il ρ H X w ev b) {g j:Operand} {len cap c:Nat} (p:d7 ev (some e) 0=some n) (o:d7 ev (some g) 0=some m) (q:d7 ev (some j) 0=some c) (F:n<=m) (G:m<=c) (I:c<=cap):
  (Instr.sliceBounds true len cap (some (b e)) (some (b g)) (some (b j))).run P w= .ok (n,m,c) w:=by
 unfold Instr.sliceBounds;rcases iw f p with⟨m,_⟩|⟨y,k,z,J,t,u,v⟩
 ·cases m
 rcases iw f o with⟨m,_⟩|⟨M,K,O,r,x,A,B⟩
 ·cases m
 rcases iw f q with⟨m,_⟩|⟨N,L,Q,s,C,D,E⟩
 ·cases m
 simp_all[ic]
theorem Gh {ev:Operand->Option TV} (C:il ρ H X w ev b) (al: ∀(a r:Nat) (h:OObj),(H a)[r]?=some h->objRel ρ H X w a r h) {hi mx:Option Operand} (ho:h.op= .slice c e f hi mx) (s:bT P ev H h.op=some j): ∃v,(execOp b h).run P w= .ok (.value v) w/\j.rel ρ H X w v:=by
 unfold execOp;rw[ho]at s⊢;cases mx with
 |some mx=>
  cases f with
  |none=>grind [bT]
  |some f=>
  cases hi with
  |none=>grind [bT]
  |some hi=>
  simp only[bT]at s;split at s
  ·rename_i el a r F len Y O;obtain⟨J,R,g2,g3⟩:=C e _ O;have G:=dI Y;split at s
   ·rename_i l L m ap M D ah B;rw[R]at B;injection B with B
    subst B;split at s
    ·rename_i A;obtain⟨Q,c2,c3,c4,c5⟩:=A;injection s with s
     subst s;rcases g3 with⟨_,_,h0,_⟩|⟨g,p,cap,E,N,I,Z⟩
     ·omega
     refine⟨_,eh ?_,J,R,by omega,.inr ⟨g,p,m-l,E,rfl,by omega,fun s=>by omega⟩⟩;unfold Instr.sliceAt;simp only[aax,run_underlying G,aan];unfold Instr.slice;simp only[aax,run_underlying G,aan,N,abv];rw[ta C M D ah (by omega) c3 (by omega),aan];simp only[aax,dU Q,aan,abc];grind [Addr.add_lit]
    cases s
   cases s
  cases s
 |none=>
 simp only[bT]at s;split at s
 ·rename_i el S Y O;have O:=C e _ O;generalize ab:b e=vx at*
  split at s
  ·rename_i l L n M D av;split at s
   ·rename_i A;injection s with s
    subst s;obtain⟨Q,c2,c3⟩:=A;have G:=dI Y;cases O with
    |nil a p=>
     have ae:L=0:=by grind
     subst ae;have af:l=0:=by omega
     subst af;refine⟨.slice (if p=0 then a else a.map (·.add (0*n))) (0-0) (p-0),eh ?_,?_⟩
     ·unfold Instr.sliceAt;simp only[aax,run_underlying G,aan];unfold Instr.slice;simp only[aax,run_underlying G,aan,ab,acF];rw[ff C M (show d7 ev hi 0=some 0 from D) (aar _) (aaW _),aan];simp_all[dU]
     simp only[List.take_nil,List.drop_nil];exact bM.nil _ _
    |sl g F es cap S q hX hb ad I hm ac W=>
     refine⟨.slice (if cap=l then some ⟨g,F,none⟩else(some (⟨g,F,none⟩:Addr)).map (·.add (l*n))) (L-l) (cap-l),eh ?_,?_⟩
     ·unfold Instr.sliceAt;simp only[aax,run_underlying G,aan];unfold Instr.slice;simp only[aax,run_underlying G,aan,ab,acF];rw[ff C M D Q (by omega),aan];simp_all[dU]
     show bM _ _ _ _;have V:((S.take L).drop l).length=L-l:=by simp;omega
     by_cases ag:l=L
     ·subst ag;rw[show(S.take l).drop l=[] by simp];rw[abC];exact bM.nil _ _
     rw[if_neg (by omega)];simp only[abv,acI];rw[<- V];have U:es=n:=by
      cases a0:S with
      |nil=>grind
      |cons y ys=>simp_all
     subst U;have aa: ∀(i:Nat) y,((S.take L).drop l)[i]?=some y->S[l+i]?=some y:=fun i y hy=>by
      grind
     refine .sl g (F+l*es) es (cap-l) _ (fun i u=>q (l+i) u) hX hb (fun y hy=>ad y (abJ (abX hy))) (by omega) (by omega) (fun i y u z h1 h2=>?_) (fun i y u z h1 h2=>W _ y u z (aa i y h1) h2);grind
   cases s
  cases s
 ·rename_i el a r F len Y O;obtain⟨J,R,g2,g3⟩:=C e _ O;have G:=dI Y;split at s
  ·rename_i l L ap M D B;rw[R]at B;injection B with B
   subst B;have K: ∀g p,ρ a r=some (g,p)->J.elems.length<=p:=fun g p E=>by
    obtain⟨_,_,h3⟩:=al a r J R;grind
   split at s
   ·rename_i A;obtain⟨Q,c2,c3⟩:=A;injection s with s
    subst s;rcases g3 with⟨_,_,h0,_⟩|⟨g,p,cap,E,N,I,Z⟩
    ·omega
    have:=K g p E;refine⟨_,eh ?_,J,R,by omega,.inr ⟨g,p,cap-l,E,rfl,by omega,fun s=>by omega⟩⟩;unfold Instr.sliceAt;simp only[aax,run_underlying G,aan];unfold Instr.slice;simp only[aax,run_underlying G,aan,N,acF];rw[ff C M D (by omega) (by omega),aan];simp only[aax,dU Q,aan,abc];grind [Addr.add_lit]
   split at s
   ·rename_i A;obtain⟨Q,c2,c3⟩:=A;injection s with s
    subst s;subst c2;rcases g3 with⟨_,N,h0,_⟩|⟨g,p,cap,E,N,I,Z⟩
    ·refine⟨.slice (if 0=l then none else(none:Option Addr).map (·.add (l*J.es))) 0 (0-l),eh ?_,bM.nil _ _⟩;unfold Instr.sliceAt;simp only[aax,run_underlying G,aan];unfold Instr.slice;simp only[aax,run_underlying G,aan,N,acF];subst h0;rw[ff C M D (by omega) (by omega),aan];simp_all[dU]
    have:=K g p E;refine⟨.slice (if cap=l then some ⟨g,F*J.es,none⟩else(some (⟨g,F*J.es,none⟩:Addr)).map (·.add (l*J.es))) 0 (cap-l),eh ?_,bM.nil _ _⟩;unfold Instr.sliceAt;simp only[aax,run_underlying G,aan];unfold Instr.slice;simp only[aax,run_underlying G,aan,N,acF];rw[ff C M D (by omega) (by omega),aan];simp_all[dU]
   cases s
  cases s
 cases s
theorem yp {ev:Operand->Option TV} (m:il ρ H X w ev b) (p:h.op= .nilCheck e) (g:bT P ev H h.op=some j): ∃v,(execOp b h).run P w= .ok (.value v) w/\j.rel ρ H X w v:=by
 unfold execOp;rw[p]at g⊢;simp only[bT]at g;split at g
 ·rename_i u n;obtain⟨f,t,s,B,C⟩:=iN (ρ:=ρ) (H:=H) (m e _ n);injection g with g
  subst g;refine⟨b e,?_,m e _ n⟩;simp_all
 ·rename_i a r i l n;have q:=m e _ n;obtain⟨D,f,c,y,z,A,s⟩:=q;injection g with g
  subst g;refine⟨b e,?_,m e _ n⟩;simp_all
 cases g
theorem TO {e f:TypeId} {a:Option Addr} (b:P.underlying c=some (.slice e)):(Builtin.len_ #[c] f #[.slice a n m]).run P w= .ok (goInt n) w:=by
 simp[Builtin.len_,run_underlying b]
theorem NY {ev:Operand->Option TV} (p:il ρ H X w ev b) {args:Array Operand} {argTypes:Array TypeId} (z:h.op= .call {callee:= .builtin .len,args,argTypes}) (l:bT P ev H h.op=some j): ∃v,(execOp b h).run P w= .ok (.value v) w/\j.rel ρ H X w v:=by
 unfold execOp;rw[z]at l⊢;simp only[bT]at l;obtain⟨args⟩:=args;obtain⟨argTypes⟩:=argTypes;split at l
 ·rename_i x t m u;simp only at m u;subst m u;have key: ∀a n c el,dn P t=some el->b x= .slice a n c->j= .raw (.int .i64 n)-> ∃v,(do let d<- resolve b {callee:= .builtin .len,args:=⟨[x]⟩,argTypes:=⟨[t]⟩} h.type;invoke d.target d.args:Sem Next).run P w= .ok (.value v) w/\j.rel ρ H X w v:=by
   intro a n c el q A y;subst y;refine⟨.int .i64 n,?_,b7 rfl⟩;simp only[resolve,invoke,builtin,aax,abc,aan,ac7,aaI,aaY,A,TO (dI q)];rfl
  split at l
  ·rename_i el C q m;injection l with l
   have m:=p x _ m;generalize B:b x=J at m;cases m with
   |nil a c=>grind
   |sl g s D cap C f=>grind
  ·rename_i el a r s len q m;injection l with l
   obtain⟨I,E,F,G⟩:=p x _ m;grind
  ·rename_i el a n c q m;injection l with l
   exact key _ _ _ _ q (aX (p x _ m)).1 l.symm
  cases l
 cases l
end
end
section
section
variable {P:Program} {ρ:Rho} {H:OH} {X:Nat->Prop} {w:World}
def me (ρ:Rho) (H:OH) (X:Nat->Prop) (w:World) (b:List AV) (vs:Array Value):Prop:=
 vs.size=b.length/\ ∀(j:Nat) x,b[j]?=some x-> ∃u:Value,vs[j]?=some u/\u.oneCell'=true/\x.rel ρ H X w u
theorem fg (h:l.oneCell'=true):l.cells= #[l]:=by cases l<;>first|rfl|cases h
theorem iU (h:cellsOf j=some g) (n:j.rel ρ H X w l):me ρ H X w g l.cells:=by
 unfold cellsOf at h;split at h
 ·rename_i x;injection h with h
  subst h;have f:l.oneCell'=true:=bM.one n;rw[fg f];refine⟨rfl,fun e y m=>?_⟩;cases e with
  |zero=>simp at m;subst m;exact⟨l,rfl,f,n⟩
  |succ e=>simp at m
 ·rename_i a r q len;injection h with h
  subst h;have f:l.oneCell'=true:=by
   obtain⟨o,_,_,h|⟨b,c,cap,_,h,_⟩⟩:=n
   ·rw[h.2.1];rfl
   rw[h];rfl
  rw[fg f];refine⟨rfl,fun e y m=>?_⟩;cases e with
  |zero=>simp at m;subst m;exact⟨l,rfl,f,n⟩
  |succ e=>simp at m
 ·injection h with h
  subst h;obtain⟨vs,rfl,f,p⟩:=n;exact⟨f,p⟩
 cases h
theorem Ee {z:List Value} (h:z.all (·.oneCell')=true):me ρ H X w (z.map AV.raw) z.toArray:=by
 simp only[aat]at h;refine⟨by simp,fun j x b=>?_⟩;rw[aam]at b;cases e:z[j]? with
 |none=>grind
 |some u=>
  rw[e]at b;simp at b;subst b;have c:=h u (aai e);exact⟨u,by grind,c,bM.raw u c⟩
theorem sI (b:Nat): ∀(vs:List Value) (k:Nat) (cells:Array Value),b+k+vs.length<=cells.size->
  ((vs.zipIdx k).foldl (fun e (c,j)=>e.setIfInBounds (b+j) c) cells).size=cells.size/\
  ∀j:Nat,((vs.zipIdx k).foldl (fun e (c,j)=>e.setIfInBounds (b+j) c) cells)[j]?=if b+k<=j/\j<b+k+vs.length then vs[j-(b+k)]? else cells[j]?
 |[],k,cells,_=>⟨rfl,fun j=>by simp_all[if_neg]⟩
 |v::vs,k,cells,h=>by
  simp at h;obtain⟨f,g⟩:=sI b vs (k+1) (cells.setIfInBounds (b+k) v) (by simp;omega);grind [List.zipIdx_cons]
theorem BT {c:Type} {l b:List c} (h:n+b.length<=l.length) (j:Nat):
  (l.take n++b++l.drop (n+b.length))[j]?=if n<=j/\j<n+b.length then b[j-n]? else l[j]?:=by
 grind [List.getElem?_append_right]
theorem Ns {f:List AV} {vs b:Array Value} (m:me ρ H X w g vs) (o:me ρ H X w f b) (h:n+f.length<=g.length):
  me ρ H X w (g.take n++f++g.drop (n+f.length)) (b.zipIdx.foldl (fun g (c,j)=>g.setIfInBounds (n+j) c) vs):=by
 obtain⟨b⟩:=b;have r:b.length=f.length:=o.1;have p:=sI n b 0 vs (by rw[m.1];simp;omega);have e:(b.toArray.zipIdx.foldl (fun g (c,j)=>g.setIfInBounds (n+j) c) vs)=((b.zipIdx 0).foldl (fun g (c,j)=>g.setIfInBounds (n+j) c) vs):=by
  simp
 rw[e];refine⟨by rw[p.1,m.1];simp;omega,fun j x l=>?_⟩;rw[BT h]at l;rw[p.2 j];split at l
 ·rename_i q;rw[if_pos (by omega)];obtain⟨u,s,t⟩:=o.2 _ _ l;grind
 rename_i q;rw[if_neg (by omega)];exact m.2 _ _ l
theorem wu {r:List (Nat×Nat)} {ev:Operand->Option TV} {e:Operand->Value} (j:il ρ H X w ev e): ∀(parts:List (Nat×Operand)) (m b:List AV) (vs:Array Value),
  me ρ H X w m vs->j6 r ev m parts=some b-> ∃g,Instr.fill (r.toArray[·]?) vs (parts.map fun(i,x)=>(i,e x))=some g/\me ρ H X w b g
 |[],m,b,vs,h,c=>by simp only[j6]at c;injection c with c;subst c;exact⟨vs,rfl,h⟩
 |(f,x)::l,m,b,vs,h,c=>by
  simp only[j6]at c;split at c
  ·rename_i q n E F D;obtain⟨t,C,p⟩:=aaG.1 D;split at c
   ·rename_i B;obtain⟨u,v⟩:=B;subst u;have s:=iU p (j x t C);have y:=Ns h s v;obtain⟨g,z,A⟩:=wu j l _ b _ y c;refine⟨g,?_,A⟩;simp only[aaI,Instr.fill];have o:r.toArray[f]?=some (q,E.length):=by grind
    rw[o];simp only;rw[if_neg]
    ·exact z
    simp only[acm,decide_eq_true_eq];have:=s.1;have:=h.1;omega
   cases c
  cases c
theorem Ge {ev:Operand->Option TV} (s:il ρ H X w ev b) {parts:Array (Nat×Operand)} (G:h.op= .build c parts) (f:bT P ev H h.op=some j): ∃v,(execOp b h).run P w= .ok (.value v) w/\j.rel ρ H X w v:=by
 unfold execOp;rw[G]at f⊢;simp only[bT]at f;split at f
 ·rename_i z A m g;split at f
  ·rename_i q;cases u:j6 A ev (z.map AV.raw) parts.toList with
   |none=>grind
   |some B=>
    rw[u]at f;simp at f;subst f;obtain⟨vs,K,C,D⟩:=wu s parts.toList _ B _ (Ee q) u;refine⟨.agg vs,eh (run_build w c _ vs ?_),vs,rfl,C,D⟩;unfold Program.built;unfold dw at m;cases E:P.info? c with
    |none=>grind
    |some y=>
     rw[E]at m;unfold gA at g;cases I:P.underlying c with
     |none=>grind
     |some d=>
      rw[I]at g;cases d<;>simp at g
      case array n el=>
       cases F:P.info? el with
       |none=>grind
       |some M=>
       have r:A=[]:=by
        grind
       subst r;have x:parts.toList=[]:=by
        cases L:parts.toList with
        |nil=>rfl
        |cons p N=>grind [j6]
       cases l:y.zero with
       |none=>grind
       |some J=>
        simp[l]at m;subst m;simp_all[Instr.fill]
      case struct fs=>
      cases l:y.zero with
      |none=>grind
      |some J=>
       simp[l]at m;subst m;simp_all
  cases f
 cases f
theorem bV {ev:Operand->Option TV}: ∀{l:List Operand} {b:List TV},fA ev l=some b->b.length=l.length/\ ∀(j:Nat) t,b[j]?=some t-> ∃x,l[j]?=some x/\ev x=some t
 |[],b,h=>by grind [fA]
 |x::l,b,h=>by
  simp only[fA]at h;split at h
  ·rename_i t e m c;injection h with h
   subst h;obtain⟨f,g⟩:=bV c;grind
  cases h
theorem pq: ∀{e:List TV} {b:List AV},iT e=some b->b.length=e.length/\ ∀(j:Nat) x,b[j]?=some x->e[j]?=some (.one x)/\x≠ .junk
 |[],b,h=>by grind [iT]
 |t::l,b,h=>by
  cases t with
  |one x=>
   by_cases o:x= .junk
   ·simp_all[iT]
   have key:iT (.one x::l)=(match iT l with|some b=>some (x::b)|none=>none):=by
    cases x<;>first|rfl|grind
   rw[key]at h;split at h
   ·rename_i c g;injection h with h
    subst h;obtain⟨m,n⟩:=pq g;grind
   cases h
  |agg c=>grind [iT]
  |tup e=>grind [iT]
  |fn f c=>grind [iT]
theorem FQ {x:AV} (g:x≠ .junk) (h:x.rel ρ H X w l):l.oneCell'=true:=by
 cases x with
 |p x=>exact bM.one h
 |sl a r e len=>
  obtain⟨o,_,_,h|⟨b,c,cap,_,h,_⟩⟩:=h
  ·rw[h.2.1];rfl
  rw[h];rfl
 |ptr a r i j=>obtain⟨o,b,c,_,_,_,h⟩:=h;rw[h];rfl
 |junk=>grind
 |fn f a m=>obtain⟨vs,h,_⟩:=h;rw[h];rfl
theorem yo {ev:Operand->Option TV} (n:il ρ H X w ev b) {q:Fn} {first l:Array Operand} (B:h.op= .makeFunc q first l) (c:bT P ev H h.op=some j): ∃v,(execOp b h).run P w= .ok (.value v) w/\j.rel ρ H X w v:=by
 rw[B]at c;cases q with
 |func f=>
  simp only[bT]at c;split at c
  ·rename_i I;obtain⟨E,m,rfl⟩:=aak.1 c;obtain⟨J,p,A⟩:=aaG.1 m;obtain⟨F,s⟩:=bV p;obtain⟨G,t⟩:=pq A;refine⟨.func (.func f) #[] (l.map b),?_,.agg (l.map b),⟨l.map b,rfl,?_,fun g x C=>?_⟩,rfl⟩
   ·grind [execOp,Instr.makeFunc,Sem.run_pure]
   ·grind
   obtain⟨u,z⟩:=t g x C;obtain⟨y,K,D⟩:=s g _ u;have r:=n y _ D;refine⟨b y,?_,FQ z r,r⟩;grind
  cases c
 |_=>grind [bT]
theorem wn {ev:Operand->Option TV} (p:il ρ H X w ev b) (q: ∀(a r:Nat) (h:OObj),(H a)[r]?=some h->objRel ρ H X w a r h) (l:bT P ev H h.op=some j): ∃v,(execOp b h).run P w= .ok (.value v) w/\j.rel ρ H X w v:=by
 cases n:h.op
 case load t x=>grind [KU]
 case indexAddr t x i=>grind [wm]
 case fieldAddr t x f=>grind [wl]
 case field t x f=>grind [Gf]
 case index t x i=>grind [Gg]
 case slice t x lo hi mx=>grind [Gh]
 case build t parts=>grind [Ge]
 case nilCheck x=>grind [yp]
 case makeFunc fn first captured=>grind [yo]
 case call c=>
  obtain⟨callee,args,argTypes⟩:=c;cases callee with
  |builtin g=>
   cases g
   case len=>grind [NY]
   all_goals (rw[n]at l;simp only[bT]at l;cases l)
  |value f=>grind [bT]
  |invoke r m=>grind [bT]
 all_goals (rw[n]at l;simp only[bT]at l;cases l)
end
end
end Go.Proofs.YtalmoejhjceflaaGreat
