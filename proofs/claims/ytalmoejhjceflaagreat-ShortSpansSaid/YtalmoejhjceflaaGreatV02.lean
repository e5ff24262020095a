/-
  Part 3 of a proof (walks and plain facts).
-/
import Derived.Test.YtalmoejhjceflaaGreatV01
set_option linter.all false
set_option maxRecDepth 100000
set_option maxHeartbeats 64000000
namespace Go.Proofs.YtalmoejhjceflaaGreat
open Go.RowKit
variable {n m j:Nat} {b:Operand->Value} {c:TypeId} {e f:Nat->Prop} {g:Operand} {h:Value} {l:TV} {o:Option Operand} {p:List AV} {q:Oper} {r:Nat->Option (Nat×Nat)} {s:List OObj} {t:OH} {u:Rho} {v:OObj} {w:AS} {x:AV}
section
section
variable {P:Program} {ρ:Rho} {H:OH} {X:Nat->Prop} {w:World}
theorem o6 (h:szO P c=some n): ∃i,P.info? c=some i/\i.size=n:=by
 unfold szO at h;simp_all
theorem Gf {i:TypeInfo} (h:P.info? c=some i):(typeInfo c).run P w= .ok i w:=by
 simp_all[typeInfo]
theorem fG (h:szO P c=some n):(sizeOf c).run P w= .ok n w:=by
 obtain⟨i,b,e⟩:=o6 h;simp_all[sizeOf,Gf]
theorem vY {b:Bool} (h:iI P c=some b):(isAgg c).run P w= .ok b w:=by
 unfold iI at h;cases e:P.underlying c with
 |none=>grind
 |some d=>
  rw[e]at h;unfold isAgg;rw[aeU,run_underlying e,aeH];cases d<;>simp at h<;>subst h<;>rfl
theorem eG {e:TypeId} (h:sliceO P c=some e):P.underlying c=some (.slice e):=by
 unfold sliceO at h;cases b:P.underlying c with
 |none=>grind
 |some d=>grind
theorem qV {e:TypeId} (h:dr P c n=some (m,e)): ∃b d,P.underlying c=some (.struct b)/\b[n]?=some d/\d.offset=m/\d.type=e:=by
 unfold dr at h;cases g:P.underlying c with
 |none=>grind
 |some d=>
  grind
def rW (ρ:Rho) (H:OH) (X:Nat->Prop) (w:World) (b c:Nat) (e:List AV):Prop:=
 ∀(j:Nat) x,e[j]?=some x-> ∃v:Value,w.cell? ⟨b,c+j,none⟩=some v/\v.oneCell'=true/\x.rel ρ H X w v
theorem pE {cs:List AV} (h:rW ρ H X w n m cs) (k:Nat):rW ρ H X w n (m+k) (cs.drop k):=by
 intro j x c;rw[agL]at c;obtain⟨v,e,f⟩:=h _ _ c;grind
theorem ES {b off:Nat} {cs:List AV} (h:rW ρ H X w b off cs):
  ∃vs:List Value,vs.length=cs.length/\(∀(j:Nat) v,vs[j]?=some v->w.cell? ((⟨b,off,none⟩:Addr).add j)=some v)/\(∀(j:Nat) x,cs[j]?=some x-> ∃u:Value,vs[j]?=some u/\u.oneCell'=true/\x.rel ρ H X w u):=by
 induction cs generalizing off with
 |nil=>simp
 |cons c cs e=>
  obtain⟨v,f,g,l⟩:=h 0 c rfl;obtain⟨vs,l1,o,p⟩:=e (off:=off+1) (pE (cs:=c::cs) h 1);refine⟨v::vs,by simp[l1],fun j u m=>?_,fun j x n=>?_⟩
  ·grind [Addr.add_lit]
  grind
theorem tY (h:nJ P c p=some l) (q:rW ρ H X w n m p):
  ∃v,(loadVar c ⟨n,m,none⟩).run P w= .ok v w/\l.rel ρ H X w v:=by
 unfold nJ at h;split at h
 ·rename_i f r o;split at h
  ·rename_i A;injection h with h
   subst h;obtain⟨vs,l1,u,B⟩:=ES (cs:=p.take f) (b:=n) (off:=m) (fun j x g=>by
    rw[ag3]at g;split at g
    ·exact q j x g
    cases g)
   refine⟨.agg vs.toArray,?_,vs.toArray,rfl,by simp[l1],fun j x g=>?_⟩
   ·unfold loadVar;rw[aeU,vY o,aeH,if_pos rfl,aeU,fG r,aeH];have:=run_loadCells_list (P:=P) w ⟨n,m,none⟩ vs u;simp_all
   grind
  cases h
 ·rename_i r o;split at h
  ·rename_i x e;injection h with h
   subst h;obtain⟨v,y,z,s⟩:=q 0 x rfl;refine⟨v,?_,s⟩;simp_all[loadVar,vY]
  cases h
 cases h
theorem lg {g:List PV} (c:bS X w (.ptr g) h): ∃b e,h= .pointer (some ⟨b,e,none⟩)/\ ¬X b/\rW ρ H X w b e (g.map AV.p):=by
 cases c with
 |ptr b e g f o r q n=>
  refine⟨b,e,rfl,o,fun j x m=>?_⟩;rw[aeG]at m;cases l:g[j]? with
  |none=>grind
  |some y=>
   rw[l]at m;simp at m;subst m;exact⟨f j,q j y l,(n j y l).one,n j y l⟩
theorem vT {c:List PV} {k:Nat} (h:bS X w (.ptr c) (.pointer (some ⟨n,m,none⟩))):bS X w (.ptr (c.drop k)) (.pointer (some ⟨n,m+k,none⟩)):=by
 cases h with
 |ptr n m c f e g o p=>
  refine .ptr n (m+k) (c.drop k) (fun j=>f (k+j)) e g (fun j x l=>?_) (fun j x l=>?_)
  ·grind
  grind
theorem DX {a:Nat} {i:Nat} (l:objRel ρ H X w a n v) (g:ρ a n=some (m,j)) (q:v.elems[i]?=some p):rW ρ H X w m (i*v.es) p:=by
 obtain⟨_,_,h⟩:=l;rw[g]at h;obtain⟨cells,s,_,_,_,t⟩:=h;intro f x u;grind [World.cell?]
theorem ud {z:Int} (h:DP z=some n):0<=z/\z.toNat=n:=by
 grind [DP]
theorem QP {ev:Operand->Option TV} (p:ku ρ H X w ev b) (z: ∀(a r:Nat) (q:OObj),(H a)[r]?=some q->objRel ρ H X w a r q) (F:q.op= .load c g) (h:b9 P ev H q.op=some l): ∃v,(execOp b q).run P w= .ok (.value v) w/\l.rel ρ H X w v:=by
 unfold execOp;rw[F]at h⊢;simp only[b9]at h;split at h
 ·rename_i J B;obtain⟨f,I,A,L,E⟩:=lg (ρ:=ρ) (H:=H) (p g _ B);obtain⟨v,s,u⟩:=tY h E;refine⟨v,gA ?_,u⟩;rw[A];exact s
 ·rename_i a r i j B;obtain⟨M,f,m,s,u,K,A⟩:=p g _ B;split at h
  ·rename_i G n;rw[s]at n;injection n with n
   subst n;split at h
   ·rename_i el y;obtain⟨v,C,D⟩:=tY h (pE (DX (z a r _ s) u y) j);refine⟨v,gA ?_,D⟩;rw[A];exact C
   cases h
  cases h
 cases h
theorem AQ {ev:Operand->Option TV} (z:ku ρ H X w ev b) (ad: ∀(a r:Nat) (q:OObj),(H a)[r]?=some q->objRel ρ H X w a r q) {ix:Operand} (ho:q.op= .indexAddr c g ix) (h:b9 P ev H q.op=some l): ∃v,(execOp b q).run P w= .ok (.value v) w/\l.rel ρ H X w v:=by
 unfold execOp;rw[ho]at h⊢;simp only[b9]at h;split at h
 ·rename_i k n V;have N:=(bo (z ix _ V)).1;split at h
  ·cases h
  rename_i i L;obtain⟨I,L⟩:=ud L;split at h
  ·rename_i el xs G B;have B:=z g _ B;split at h
   ·rename_i s K;split at h
    ·rename_i A;injection h with h
     subst h;generalize W:b g=vx at*
     have U:i<xs.length:=(aeI.1 K).1;cases B with
     |nil a s=>simp at U
     |sl p u R cap xs f hX hb S aa hm E O=>
      have ab:s.length=R:=S s (adQ K);refine⟨.pointer (some ⟨p,u+i*R,none⟩),gA ?_,.ptr p (u+i*R) s (f i) hX hb (fun j y Y=>E i s j y K Y) (fun j y Y=>O i s j y K Y)⟩;unfold Instr.indexAt;rw[N,W,aeU];show Result.andThen (.ok (k,n) w) _=_;rw[aeH];simp only[aeU,run_underlying (eG G),aeH,afC];rw[if_pos ⟨I,by omega⟩,aeU,fG A,aeH];simp_all[ahg]
    cases h
   cases h
  ·rename_i el a r u len G B;obtain⟨Q,h1,h2,h3⟩:=z g _ B;split at h
   ·rename_i ae C;rw[h1]at C;injection C with C
    subst C;split at h
    ·rename_i F;injection h with h
     subst h;rcases h3 with⟨_,_,ac,_⟩|⟨p,s,cap,Z,D,_⟩
     ·omega
     refine⟨.pointer (some ⟨p,(u+i)*Q.es+0,none⟩),gA ?_,Q,p,s,h1,Z,by omega,rfl⟩;unfold Instr.indexAt;rw[N,D,aeU];show Result.andThen (.ok (k,n) w) _=_;rw[aeH];simp only[aeU,run_underlying (eG G),aeH,afC];rw[if_pos ⟨I,by omega⟩,aeU,fG F.1,aeH];simp_all[ahg,ahr]
    cases h
   cases h
  ·rename_i cs G B;split at h
   ·rename_i m el J;split at h
    ·rename_i sz A;split at h
     ·rename_i M;injection h with h
      subst h;obtain⟨p,u,D,hX,K⟩:=lg (ρ:=ρ) (H:=H) (z g _ B);have hr:=z g _ B;rw[D]at hr;refine⟨.pointer (some ⟨p,u+i*sz,none⟩),gA ?_,vT hr⟩;unfold Instr.indexAt;rw[N,D,aeU];show Result.andThen (.ok (k,n) w) _=_;rw[aeH];simp only[aeU,run_underlying (lz J),aeH,afC,Instr.sureAddr];rw[if_pos ⟨I,by omega⟩,aeU,fG A,aeH,L,ahg];rfl
     cases h
    cases h
   cases h
  ·rename_i a r kk j G B;split at h
   ·rename_i m el J;split at h
    ·rename_i sz A;split at h
     ·rename_i M;injection h with h
      subst h;obtain⟨Q,p,s,g1,g2,g3,D⟩:=z g _ B;refine⟨.pointer (some ⟨p,kk*Q.es+(j+i*sz),none⟩),gA ?_,Q,p,s,g1,g2,g3,rfl⟩;unfold Instr.indexAt;rw[N,D,aeU];show Result.andThen (.ok (k,n) w) _=_;rw[aeH];simp only[aeU,run_underlying (lz J),aeH,afC,Instr.sureAddr];rw[if_pos ⟨I,by omega⟩,aeU,fG A,aeH,L,ahg,ahc];rfl
     cases h
    cases h
   cases h
  ·rename_i p u G B;split at h
   ·rename_i m el J;split at h
    ·rename_i sz A;split at h
     ·rename_i M;injection h with h
      subst h;have D:=(bo (z g _ B)).1;refine⟨.pointer (some ⟨p,u+i*sz,none⟩),gA ?_,dc rfl⟩;unfold Instr.indexAt;rw[N,D,aeU];show Result.andThen (.ok (k,n) w) _=_;rw[aeH];simp only[aeU,run_underlying (lz J),aeH,afC,Instr.sureAddr];rw[if_pos ⟨I,by omega⟩,aeU,fG A,aeH,L,ahg];rfl
     cases h
    cases h
   cases h
  cases h
 cases h
theorem AP {ev:Operand->Option TV} (u:ku ρ H X w ev b) (N:q.op= .fieldAddr c g n) (h:b9 P ev H q.op=some l): ∃v,(execOp b q).run P w= .ok (.value v) w/\l.rel ρ H X w v:=by
 unfold execOp;rw[N]at h⊢;simp only[b9]at h;split at h
 ·rename_i D I Q B y;obtain⟨m,U,C,R,S⟩:=lg (ρ:=ρ) (H:=H) (u g _ y);have y:=u g _ y;split at h
  ·rename_i s z;injection h with h
   subst h;obtain⟨G,d,A,E,M,F⟩:=qV B;rw[C]at y;refine⟨_,gA ?_,vT y⟩;unfold Instr.fieldAt;rw[aeU,run_underlying A,aeH];simp_all[Instr.sureAddr,fieldPlace,fG,ahg]
  cases h
 ·rename_i D I a r i j B y;obtain⟨O,m,p,J,K,L,C⟩:=u g _ y;split at h
  ·rename_i s z;injection h with h
   subst h;obtain⟨G,d,A,E,M,F⟩:=qV B;refine⟨_,gA ?_,O,m,p,J,K,L,rfl⟩;unfold Instr.fieldAt;rw[aeU,run_underlying A,aeH];simp only[E,C,Instr.sureAddr,aeU,afC,aeH,fieldPlace,F,fG z];grind [Sem.run_pure,Result.andThen_ok,Addr.add_lit]
  cases h
 cases h
end
end
section
section
variable {P:Program} {ρ:Rho} {H:OH} {X:Nat->Prop} {w:World}
theorem BB {vs:Array Value} (h:nJ P c (p.drop n)=some l) (z:vs.size=p.length) (r: ∀(j:Nat) x,p[j]?=some x-> ∃u:Value,vs[j]?=some u/\u.oneCell'=true/\x.rel ρ H X w u):
  ∃v,(part c vs n).run P w= .ok v w/\l.rel ρ H X w v:=by
 unfold nJ at h;split at h
 ·rename_i e m f;split at h
  ·rename_i g;injection h with h
   subst h;refine⟨.agg (vs.extract n (n+e)),?_,_,rfl,?_,fun j x o=>?_⟩
   ·unfold part;rw[aeU,vY f,aeH,if_pos rfl,aeU,fG m,aeH];rfl
   ·grind
   grind
  cases h
 ·rename_i m f;split at h
  ·rename_i x b g;injection h with h
   subst h;have o:p[n]?=some x:=by
    have:(p.drop n)[0]?=some x:=by rw[g];rfl
    grind
   obtain⟨u,s,y,q⟩:=r _ x o;refine⟨u,?_,q⟩;simp_all[part,vY]
  cases h
 cases h
theorem Li {ev:Operand->Option TV} (j:ku ρ H X w ev b) (r:q.op= .field c g n) (h:b9 P ev H q.op=some l): ∃v,(execOp b q).run P w= .ok (.value v) w/\l.rel ρ H X w v:=by
 unfold execOp;rw[r]at h⊢;simp only[b9]at h;split at h
 ·rename_i y B z p u;obtain⟨vs,J,s,m⟩:=j g _ u;obtain⟨A,d,E,F,G,I⟩:=qV p;obtain⟨v,C,D⟩:=BB h s m;simp_all[Instr.field,run_underlying,asAgg]
 cases h
theorem Lj {ev:Operand->Option TV} (f:ku ρ H X w ev b) {s:Operand} (E:q.op= .index c g s) (h:b9 P ev H q.op=some l): ∃v,(execOp b q).run P w= .ok (.value v) w/\l.rel ρ H X w v:=by
 unfold execOp;rw[E]at h⊢;simp only[b9]at h;split at h
 ·rename_i k n p;have D:=(bo (f s _ p)).1;split at h
  ·cases h
  rename_i i j;obtain⟨z,j⟩:=ud j;split at h
  ·rename_i m el J A I;split at h
   ·rename_i sz r;split at h
    ·rename_i C;obtain⟨vs,G,F,B⟩:=f g _ I;obtain⟨v,u,y⟩:=BB h F B;refine⟨v,gA ?_,y⟩;unfold Instr.index;rw[D,G,aeU];show Result.andThen (.ok (k,n) w) _=_;rw[aeH];simp only[aeU,run_underlying (lz A),aeH,afC];rw[if_pos ⟨z,by omega⟩,aeU,fG r,aeH,j,u]
    cases h
   cases h
  cases h
 cases h
theorem kE {ev:Operand->Option TV} (c:ku ρ H X w ev b) {d:Nat} (h:fQ ev o d=some n):
  (o=none/\n=d)\/ ∃y k z,o=some y/\b y= .int k z/\0<=z/\z.toNat=n:=by
 unfold fQ at h;split at h
 ·grind
 rename_i dd y;split at h
 ·rename_i k z j;obtain⟨f,g⟩:=ud h;exact .inr ⟨y,k,z,rfl,(bo (c y _ j)).1,f,g⟩
 cases h
theorem kf {k:IntKind} {z:Int} {c:BoundsCode} (b:0<=z) (e:z.toNat=m) (f:m<=n):(Instr.sliceBound (.int k z) n c).run P w= .ok m w:=by
 unfold Instr.sliceBound;show(if 0<=z/\z<=n then(pure z.toNat:Sem Nat)else boundsPanic k z n c).run P w=_;rw[if_pos ⟨b,by omega⟩,e];rfl
theorem gZ {ev:Operand->Option TV} (c:ku ρ H X w ev b) {g:Option Operand} {len cap:Nat} (r:fQ ev o 0=some n) (f:fQ ev g len=some m) (B:n<=m) (C:m<=cap):
  (Instr.sliceBounds true len cap (o.map b) (g.map b) none).run P w= .ok (n,m,cap) w:=by
 unfold Instr.sliceBounds;rcases kE c r with⟨rfl,rfl⟩|⟨y,k,z,rfl,v,x,A⟩
 ·rcases kE c f with⟨rfl,rfl⟩|⟨t,s,u,rfl,j,p,q⟩
  ·rfl
  simp_all[kf]
 rcases kE c f with⟨rfl,rfl⟩|⟨t,s,u,rfl,j,p,q⟩
 ·simp_all[kf]
 simp_all[kf]
theorem xR {ev:Operand->Option TV} (c:ku ρ H X w ev b) {f o:Operand} {len cap:Nat} (q:fQ ev (some g) 0=some n) (p:fQ ev (some f) 0=some m) (r:fQ ev (some o) 0=some j) (G:n<=m) (I:m<=j) (J:j<=cap):
  (Instr.sliceBounds true len cap (some (b g)) (some (b f)) (some (b o))).run P w= .ok (n,m,j) w:=by
 unfold Instr.sliceBounds;rcases kE c q with⟨m,_⟩|⟨y,k,z,K,u,v,x⟩
 ·cases m
 rcases kE c p with⟨m,_⟩|⟨N,L,Q,s,A,B,C⟩
 ·cases m
 rcases kE c r with⟨m,_⟩|⟨O,M,R,t,D,E,F⟩
 ·cases m
 simp_all[kf]
theorem Lk {ev:Operand->Option TV} (C:ku ρ H X w ev b) (ai: ∀(a r:Nat) (q:OObj),(H a)[r]?=some q->objRel ρ H X w a r q) {hi mx:Option Operand} (ho:q.op= .slice c g o hi mx) (h:b9 P ev H q.op=some l): ∃v,(execOp b q).run P w= .ok (.value v) w/\l.rel ρ H X w v:=by
 unfold execOp;rw[ho]at h⊢;cases mx with
 |some mx=>
  cases o with
  |none=>grind [b9]
  |some o=>
  cases hi with
  |none=>grind [b9]
  |some hi=>
  simp only[b9]at h;split at h
  ·rename_i el a r F len Y O;obtain⟨J,R,g2,g3⟩:=C g _ O;have G:=eG Y;split at h
   ·rename_i u L m an M D ah B;rw[R]at B;injection B with B
    subst B;split at h
    ·rename_i A;obtain⟨Q,c2,c3,c4,c5⟩:=A;injection h with h
     subst h;rcases g3 with⟨_,_,h0,_⟩|⟨p,s,cap,E,N,I,Z⟩
     ·omega
     refine⟨_,gA ?_,J,R,by omega,.inr ⟨p,s,m-u,E,rfl,by omega,fun h=>by omega⟩⟩;unfold Instr.sliceAt;simp only[aeU,run_underlying G,aeH];unfold Instr.slice;simp only[aeU,run_underlying G,aeH,N,afV];rw[xR C M D ah (by omega) c3 (by omega),aeH];simp only[aeU,fG Q,aeH,afC];grind [Addr.add_lit]
    cases h
   cases h
  cases h
 |none=>
 simp only[b9]at h;split at h
 ·rename_i el S Y O;have O:=C g _ O;generalize ab:b g=vx at*
  split at h
  ·rename_i u L n M D ap;split at h
   ·rename_i A;injection h with h
    subst h;obtain⟨Q,c2,c3⟩:=A;have G:=eG Y;cases O with
    |nil a s=>
     have ae:L=0:=by grind
     subst ae;have af:u=0:=by omega
     subst af;refine⟨.slice (if s=0 then a else a.map (·.add (0*n))) (0-0) (s-0),gA ?_,?_⟩
     ·unfold Instr.sliceAt;simp only[aeU,run_underlying G,aeH];unfold Instr.slice;simp only[aeU,run_underlying G,aeH,ab,aha];rw[gZ C M (show fQ ev hi 0=some 0 from D) (aeJ _) (afl _),aeH];simp_all[fG]
     simp only[List.take_nil,List.drop_nil];exact bS.nil _ _
    |sl p F es cap S f hX hb ad I hm ac W=>
     refine⟨.slice (if cap=u then some ⟨p,F,none⟩else(some (⟨p,F,none⟩:Addr)).map (·.add (u*n))) (L-u) (cap-u),gA ?_,?_⟩
     ·unfold Instr.sliceAt;simp only[aeU,run_underlying G,aeH];unfold Instr.slice;simp only[aeU,run_underlying G,aeH,ab,aha];rw[gZ C M D Q (by omega),aeH];simp_all[fG]
     show bS _ _ _ _;have V:((S.take L).drop u).length=L-u:=by simp;omega
     by_cases ag:u=L
     ·subst ag;rw[show(S.take u).drop u=[] by simp];rw[afO];exact bS.nil _ _
     rw[if_neg (by omega)];simp only[afV,ahg];rw[<- V];have U:es=n:=by
      cases av:S with
      |nil=>grind
      |cons y ys=>simp_all
     subst U;have aa: ∀(i:Nat) y,((S.take L).drop u)[i]?=some y->S[u+i]?=some y:=fun i y hy=>by
      grind
     refine .sl p (F+u*es) es (cap-u) _ (fun i j=>f (u+i) j) hX hb (fun y hy=>ad y (agf (agA hy))) (by omega) (by omega) (fun i y j z h1 h2=>?_) (fun i y j z h1 h2=>W _ y j z (aa i y h1) h2);grind
   cases h
  cases h
 ·rename_i el a r F len Y O;obtain⟨J,R,g2,g3⟩:=C g _ O;have G:=eG Y;split at h
  ·rename_i u L an M D B;rw[R]at B;injection B with B
   subst B;have K: ∀p s,ρ a r=some (p,s)->J.elems.length<=s:=fun p s E=>by
    obtain⟨_,_,h3⟩:=ai a r J R;grind
   split at h
   ·rename_i A;obtain⟨Q,c2,c3⟩:=A;injection h with h
    subst h;rcases g3 with⟨_,_,h0,_⟩|⟨p,s,cap,E,N,I,Z⟩
    ·omega
    have:=K p s E;refine⟨_,gA ?_,J,R,by omega,.inr ⟨p,s,cap-u,E,rfl,by omega,fun h=>by omega⟩⟩;unfold Instr.sliceAt;simp only[aeU,run_underlying G,aeH];unfold Instr.slice;simp only[aeU,run_underlying G,aeH,N,aha];rw[gZ C M D (by omega) (by omega),aeH];simp only[aeU,fG Q,aeH,afC];grind [Addr.add_lit]
   split at h
   ·rename_i A;obtain⟨Q,c2,c3⟩:=A;injection h with h
    subst h;subst c2;rcases g3 with⟨_,N,h0,_⟩|⟨p,s,cap,E,N,I,Z⟩
    ·refine⟨.slice (if 0=u then none else(none:Option Addr).map (·.add (u*J.es))) 0 (0-u),gA ?_,bS.nil _ _⟩;unfold Instr.sliceAt;simp only[aeU,run_underlying G,aeH];unfold Instr.slice;simp only[aeU,run_underlying G,aeH,N,aha];subst h0;rw[gZ C M D (by omega) (by omega),aeH];simp_all[fG]
    have:=K p s E;refine⟨.slice (if cap=u then some ⟨p,F*J.es,none⟩else(some (⟨p,F*J.es,none⟩:Addr)).map (·.add (u*J.es))) 0 (cap-u),gA ?_,bS.nil _ _⟩;unfold Instr.sliceAt;simp only[aeU,run_underlying G,aeH];unfold Instr.slice;simp only[aeU,run_underlying G,aeH,N,aha];rw[gZ C M D (by omega) (by omega),aeH];simp_all[fG]
   cases h
  cases h
 cases h
theorem CY {ev:Operand->Option TV} (m:ku ρ H X w ev b) (p:q.op= .nilCheck g) (h:b9 P ev H q.op=some l): ∃v,(execOp b q).run P w= .ok (.value v) w/\l.rel ρ H X w v:=by
 unfold execOp;rw[p]at h⊢;simp only[b9]at h;split at h
 ·rename_i y n;obtain⟨f,u,t,C,D⟩:=lg (ρ:=ρ) (H:=H) (m g _ n);injection h with h
  subst h;refine⟨b g,?_,m g _ n⟩;simp_all
 ·rename_i a r i j n;have s:=m g _ n;obtain⟨E,f,c,z,A,B,t⟩:=s;injection h with h
  subst h;refine⟨b g,?_,m g _ n⟩;simp_all
 cases h
theorem ZY {e f:TypeId} {a:Option Addr} (b:P.underlying c=some (.slice e)):(Builtin.len_ #[c] f #[.slice a n m]).run P w= .ok (goInt n) w:=by
 simp[Builtin.len_,run_underlying b]
theorem Uv {ev:Operand->Option TV} (m:ku ρ H X w ev b) {args:Array Operand} {argTypes:Array TypeId} (z:q.op= .call {callee:= .builtin .len,args,argTypes}) (h:b9 P ev H q.op=some l): ∃v,(execOp b q).run P w= .ok (.value v) w/\l.rel ρ H X w v:=by
 unfold execOp;rw[z]at h⊢;simp only[b9]at h;obtain⟨args⟩:=args;obtain⟨argTypes⟩:=argTypes;split at h
 ·rename_i x t j u;simp only at j u;subst j u;have key: ∀a n c el,sliceO P t=some el->b x= .slice a n c->l= .raw (.int .i64 n)-> ∃v,(do let d<- resolve b {callee:= .builtin .len,args:=⟨[x]⟩,argTypes:=⟨[t]⟩} q.type;invoke d.target d.args:Sem Next).run P w= .ok (.value v) w/\l.rel ρ H X w v:=by
   intro a n c el p A y;subst y;refine⟨.int .i64 n,?_,dc rfl⟩;simp only[resolve,invoke,builtin,aeU,afC,aeH,ahz,aeX,afh,A,ZY (eG p)];rfl
  split at h
  ·rename_i el C p j;injection h with h
   have j:=m x _ j;generalize B:b x=J at j;cases j with
   |nil a c=>grind
   |sl g s D cap C f=>grind
  ·rename_i el a r s len p j;injection h with h
   obtain⟨I,E,F,G⟩:=m x _ j;grind
  ·rename_i el a n c p j;injection h with h
   exact key _ _ _ _ p (bo (m x _ j)).1 h.symm
  cases h
 cases h
end
end
section
section
variable {P:Program} {ρ:Rho} {H:OH} {X:Nat->Prop} {w:World}
def pC (ρ:Rho) (H:OH) (X:Nat->Prop) (w:World) (b:List AV) (vs:Array Value):Prop:=
 vs.size=b.length/\ ∀(j:Nat) x,b[j]?=some x-> ∃u:Value,vs[j]?=some u/\u.oneCell'=true/\x.rel ρ H X w u
theorem ic (b:h.oneCell'=true):h.cells= #[h]:=by cases h<;>first|rfl|cases b
theorem lC (e:cellsOf l=some p) (m:l.rel ρ H X w h):pC ρ H X w p h.cells:=by
 unfold cellsOf at e;split at e
 ·rename_i x;injection e with e
  subst e;have f:h.oneCell'=true:=bS.one m;rw[ic f];refine⟨rfl,fun j y g=>?_⟩;cases j with
  |zero=>simp at g;subst g;exact⟨h,rfl,f,m⟩
  |succ j=>simp at g
 ·rename_i a r q len;injection e with e
  subst e;have f:h.oneCell'=true:=by
   obtain⟨o,_,_,e|⟨b,c,cap,_,e,_⟩⟩:=m
   ·rw[e.2.1];rfl
   rw[e];rfl
  rw[ic f];refine⟨rfl,fun j y g=>?_⟩;cases j with
  |zero=>simp at g;subst g;exact⟨h,rfl,f,m⟩
  |succ j=>simp at g
 ·injection e with e
  subst e;obtain⟨vs,rfl,f,n⟩:=m;exact⟨f,n⟩
 cases e
theorem Jk {z:List Value} (h:z.all (·.oneCell')=true):pC ρ H X w (z.map AV.raw) z.toArray:=by
 simp only[aeP]at h;refine⟨by simp,fun j x b=>?_⟩;rw[aeG]at b;cases e:z[j]? with
 |none=>grind
 |some u=>
  rw[e]at b;simp at b;subst b;have c:=h u (adQ e);exact⟨u,by grind,c,bS.raw u c⟩
theorem xh (b:Nat): ∀(vs:List Value) (k:Nat) (cells:Array Value),b+k+vs.length<=cells.size->
  ((vs.zipIdx k).foldl (fun e (c,j)=>e.setIfInBounds (b+j) c) cells).size=cells.size/\
  ∀j:Nat,((vs.zipIdx k).foldl (fun e (c,j)=>e.setIfInBounds (b+j) c) cells)[j]?=if b+k<=j/\j<b+k+vs.length then vs[j-(b+k)]? else cells[j]?
 |[],k,cells,_=>⟨rfl,fun j=>by simp_all[if_neg]⟩
 |v::vs,k,cells,h=>by
  simp at h;obtain⟨f,g⟩:=xh b vs (k+1) (cells.setIfInBounds (b+k) v) (by simp;omega);grind [List.zipIdx_cons]
theorem Gi {c:Type} {l b:List c} (h:n+b.length<=l.length) (j:Nat):
  (l.take n++b++l.drop (n+b.length))[j]?=if n<=j/\j<n+b.length then b[j-n]? else l[j]?:=by
 grind [List.getElem?_append_right]
theorem TJ {f:List AV} {vs b:Array Value} (l:pC ρ H X w p vs) (m:pC ρ H X w f b) (h:n+f.length<=p.length):
  pC ρ H X w (p.take n++f++p.drop (n+f.length)) (b.zipIdx.foldl (fun p (c,j)=>p.setIfInBounds (n+j) c) vs):=by
 obtain⟨b⟩:=b;have r:b.length=f.length:=m.1;have o:=xh n b 0 vs (by rw[l.1];simp;omega);have e:(b.toArray.zipIdx.foldl (fun p (c,j)=>p.setIfInBounds (n+j) c) vs)=((b.zipIdx 0).foldl (fun p (c,j)=>p.setIfInBounds (n+j) c) vs):=by
  simp
 rw[e];refine⟨by rw[o.1,l.1];simp;omega,fun j x g=>?_⟩;rw[Gi h]at g;rw[o.2 j];split at g
 ·rename_i q;rw[if_pos (by omega)];obtain⟨u,s,t⟩:=m.2 _ _ g;grind
 rename_i q;rw[if_neg (by omega)];exact l.2 _ _ g
theorem AX {r:List (Nat×Nat)} {ev:Operand->Option TV} {e:Operand->Value} (j:ku ρ H X w ev e): ∀(parts:List (Nat×Operand)) (m b:List AV) (vs:Array Value),
  pC ρ H X w m vs->mR r ev m parts=some b-> ∃g,Instr.fill (r.toArray[·]?) vs (parts.map fun(i,x)=>(i,e x))=some g/\pC ρ H X w b g
 |[],m,b,vs,h,c=>by simp only[mR]at c;injection c with c;subst c;exact⟨vs,rfl,h⟩
 |(f,x)::l,m,b,vs,h,c=>by
  simp only[mR]at c;split at c
  ·rename_i q n E F D;obtain⟨t,C,p⟩:=aeZ.1 D;split at c
   ·rename_i B;obtain⟨u,v⟩:=B;subst u;have s:=lC p (j x t C);have y:=TJ h s v;obtain⟨g,z,A⟩:=AX j l _ b _ y c;refine⟨g,?_,A⟩;simp only[aeX,Instr.fill];have o:r.toArray[f]?=some (q,E.length):=by grind
    rw[o];simp only;rw[if_neg]
    ·exact z
    simp only[ag7,decide_eq_true_eq];have:=s.1;have:=h.1;omega
   cases c
  cases c
theorem Lh {ev:Operand->Option TV} (s:ku ρ H X w ev b) {parts:Array (Nat×Operand)} (G:q.op= .build c parts) (h:b9 P ev H q.op=some l): ∃v,(execOp b q).run P w= .ok (.value v) w/\l.rel ρ H X w v:=by
 unfold execOp;rw[G]at h⊢;simp only[b9]at h;split at h
 ·rename_i z A j f;split at h
  ·rename_i m;cases u:mR A ev (z.map AV.raw) parts.toList with
   |none=>grind
   |some B=>
    rw[u]at h;simp at h;subst h;obtain⟨vs,K,C,D⟩:=AX s parts.toList _ B _ (Jk m) u;refine⟨.agg vs,gA (run_build w c _ vs ?_),vs,rfl,C,D⟩;unfold Program.built;unfold zeroO at j;cases E:P.info? c with
    |none=>grind
    |some y=>
     rw[E]at j;unfold iv at f;cases I:P.underlying c with
     |none=>grind
     |some d=>
      rw[I]at f;cases d<;>simp at f
      case array n el=>
       cases F:P.info? el with
       |none=>grind
       |some M=>
       have r:A=[]:=by
        grind
       subst r;have x:parts.toList=[]:=by
        cases L:parts.toList with
        |nil=>rfl
        |cons p N=>grind [mR]
       cases g:y.zero with
       |none=>grind
       |some J=>
        simp[g]at j;subst j;simp_all[Instr.fill]
      case struct fs=>
      cases g:y.zero with
      |none=>grind
      |some J=>
       simp[g]at j;subst j;simp_all
  cases h
 cases h
theorem co {ev:Operand->Option TV}: ∀{l:List Operand} {b:List TV},gy ev l=some b->b.length=l.length/\ ∀(j:Nat) t,b[j]?=some t-> ∃x,l[j]?=some x/\ev x=some t
 |[],b,h=>by grind [gy]
 |x::l,b,h=>by
  simp only[gy]at h;split at h
  ·rename_i t e m c;injection h with h
   subst h;obtain⟨f,g⟩:=co c;grind
  cases h
theorem tK: ∀{e:List TV} {b:List AV},lB e=some b->b.length=e.length/\ ∀(j:Nat) x,b[j]?=some x->e[j]?=some (.one x)/\x≠ .junk
 |[],b,h=>by grind [lB]
 |t::l,b,h=>by
  cases t with
  |one x=>
   by_cases o:x= .junk
   ·simp_all[lB]
   have key:lB (.one x::l)=(match lB l with|some b=>some (x::b)|none=>none):=by
    cases x<;>first|rfl|grind
   rw[key]at h;split at h
   ·rename_i c g;injection h with h
    subst h;obtain⟨m,n⟩:=tK g;grind
   cases h
  |agg c=>grind [lB]
  |tup e=>grind [lB]
  |fn f c=>grind [lB]
theorem KP {x:AV} (l:x≠ .junk) (e:x.rel ρ H X w h):h.oneCell'=true:=by
 cases x with
 |p x=>exact bS.one e
 |sl a r g len=>
  obtain⟨o,_,_,e|⟨b,c,cap,_,e,_⟩⟩:=e
  ·rw[e.2.1];rfl
  rw[e];rfl
 |ptr a r i j=>obtain⟨o,b,c,_,_,_,e⟩:=e;rw[e];rfl
 |junk=>grind
 |fn f a m=>obtain⟨vs,e,_⟩:=e;rw[e];rfl
theorem CX {ev:Operand->Option TV} (m:ku ρ H X w ev b) {p:Fn} {first c:Array Operand} (B:q.op= .makeFunc p first c) (h:b9 P ev H q.op=some l): ∃v,(execOp b q).run P w= .ok (.value v) w/\l.rel ρ H X w v:=by
 rw[B]at h;cases p with
 |func f=>
  simp only[b9]at h;split at h
  ·rename_i I;obtain⟨E,g,rfl⟩:=adT.1 h;obtain⟨J,n,A⟩:=aeZ.1 g;obtain⟨F,s⟩:=co n;obtain⟨G,t⟩:=tK A;refine⟨.func (.func f) #[] (c.map b),?_,.agg (c.map b),⟨c.map b,rfl,?_,fun j x C=>?_⟩,rfl⟩
   ·grind [execOp,Instr.makeFunc,Sem.run_pure]
   ·grind
   obtain⟨u,z⟩:=t j x C;obtain⟨y,K,D⟩:=s j _ u;have r:=m y _ D;refine⟨b y,?_,KP z r,r⟩;grind
  cases h
 |_=>grind [b9]
theorem AR {ev:Operand->Option TV} (n:ku ρ H X w ev b) (p: ∀(a r:Nat) (q:OObj),(H a)[r]?=some q->objRel ρ H X w a r q) (h:b9 P ev H q.op=some l): ∃v,(execOp b q).run P w= .ok (.value v) w/\l.rel ρ H X w v:=by
 cases j:q.op
 case load t x=>grind [QP]
 case indexAddr t x i=>grind [AQ]
 case fieldAddr t x f=>grind [AP]
 case field t x f=>grind [Li]
 case index t x i=>grind [Lj]
 case slice t x lo hi mx=>grind [Lk]
 case build t parts=>grind [Lh]
 case nilCheck x=>grind [CY]
 case makeFunc fn first captured=>grind [CX]
 case call c=>
  obtain⟨callee,args,argTypes⟩:=c;cases callee with
  |builtin g=>
   cases g
   case len=>grind [Uv]
   all_goals (rw[j]at h;simp only[b9]at h;cases h)
  |value f=>grind [b9]
  |invoke r m=>grind [b9]
 all_goals (rw[j]at h;simp only[b9]at h;cases h)
end
end
section
section
variable {P:Program} {w0 w w':World} {O X:Nat->Prop} {ρ:Rho} {H:OH}
theorem fm.stays (h:fm w w'):NI e w w':=⟨h.size,fun _ _ _ b=>h.cell b⟩
theorem Keep.ext (h:Keep O w0 w) (e:fm w w'):Keep O w0 w':=
 ⟨e.os.trans h.os,e.tape.trans h.tape,e.output.trans h.output,aeN h.size e.size,fun k b c=>by
  rw[e.block k (aeT b h.size)];exact h.block k b c⟩
theorem Keep.refl (w:World):Keep O w w:=⟨rfl,rfl,rfl,aeJ _,fun _ _ _=>rfl⟩
theorem Ou {f:FuncId} {a:Nat} {l:List (Nat×Nat×Nat)} (p: ∀b,H b=[]) (j:(AV.fn f a l).rel ρ H e w h):False:=by
 obtain⟨vs,_,_,m,n⟩:=j;obtain⟨u,_,o,b,c,g,_⟩:=n 0 l[0] (aeR m);grind
theorem AV.rel_ext (b:fm w w') (c:x.rel ρ H e w h):x.rel ρ H e w' h:=by
 cases x with
 |fn f a l=>exact c
 |p x=>exact bS.stays b.stays c
 |sl a r g len=>exact c
 |ptr a r i j=>exact c
 |junk=>exact c
theorem tE (b:dK ρ H e w p h) (k: ∀x h,x.rel ρ H e w h->AV.rel u t f w' x h):dK u t f w' p h:=by
 obtain⟨vs,c,g,l⟩:=b;exact⟨vs,c,g,fun j x m=>by grind⟩
theorem TV.rel_map (g:l.rel ρ H e w h) (k: ∀x h,x.rel ρ H e w h->AV.rel u t f w' x h):l.rel u t f w' h:=by
 cases l with
 |one x=>exact k _ _ g
 |agg p=>exact tE g k
 |fn c p=>obtain⟨m,n,o⟩:=g;exact⟨m,tE n k,o⟩
 |tup s=>
  obtain⟨vs,n,o,q⟩:=g;refine⟨vs,n,o,fun j b p r=>?_⟩;grind [tE]
theorem iO {g:AV->AV} {y:Rho} {E:OH} {w w':World} {a:Nat} {J:OObj} (h:objRel u t e w a n v) (D:y m j=u a n) (N:J={v with elems:=v.elems.map (List.map g)}) (hb: ∀b c,u a n=some (b,c)->w'.heap[b]?=w.heap[b]?) (k: ∀l∈v.elems,∀x∈l,∀s,x.rel u t e w s->AV.rel y E f w' (g x) s):objRel y E f w' m j J:=by
 subst N;obtain⟨h1,M,G⟩:=h;refine⟨fun l C=>by grind,M,?_⟩;rw[D];cases Q:u a n with
 |none=>grind
 |some L=>
  obtain⟨b,c⟩:=L;rw[Q]at G;obtain⟨cells,p1,R,S,T,U⟩:=G;refine⟨cells,by grind,R,by simpa using S,T,fun i l p z C I=>?_⟩;simp only[aeG]at C;obtain⟨F,A,rfl⟩:=adT.1 C;rw[aeG]at I;obtain⟨K,B,rfl⟩:=adT.1 I;obtain⟨q,V,W,Z⟩:=U i F p K A B;exact⟨q,V,W,k F (adQ A) K (adQ B) q Z⟩
theorem Zk (o:OObj):o={o with elems:=o.elems.map (List.map id)}:=by
 simp
theorem dV {p:Rho} {s:OH} {w w':World} {a:Nat} (h:objRel u t e w a n v) (q:p m j=u a n) (y: ∀b c,u a n=some (b,c)->w'.heap[b]?=w.heap[b]?) (k: ∀g∈v.elems,∀x∈g,∀l,x.rel u t e w l->AV.rel p s f w' x l):objRel p s f w' m j v:=iO h q (Zk v) y k
theorem gt {a:Nat} (h:objRel ρ H e w a n v) (j:u a n=ρ a n) (l: ∀b c,ρ a n=some (b,c)->w'.heap[b]?=w.heap[b]?) (k: ∀x g,x.rel ρ H e w g->AV.rel u t f w' x g):objRel u t f w' a n v:=
 dV h j l fun _ _ x _ g m=>k x g m
theorem bI {a:Nat} {b c:Nat} (h:objRel ρ H e w a n v) (f:ρ a n=some (b,c)):b<w.heap.size:=by
 obtain⟨_,_,g⟩:=h;grind
def bz (X:Nat->Prop) (ρ:Rho) (s:AS) (a:Act) (w:World):Prop:= ∀(t:Nat) x,s.tmps[t]?=some x-> ∃v:Value,a.tmps[t]?=some v/\x.rel ρ s.H (Xo X ρ s.H) w v
theorem bE {s:AS} {a:Act} (h:bz X ρ s a w):ku ρ s.H (Xo X ρ s.H) w s.ev a.eval:=by
 intro x t b;cases x with
 |tmp k=>
  obtain⟨v,c,e⟩:=h k t b;simp_all[Act.eval]
 |const v=>simp only[AS.ev]at b;injection b with b;subst b;exact Ja v
 |global g=>simp only[AS.ev]at b;injection b with b;subst b;exact dc rfl
 |func f=>simp only[AS.ev]at b;injection b with b;subst b;exact dc rfl
theorem oU (a:Act) (d:Option Tmp) (v:Value):(a.put d v).tmps.size=a.tmps.size:=by cases d<;>simp[Act.put]
theorem nL (s:AS) (d:Option Tmp) (t:TV):(s.put d t).tmps.length=s.tmps.length:=by cases d<;>simp[AS.put]
theorem js (s:AS) (d:Option Tmp) (t:TV):(s.put d t).H=s.H:=by cases d<;>rfl
theorem kR (a:Act) (d:Option Tmp) (v:Value):(a.put d v).defers=a.defers:=by cases d<;>rfl
theorem xI {s:AS} {a:Act} {d:Option Tmp} (f:a.tmps.size=s.tmps.length) (b:bz X ρ s a w) (g:l.rel ρ s.H (Xo X ρ s.H) w h):bz X ρ (s.put d l) (a.put d h) w:=by
 intro k x c;rw[js];cases d with
 |none=>exact b k x c
 |some d=>
  simp only[AS.put]at c;simp only[Act.put];by_cases e:d=k
  ·grind
  rw[afB e]at c;rw[agU e];exact b k x c
theorem fF {s:AS} {a:Act} {d:Option Tmp} {t:TV} {v:Value} (f:a.defers=[]) (b:a.tmps.size=s.tmps.length) (c:Inv w0 O X s.H ρ w) (h:bz X ρ s a w) (e:t.rel ρ s.H (Xo X ρ s.H) w v):dP w0 O X (s.put d t) (a.put d v) w:=by
 refine⟨by grind [kR],by grind [oU,nL],ρ,by grind [js],?_⟩;exact xI b h e
theorem Inv.grow (h:Inv w0 O X H ρ w) (e:fm w w'):Inv w0 O X H ρ w':=
 ⟨h.keep.ext e,fun a r o g=>gt (h.objs a r o g) rfl (fun b c f=>e.block b (bI (h.objs a r o g) f)) (fun _ _ j=>AV.rel_ext e j),h.inj,h.old,fun b f=>aeT (h.bar b f) e.size,h.self⟩
theorem bz.grow {s:AS} {a:Act} (h:bz X ρ s a w) (e:fm w w'):bz X ρ s a w':=fun t x b=>by
 obtain⟨v,c,f⟩:=h t x b;grind [TV.rel_map,AV.rel_ext]
def newρ (ρ:Rho) (d:Nat) (f:Nat->Option (Nat×Nat)):Rho:=fun a r=>if a=d then f r else ρ a r
theorem aU {d a:Nat} (h:a≠d):aK t d s a=t a:=if_neg h
theorem be {d:Nat}:aK t d s d=s:=if_pos rfl
theorem newρ_ne {d a:Nat} (h:a≠d) (b:Nat):newρ ρ d r a b=ρ a b:=if_neg h
theorem newρ_eq {d:Nat} (b:Nat):newρ ρ d r d b=r b:=if_pos rfl
theorem lN (y:Inv w0 O X H ρ w) (e:fm w w') {d:Nat} (D:H d=[]) {f:Nat->Option (Nat×Nat)} (z: ∀r b c,f r=some (b,c)->w.heap.size<=b) (g:x.rel ρ H (Xo X ρ H) w h):x.rel (newρ ρ d f) (aK H d s) (Xo X (newρ ρ d f) (aK H d s)) w' h:=by
 have q: ∀(a r:Nat) o,(H a)[r]?=some o->a≠d:=fun a r o E n=>by grind
 refine uR (fun x h A g=>?_) x h g;cases x with
 |fn=>cases A
 |p x=>
  refine bS.stays e.stays (bS.weaken (fun b C t=>?_) g);rcases t with t|⟨a,r,o,c,l,m⟩
  ·exact .inl t
  by_cases n:a=d
  ·grind [newρ_eq]
  rw[newρ_ne n]at m;rw[aU n]at l;exact .inr ⟨a,r,o,c,l,m⟩
 |sl a r B len=>
  obtain⟨o,l,m,u⟩:=g;have n:=q a r o l;refine⟨o,by grind [aU],m,?_⟩;grind [newρ_ne]
 |ptr a r i j=>
  obtain⟨o,b,c,l,m,u⟩:=g;have n:=q a r o l;refine⟨o,b,c,by grind [aU],by grind [newρ_ne],u⟩
 |junk=>trivial
theorem FM {s:AS} {a:Act} (g:Inv w0 O X s.H ρ w) (B:bz X ρ s a w) (e:fm w w') {d:Nat} {F:List OObj} (G:s.H d=[]) (f:Nat->Option (Nat×Nat))
  (q: ∀r b c,f r=some (b,c)->w.heap.size<=b) (C: ∀r t b c y,f r=some (b,c)->f t=some (b,y)->r=t)
  (A: ∀(r:Nat) o,F[r]?=some o->selfO d o) (I: ∀(r:Nat) o,F[r]?=some o->objRel (newρ ρ d f) (aK s.H d F) (Xo X (newρ ρ d f) (aK s.H d F)) w' d r o):Inv w0 O X (aK s.H d F) (newρ ρ d f) w'/\bz X (newρ ρ d f) ⟨s.tmps,aK s.H d F⟩ a w':=by
 refine⟨?_,?_⟩
 ·refine⟨g.keep.ext e,fun a r o j=>?_,fun a r u t o D b c y j p m n=>?_,fun a r o b c j m=>?_,fun b z=>aeT (g.bar b z) e.size,fun a r o j=>?_⟩
  ·by_cases l:a=d
   ·grind [be]
   simp only[aU l]at j;exact gt (g.objs a r o j) (newρ_ne l r) (fun b c z=>e.block b (bI (g.objs a r o j) z)) (fun _ _ m=>lN g e G q m)
  ·by_cases l:a=d
   ·subst l;rw[newρ_eq]at m;by_cases h:u=a
    ·grind [newρ_eq]
    rw[newρ_ne h]at n;simp only[aU h]at p;have:=bI (g.objs u t D p) n;grind
   rw[newρ_ne l]at m;simp only[aU l]at j;by_cases h:u=d
   ·subst h;rw[newρ_eq]at n;have:=bI (g.objs a r o j) m;grind
   rw[newρ_ne h]at n;simp only[aU h]at p;exact g.inj a r u t o D b c y j p m n
  ·by_cases l:a=d
   ·subst l;rw[newρ_eq]at m;have:=q _ _ _ m;have M:=g.keep.size;exact⟨.inl (by omega),fun E=>by have:=g.bar b E;omega⟩
   rw[newρ_ne l]at m;simp only[aU l]at j;exact g.old a r o b c j m
  by_cases l:a=d
  ·grind [be]
  simp only[aU l]at j;exact g.self a r o j
 intro k x J;obtain⟨v,K,L⟩:=B k x J;grind [TV.rel_map,lN]
theorem OY {j:AS} {a:Act} (B:a.defers=[]) (x:a.tmps.size=j.tmps.length) (p:Inv w0 O X j.H ρ w) (y:bz X ρ j a w) (e:fm w w') {d:Nat} (C:j.H d=[]) (f:Nat->Option (Nat×Nat)) (q: ∀r b c,f r=some (b,c)->w.heap.size<=b) (n: ∀r z b c A,f r=some (b,c)->f z=some (b,A)->r=z) (m: ∀(r:Nat) o,s[r]?=some o->selfO d o) (u: ∀(r:Nat) o,s[r]?=some o->objRel (newρ ρ d f) (aK j.H d s) (Xo X (newρ ρ d f) (aK j.H d s)) w' d r o) (D:l.rel (newρ ρ d f) (aK j.H d s) (Xo X (newρ ρ d f) (aK j.H d s)) w' h):dP w0 O X (AS.put ⟨j.tmps,aK j.H d s⟩ (some d) l) (a.put (some d) h) w':=by
 have g:=FM p y e C f q n m u;exact fF (ρ:=newρ ρ d f) B x g.1 g.2 D
theorem dj {a:Nat} (b:isPure x=true):bJ a x:=by
 cases x<;>first|trivial|cases b
theorem oy (w:World) (o:Obj):fm w (w.alloc o):=(fm.refl w).alloc o
theorem zr {s:AS} {a:Act} (M:a.defers=[]) (E:a.tmps.size=s.tmps.length) (g:Inv w0 O X s.H ρ w) (F:bz X ρ s a w) {d:Nat} {e:TypeId} {es c:Nat} {elems:List (List AV)} {cells:Array Value} (G:s.H d=[])
  (D:0<es) (C: ∀x∈elems,x.length=es) (B:cells.size=c*es) (p:elems.length<=c) (N:c<=9223372036854775807) (I: ∀x∈elems,∀y∈x,isPure y=true)
  (m: ∀(i:Nat) x (j:Nat) y,elems[i]?=some x->x[j]?=some y-> ∃v:Value,cells[i*es+j]?=some v/\v.oneCell'=true/\y.rel ρ s.H (Xo X ρ s.H) w v) {t:TV} {v:Value}
  (R:(t= .one (.ptr d 0 0 0)/\0<elems.length/\v= .pointer (some ⟨w.heap.size,0,none⟩))\/(t= .one (.sl d 0 0 elems.length)/\v= .slice (some ⟨w.heap.size,0,none⟩) elems.length c)):
  dP w0 O X (AS.put ⟨s.tmps,aK s.H d [⟨e,es,elems⟩]⟩ (some d) t) (a.put (some d) v) (w.alloc (.cells cells e)):=by
 have l: ∀(r b A:Nat),(if r=0 then some (w.heap.size,c)else none)=some (b,A)->w.heap.size<=b:=fun r b A h=>by
  grind
 have key: ∀y v,isPure y=true->AV.rel ρ s.H (Xo X ρ s.H) w y v->AV.rel (newρ ρ d fun r=>if r=0 then some (w.heap.size,c)else none) (aK s.H d [⟨e,es,elems⟩]) (Xo X (newρ ρ d fun r=>if r=0 then some (w.heap.size,c)else none) (aK s.H d [⟨e,es,elems⟩])) (w.alloc (.cells cells e)) y v:=fun y v _ h=>
  lN g (oy w _) G (f:=fun r=>if r=0 then some (w.heap.size,c)else none) l h
 refine OY M E g F (oy w _) G (fun r=>if r=0 then some (w.heap.size,c)else none) l (fun r T b c A h S=>?_) (fun r o n=>?_) (fun r o n=>?_) ?_
 ·grind
 ·cases r with
  |succ r=>simp at n
  |zero=>
   simp at n;subst n;exact fun x q y z=>dj (I x q y z)
 ·cases r with
  |succ r=>simp at n
  |zero=>
   simp at n;subst n;refine⟨C,D,?_⟩;rw[newρ_eq];refine⟨cells,heap_alloc_new w _,B,p,N,fun i x j y q z=>?_⟩;obtain⟨u,J,K,L⟩:=m i x j y q z;exact⟨u,J,K,key y u (I x (adQ q) y (adQ z)) L⟩
 rcases R with⟨rfl,Q,rfl⟩|⟨rfl,rfl⟩
 ·exact⟨⟨e,es,elems⟩,w.heap.size,c,by simp[be],by rw[newρ_eq];rfl,Q,by simp⟩
 exact⟨⟨e,es,elems⟩,by simp[be],by simp,.inr ⟨w.heap.size,c,c,by rw[newρ_eq];rfl,by simp,p,fun _=>rfl⟩⟩
end
end
end Go.Proofs.YtalmoejhjceflaaGreat
