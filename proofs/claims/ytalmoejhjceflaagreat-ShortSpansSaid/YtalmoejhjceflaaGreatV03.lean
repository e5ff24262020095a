/-
  Part 4 of a proof (walks and plain facts).
-/
import Derived.Test.YtalmoejhjceflaaGreatV02
set_option linter.all false
set_option maxRecDepth 100000
set_option maxHeartbeats 64000000
namespace Go.Proofs.YtalmoejhjceflaaGreat
open Go.RowKit
variable {n m:Nat} {b:List Value} {c:Value} {e:TypeId} {f:Nat->Prop} {g:List (List AV)} {h:List AV} {j:List OObj} {s:AS} {l:List Nat} {o:OObj} {p:Rho} {q:TV} {r:OH} {t:Oper} {u:Act}
section
section
variable {P:Program} {w0 w w':World} {O X:Nat->Prop} {ρ:Rho} {H:OH}
theorem jH (h:zeroO P e=some b): ∃i c,P.info? e=some i/\i.zero=some c/\c.cells.toList=b:=by
 unfold zeroO at h;cases f:P.info? e with
 |none=>grind
 |some i=>
  simp_all
theorem qP (h:byO P e=some n): ∃i,P.info? e=some i/\i.bytes=n:=by
 unfold byO at h;simp_all
theorem B6 {i:TypeInfo} (h:P.info? e=some i) (b:i.zero=some c):(zeroValue e).run P w= .ok c w:=by
 simp_all[zeroValue,Gf]
theorem B5 (t:TypeId) (c:Array Value):(newRow t c).run P w= .ok ⟨w.heap.size,0,none⟩ (w.alloc (.cells c t)):=rfl
theorem Pi (t:TypeId) (v:Value):(Instr.box t v).run P w= .ok (.pointer (some ⟨w.heap.size,0,none⟩)) (w.alloc (.cells v.cells t)):=rfl
theorem Mm {i:TypeInfo} (h:P.info? e=some i) (b:i.zero=some c):
  (Instr.alloc e true (.tuple #[])).run P w= .ok (.pointer (some ⟨w.heap.size,0,none⟩)) (w.alloc (.cells c.cells e)):=by
 unfold Instr.alloc;rw[aeU,B6 h b,aeH];rfl
theorem Jt (n:Nat):(askRoom n).run P w= .ok () w:=by
 simp
def qr (z:List Value) (n:Nat):Array Value:=(Array.range n).map fun k=>z.toArray[k%z.toArray.size]!
theorem LE (z:List Value) (n:Nat):(qr z n).size=n:=by simp[qr]
theorem Re {i:Nat} (e:b[m]?=some c) (f:i*b.length+m<n):(qr b n)[i*b.length+m]?=some c:=by
 grind [qr,Nat.mul_comm,Nat.mul_add_mod,Nat.mod_eq_of_lt]
theorem RT {f:TypeId} {i:TypeInfo} (r:P.underlying e=some (.slice f)) (l:P.info? f=some i) (s:i.zero=some c) (j:c.cells.toList=b) (h:b.length=i.size) (v u:IntKind) {n m:Int} (A:0<=n) (p:n<=m) (o:m<=9223372036854775807) (B:(i.bytes:Int)*m<=281474976710656):
  (Instr.makeSlice e (.int v n) (.int u m)).run P w= .ok (.slice (some ⟨w.heap.size,0,none⟩) n.toNat m.toNat) (w.alloc (.cells (qr b (m.toNat*b.length)) f)):=by
 have x:IntKind.i64.wrap n=n:=aht _ (by omega);have y:IntKind.i64.wrap m=m:=aht _ (by omega);have q:(sizeOf f).run P w= .ok i.size w:=by simp_all[sizeOf,Gf]
 have t1:decide (m<0)=false:=by simp;omega
 have t2:decide ((i.bytes:Int)*m>2^48)=false:=by simp;omega
 have t3:decide (n<0)=false:=by simp;omega
 have t4:decide (n>m)=false:=by simp;omega
 unfold Instr.makeSlice;simp only[aeU,run_underlying r,aeH,asInt,asIntOf,afC,Gf l,x,y,t1,t2,t3,t4,Bool.or_false,afq,if_false,Jt,q];by_cases g:m.toNat*i.size=0
 ·grind [Sem.run_bind,Result.andThen_ok,B5,Sem.run_pure,qr]
 rw[if_neg g];simp only[aeU,B6 l s,aeH,afC,B5];rw[h,<- j];rfl
theorem DH {ev:Operand->Option TV} {e:Operand->Value} {Y:Nat->Prop} (n:ku ρ H Y w ev e) {sz:Nat}: ∀(parts:List (Nat×Operand)) (m:Nat) (l:List (List AV)) (cells:Array Value),
  tX ev sz m parts=some l->(m+l.length)*sz<=cells.size->
  ∃b,Instr.fill (fun i=>some (i*sz,sz)) cells (parts.map fun(i,x)=>(i,e x))=some b/\b.size=cells.size/\(∀j:Nat,j<m*sz->b[j]?=cells[j]?)/\
   (∀x∈l,x.length=sz/\ ∀y∈x,isPure y=true)/\
   ∀(i:Nat) x (j:Nat) y,l[i]?=some x->x[j]?=some y-> ∃u:Value,b[(m+i)*sz+j]?=some u/\u.oneCell'=true/\y.rel ρ H Y w u
 |[],m,l,cells,h,_=>by
  simp only[tX]at h;injection h with h
  subst h;exact⟨cells,rfl,rfl,fun _ _=>rfl,fun x s=>(by simp at s),fun i x j y s=>(by simp at s)⟩
 |(k,x)::o,m,l,cells,h,r=>by
  simp only[tX]at h;split at h
  ·rename_i f z p q;split at h
   ·rename_i C;obtain⟨A,L,M⟩:=C;injection h with h
    subst h;subst A;obtain⟨t,F,v⟩:=aeZ.1 p;obtain⟨J,W⟩:=lC v (n x t F);simp only[ae6]at r;have E:(k+(z.length+1))*sz=k*sz+(z.length*sz+sz):=by grind
    generalize G:(e x).cells=g at*
    obtain⟨g⟩:=g;have K:g.length=f.length:=J;obtain⟨f1,f2⟩:=xh (k*sz) g 0 cells (by omega);have N:(g.toArray.zipIdx.foldl (fun f (c,j)=>f.setIfInBounds (k*sz+j) c) cells)=((g.zipIdx 0).foldl (fun f (c,j)=>f.setIfInBounds (k*sz+j) c) cells):=by
     simp
    have D:(k+1)*sz=k*sz+sz:=by grind
    obtain⟨b,Q,B,R,S,T⟩:=DH n o (k+1) z (cells:=(g.zipIdx 0).foldl (fun f (c,j)=>f.setIfInBounds (k*sz+j) c) cells) q (by grind);refine⟨b,?_,by rw[B,f1],fun j U=>?_,fun y I=>?_,fun i y j u I V=>?_⟩
    ·grind [Instr.fill]
    ·grind
    ·grind
    cases i with
    |zero=>
     grind
    |succ i=>
     grind
   cases h
  cases h
def kq (s:AS) (d:Nat) (t:TV) (F:List OObj):AS:=if F.isEmpty then s.put (some d) t else AS.put ⟨s.tmps,aK s.H d F⟩ (some d) t
theorem Us {f:List (dD P)} {i d:Nat} {a:Act} (A:a.defers=[]) (p:a.tmps.size=s.tmps.length) (g:Inv w0 O X s.H ρ w) (m:bz X ρ s a w) {x:Operand} (E:t.op= .box e x) (h:dM P f l i d s.ev s.H t.op=some (q,j)) (D:s.H d=[]):
  ∃v w',(execOp a.eval t).run P w= .ok (.value v) w'/\dP w0 O X (kq s d q j) (a.put (some d) v) w':=by
 unfold execOp;rw[E]at h⊢;simp only[dM]at h;split at h
 ·rename_i K n;split at h
  ·rename_i C;injection h with h
   injection h with r B
   subst r B;obtain⟨q,r,u⟩:=aeZ.1 n;obtain⟨J,L⟩:=lC u (bE m x q r);refine⟨_,_,gA (Pi e (a.eval x)),?_⟩;refine zr A p g m (c:=1) D C.2 (by simp) (by simp[J]) (by simp) (by omega) (fun y G z I=>?_) (fun k y b z G I=>?_) (.inl ⟨rfl,by simp,rfl⟩)
   ·grind
   grind
  cases h
 cases h
theorem Lc {g:List (dD P)} {i d:Nat} {a:Act} (D:a.defers=[]) (n:a.tmps.size=s.tmps.length) (m:Inv w0 O X s.H ρ w) (p:bz X ρ s a w) (J:t.op= .alloc e) (h:dM P g l i d s.ev s.H t.op=some (q,j)) (G:s.H d=[]):
  ∃v w',(execOp a.eval t).run P w= .ok (.value v) w'/\dP w0 O X (kq s d q j) (a.put (some d) v) w':=by
 unfold execOp;rw[J]at h⊢;simp only[dM]at h;split at h
 ·rename_i z L;split at h
  ·rename_i B;injection h with h
   injection h with K E
   subst K E;obtain⟨i,R,I,A,x⟩:=jH L;obtain⟨M,N⟩:=Jk (ρ:=ρ) (H:=s.H) (X:=Xo X ρ s.H) (w:=w) B.1;refine⟨_,_,gA (Mm I A),?_⟩;have C:z.toArray=R.cells:=by rw[<- x]
   rw[C]at M N;refine zr D n m p (c:=1) G B.2 (by simp) (by grind) (by simp) (by omega) (fun y r Q f=>?_) (fun k y b Q r f=>?_) (.inl ⟨rfl,by simp,rfl⟩)
   ·simp at r;subst r;simp at f;obtain⟨u,_,rfl⟩:=f;rfl
   grind
  cases h
 cases h
theorem QK {D:List (dD P)} {i d:Nat} {a:Act} (K:a.defers=[]) (R:a.tmps.size=s.tmps.length) (E:Inv w0 O X s.H ρ w) (C:bz X ρ s a w) {g c:Operand} (ho:t.op= .makeSlice e g c) (h:dM P D l i d s.ev s.H t.op=some (q,j)) (hd:s.H d=[]):
  ∃v w',(execOp a.eval t).run P w= .ok (.value v) w'/\dP w0 O X (kq s d q j) (a.put (some d) v) w':=by
 unfold execOp;rw[ho]at h⊢;simp only[dM]at h;split at h
 ·rename_i k1 n k2 m b hl hc hs;split at h
  ·rename_i z sz Y hz J M;split at h
   ·rename_i B;obtain⟨Z,c2,c3,c4,c5,c6,U⟩:=B;injection h with h
    injection h with ht hF
    subst ht hF;obtain⟨i,zv,N,T,S⟩:=jH hz;obtain⟨i',p,W⟩:=o6 J;rw[N]at p;injection p with p;subst p
    obtain⟨i',p,V⟩:=qP M;rw[N]at p;injection p with p;subst p
    have I:=RT (P:=P) (w:=w) (eG hs) N T S (by omega) k1 k2 Z c2 c3 (by grind);have hn:=(bo (bE C g _ hl)).1;have hm:=(bo (bE C c _ hc)).1;refine⟨_,_,gA (by rw[hn,hm];exact I),?_⟩;simp only[aeP]at U;have G: ∀(k:Nat) x,(List.replicate n.toNat (z.map AV.raw))[k]?=some x->k<n.toNat/\x=z.map AV.raw:=fun k x hx=>by
     grind
    have A:(List.replicate n.toNat (z.map AV.raw)).length=n.toNat:=by simp
    have:=zr K R E C (c:=m.toNat) (e:=b) (es:=sz) (elems:=List.replicate n.toNat (z.map AV.raw)) (cells:=qr z (m.toNat*z.length)) hd c6 (by grind) (by rw[LE,c5]) (by simp;omega) (by omega)
     (fun y L z' r=>by simp[agM]at L;rw[L.2]at r;simp at r;obtain⟨u,_,rfl⟩:=r;rfl)
     (fun k y f z' L r=>by
      obtain⟨hk,rfl⟩:=G k y L;rw[aeG]at r;cases Q:z[f]? with
      |none=>grind
      |some u=>
       rw[Q]at r;simp at r;subst r;have K:=U u (adQ Q);have aa:f<z.length:=(aeI.1 Q).1;have ab:k*z.length+f<m.toNat*z.length:=by
        have:(k+1)*z.length<=m.toNat*z.length:=ae2 _ (by omega);grind
       refine⟨u,?_,K,bS.raw u K⟩;grind [Re])
     (t:= .one (.sl d 0 0 n.toNat)) (v:= .slice (some ⟨w.heap.size,0,none⟩) n.toNat m.toNat) (.inr ⟨by rw[A],by rw[A]⟩)
    exact this
   cases h
  cases h
 cases h
theorem Uu {K:List (dD P)} {i d:Nat} {a:Act} (h1:a.defers=[]) (N:a.tmps.size=s.tmps.length) (p:Inv w0 O X s.H ρ w) (G:bz X ρ s a w) {parts:Array (Nat×Operand)} (ho:t.op= .buildSlice e n parts) (h:dM P K l i d s.ev s.H t.op=some (q,j)) (hd:j≠[]->s.H d=[]):
  ∃v w',(execOp a.eval t).run P w= .ok (.value v) w'/\dP w0 O X (kq s d q j) (a.put (some d) v) w':=by
 unfold execOp;rw[ho]at h⊢;simp only[dM]at h;split at h
 ·rename_i b hs;split at h
  ·rename_i z sz hz Q;split at h
   ·rename_i m L;split at h
    ·rename_i E;obtain⟨R,c2,c3,S⟩:=E;obtain⟨i,zv,hi,ab,ad⟩:=jH hz;have aa:((Array.range (n*sz)).map (zv.cells[· %zv.cells.size]!))=qr z (n*sz):=by grind [qr]
     obtain⟨cells,g1,g2,g3,T,g5⟩:=DH (bE G) parts.toList 0 m (qr z (n*sz)) L (by grind);have C:(Instr.buildSlice e n (parts.map fun(i,x)=>(i,a.eval x))).run P w= .ok (.slice (some ⟨w.heap.size,0,none⟩) n n) (w.alloc (.cells cells b)):=by
      have D:Instr.fill (fun i=>some (i*sz,sz)) (qr z (n*sz)) (parts.map fun(i,x)=>(i,a.eval x)).toList=some cells:=by simp_all
      unfold Instr.buildSlice;simp only[aeU,run_underlying (eG hs),aeH,fG Q];rw[if_neg (by omega)];by_cases M:n*sz=0
      ·rw[if_pos M];have Z:qr z (n*sz)= #[]:=by grind
       rw[Z]at D;rw[aeU];show Result.andThen (.ok #[] w) _=_;rw[aeH];rw[show(Array.map (fun x=>(#[]:Array Value)[x%(#[]:Array Value).size]!) (Array.range (n*sz)))= #[] by grind,D];rfl
      rw[if_neg M];simp only[aeU,B6 hi ab,afC,aeH];rw[aa,D];rfl
     split at h
     ·injection h with h
      injection h with ht U
      subst ht U;refine⟨_,_,gA C,?_⟩;have:=zr h1 N p G (c:=n) (e:=b) (es:=sz) (elems:=m) (cells:=cells) (hd (by simp)) S (fun x A=>(T x A).1) (by grind) (by omega)
       (by have:n*1<=n*sz:=ae7 _ S;omega) (fun x A=>(T x A).2)
       (fun i x g y A B=>by grind)
       (t:= .one (.sl d 0 0 n)) (v:= .slice (some ⟨w.heap.size,0,none⟩) n n) (.inr ⟨by rw[R],by rw[R]⟩)
      exact this
     injection h with h
     injection h with ht U
     subst ht U;refine⟨_,_,gA C,?_⟩;refine fF h1 N (p.grow (oy w _)) (G.grow (oy w _)) ?_;show bS _ _ _ _;have hl:(m.map (List.map unP)).length=n:=by simp[R]
     have W: ∀(i:Nat) x (g:Nat) y,(m.map (List.map unP))[i]?=some x->x[g]?=some y-> ∃u:Value,cells[i*sz+g]?=some u/\bS (Xo X ρ s.H) w y u:=fun i x g y A B=>by
      rw[aeG]at A;cases I:m[i]? with
      |none=>grind
      |some x'=>
       rw[I]at A;simp at A;subst A;rw[aeG]at B;cases J:x'[g]? with
       |none=>grind
       |some y'=>
        rw[J]at B;simp at B;subst B;obtain⟨u,u1,u2,u3⟩:=g5 i x' g y' I J;have hp:=(T x' (adQ I)).2 y' (adQ J);refine⟨u,by grind,?_⟩;cases y'<;>first|exact u3|cases hp
     have Y: ∃f:Nat->Nat->Value,∀(i:Nat) x (g:Nat) y,(m.map (List.map unP))[i]?=some x->x[g]?=some y->cells[i*sz+g]?=some (f i g)/\bS (Xo X ρ s.H) w y (f i g):=by
      refine⟨fun i g=>(cells[i*sz+g]?).getD undef,fun i x g y A B=>?_⟩;grind
     obtain⟨f,Y⟩:=Y;have ac:n<=16777216:=by have:n*1<=n*sz:=ae7 _ S;omega
     have:=bS.sl (X:=Xo X ρ s.H) (w:=w.alloc (.cells cells b)) w.heap.size 0 sz n (m.map (List.map unP)) f (fun V=>by
      rcases V with V|⟨a',r,o',c,q1,q2⟩
      ·have:=p.bar _ V;omega
      ·have:=bI (p.objs a' r o' q1) q2;omega) (by simp) (fun x A=>by grind) (by omega) (by omega)
      (fun i x g y A B=>by
       grind [cell_of_row,heap_alloc_new])
      (fun i x g y A B=>bS.stays (oy w _).stays (Y i x g y A B).2)
     grind
    cases h
   cases h
  cases h
 cases h
end
end
section
section
variable {P:Program} {w0 w w':World} {O X:Nat->Prop} {ρ:Rho} {H:OH}
structure But (b:Nat) (w w':World):Prop where
 os:w'.os=w.os
 tape:w'.tape=w.tape
 output:w'.output=w.output
 size:w.heap.size<=w'.heap.size
 block: ∀k,k<w.heap.size->k≠b->w'.heap[k]?=w.heap[k]?
theorem But.setRow (w:World) (b:Nat) (c:Array Value):But b w (w.setRow b c):=
 ⟨rfl,rfl,rfl,by simp,fun k f e=>by grind [World.setRow]⟩
theorem Keep.but (h:Keep O w0 w) (e:But n w w') (g:w0.heap.size<=n\/O n):Keep O w0 w':=
 ⟨e.os.trans h.os,e.tape.trans h.tape,e.output.trans h.output,aeN h.size e.size,fun k c f=>by
  rw[e.block k (aeT c h.size) (by grind)];exact h.block k c f⟩
theorem uU {n:Rho} {b:Nat} (B:Xo X ρ H b) (e:But b w w') (l: ∀(a g:Nat) o,(H a)[g]?=some o-> ∃m,(r a)[g]?=some m/\m.es=o.es/\o.elems.length<=m.elems.length/\n a g=ρ a g) (C: ∀(a g:Nat) o q f,(r a)[g]?=some o->n a g=some (q,f)->q<w.heap.size->Xo X ρ H q) {x:AV} (h:x.rel ρ H (Xo X ρ H) w c):x.rel n r (Xo X n r) w' c:=by
 refine uR (fun x c L h=>?_) x c h;cases x with
 |fn=>cases L
 |p x=>
  refine bS.stays ⟨e.size,fun p u M E=>?_⟩ (bS.weaken (fun q K z=>?_) h)
  ·have D:=zg E;by_cases y:p.block=b
   ·exfalso;apply M;obtain B|⟨a,g,o,f,s,A⟩:=B
    ·exact .inl (y▸B)
    obtain⟨m,t,F,G,I⟩:=l a g o s;exact .inr ⟨a,g,m,f,t,by grind⟩
   unfold World.cell? at E⊢;rw[e.block _ D y];exact E
  rcases z with z|⟨a,g,o,f,s,A⟩
  ·exact .inl z
  grind
 |sl a g N len=>
  obtain⟨o,s,A,J⟩:=h;obtain⟨m,t,F,G,I⟩:=l a g o s;refine⟨m,t,by omega,?_⟩;grind
 |ptr a g i j=>
  obtain⟨o,q,f,s,A,J,Q⟩:=h;obtain⟨m,t,F,G,I⟩:=l a g o s;exact⟨m,q,f,t,by grind,by omega,by grind⟩
 |junk=>trivial
theorem F5 {c:List AV} (b:n+c.length<=h.length):(putCells h n c).length=h.length:=by
 grind [putCells]
theorem F4 {c:List AV} (b:n+c.length<=h.length) (k:Nat):(putCells h n c)[k]?=if n<=k/\k<n+c.length then c[k-n]? else h[k]?:=Gi b k
theorem HH {i j c b:Nat} (h:n≠i) (f:j+b<=m) (e:c<m): ¬(i*m+j<=n*m+c/\n*m+c<i*m+j+b):=by
 rcases Nat.lt_or_gt_of_ne h with h|h
 ·have:(n+1)*m<=i*m:=ae2 _ h;grind
 have:(i+1)*m<=n*m:=ae2 _ h;grind
theorem Eg {act:Act} (h1:act.defers=[]) (bb:act.tmps.size=s.tmps.length) (f:Inv w0 O X s.H ρ w) (a5:bz X ρ s act w) {a i j c:Nat} {K:List AV} {vs:List Value} (U:(s.H a)[n]?=some o) (G:ρ a n=some (m,c)) (he:o.elems[i]?=some h) (hj:j+K.length<=h.length) (a6:vs.length=K.length) (ag: ∀(k:Nat) x,K[k]?=some x-> ∃u:Value,vs[k]?=some u/\u.oneCell'=true/\x.rel ρ s.H (Xo X ρ s.H) w u) (a4: ∀x∈K,bJ a x):
  ∃cells,w.heap[m]?=some (.cells cells o.ty (0,0))/\i*o.es+j+vs.length<=cells.size/\
   Inv w0 O X (aK s.H a ((s.H a).set n {o with elems:=o.elems.set i (putCells h j K)})) ρ (w.setRow m (cells.toList.take (i*o.es+j)++vs++cells.toList.drop (i*o.es+j+vs.length)).toArray)/\
   bz X ρ ⟨s.tmps,aK s.H a ((s.H a).set n {o with elems:=o.elems.set i (putCells h j K)})⟩ act (w.setRow m (cells.toList.take (i*o.es+j)++vs++cells.toList.drop (i*o.es+j+vs.length)).toArray):=by
 have af:=f.objs a n o U;obtain⟨q1,q2,q3⟩:=af;rw[G]at q3;obtain⟨cells,p1,p2,p3,p4,p5⟩:=q3;have a9:h.length=o.es:=q1 h (adQ he);have hi:i<o.elems.length:=(aeI.1 he).1;have ad:i*o.es+j+vs.length<=cells.size:=by
  have:(i+1)*o.es<=c*o.es:=ae2 _ (by omega);grind
 refine⟨cells,p1,ad,?_⟩;have ah:Xo X ρ s.H m:= .inr ⟨a,n,o,c,U,G⟩;generalize ap:(cells.toList.take (i*o.es+j)++vs++cells.toList.drop (i*o.es+j+vs.length))=Z;have R: ∀k:Nat,Z[k]?=if i*o.es+j<=k/\k<i*o.es+j+vs.length then vs[k-(i*o.es+j)]? else cells[k]?:=fun k=>by
  rw[<- ap,Gi (by omega)];simp
 have av:Z.length=cells.size:=by grind
 have e0:=But.setRow w m Z.toArray;generalize aa:aK s.H a ((s.H a).set n {o with elems:=o.elems.set i (putCells h j K)})=H';have M: ∀q,(H' a)[q]?=if q=n then some {o with elems:=o.elems.set i (putCells h j K)}else(s.H a)[q]?:=fun q=>by rw[<- aa,be];grind
 have a8: ∀p,p≠a->H' p=s.H p:=fun p ha=>by rw[<- aa,aU ha]
 have T: ∀(p q:Nat) z,(s.H p)[q]?=some z-> ∃o',(H' p)[q]?=some o'/\o'.es=z.es/\z.elems.length<=o'.elems.length/\ρ p q=ρ p q:=fun p q z g=>by
  grind
 have l: ∀(p q:Nat) z,(H' p)[q]?=some z-> ∃J,(s.H p)[q]?=some J/\z.es=J.es/\(p=a/\q=n\/z=J):=fun p q z g=>by
  by_cases ha:p=a
  ·grind
  grind
 have Q: ∀(p q:Nat) z N Y,(H' p)[q]?=some z->ρ p q=some (N,Y)->N<w.heap.size->Xo X ρ s.H N:=fun p q z N Y g F _=>by
  obtain⟨J,C,_⟩:=l p q z g;exact .inr ⟨p,q,J,Y,C,F⟩
 have E: ∀x v,AV.rel ρ s.H (Xo X ρ s.H) w x v->AV.rel ρ H' (Xo X ρ H') (w.setRow m Z.toArray) x v:=fun x v A=>uU ah e0 T Q A
 refine⟨⟨f.keep.but e0 (f.old a n o m c U G).1,fun p q z g=>?_,fun B I a2 r2 z J W c1 c2 g a0 F a3=>?_,fun B I z W c1 g F=>?_,fun W ai=>aeT (f.bar W ai) e0.size,fun B I z g=>?_⟩,fun t x A=>?_⟩
 ·obtain⟨J,C,g2,L⟩:=l p q z g;by_cases ab:p=a/\q=n
  ·obtain⟨rfl,rfl⟩:=ab;rw[M,if_pos rfl]at g;injection g with g
   subst g;refine⟨fun y hy=>?_,q2,?_⟩
   ·grind [F5]
   rw[G];refine⟨Z.toArray,setRow_heap w m cells _ _ _ p1,by grind,by grind,p4,fun i' e' j' x D A=>?_⟩;simp only[List.getElem?_toArray];rw[R];by_cases S:i'=i
   ·subst S;rw[afG]at D;simp[hi]at D;subst D;rw[F4 hj]at A;split at A
    ·rename_i ba;rw[if_pos (by omega)];obtain⟨u,u1,u2,u3⟩:=ag _ _ A;exact⟨u,by rw[show i'*o.es+j'-(i'*o.es+j)=j'-j by omega];exact u1,u2,E _ _ u3⟩
    grind
   rw[afB (agv S)]at D;have ae:j'<e'.length:=(aeI.1 A).1;rw[q1 e' (adQ D)]at ae;rw[if_neg (by rw[a6];exact HH S (by omega) ae)];grind
  rcases L with L|L
  ·omega
  subst L;refine gt (f.objs p q z C) rfl (fun N Y ac=>e0.block N (bI (f.objs p q z C) ac) (fun an=>?_)) E;subst an;exact ab (f.inj p q a n z o N Y c C U ac G)
 ·obtain⟨V,C,_⟩:=l B I z g;obtain⟨a7,g2,_⟩:=l a2 r2 J a0;exact f.inj B I a2 r2 V a7 W c1 c2 C g2 F a3
 ·obtain⟨V,C,_⟩:=l B I z g;exact f.old B I V W c1 C F
 ·obtain⟨J,C,g2,L⟩:=l B I z g;rcases L with⟨rfl,rfl⟩|L
  ·rw[M,if_pos rfl]at g;injection g with g
   subst g;intro y hy x A;rcases af5 hy with hy|rfl
   ·exact f.self B I o U y hy x A
   unfold putCells at A;simp only[afD]at A;rcases A with(A|A)|A
   ·exact f.self B I o U h (adQ he) x (agf A)
   ·grind
   exact f.self B I o U h (adQ he) x (agA A)
  subst L;exact f.self B I z C
 obtain⟨v,v1,v2⟩:=a5 t x A;grind [TV.rel_map]
theorem yD {t:TypeId} {v:Value} {cells:Array Value} (c:szO P t=some v.cells.size) (g:w.heap[n]?=some (.cells cells e (0,0))) (h:m+v.cells.size<=cells.size) (f: ∀u∈v.cells,u.oneCell'=true):
  (Instr.storeAt t (.pointer (some ⟨n,m,none⟩)) v).run P w= .ok () (w.setRow n (cells.toList.take m++v.cells.toList++cells.toList.drop (m+v.cells.size)).toArray):=by
 unfold Instr.storeAt storeVar;simp only[Instr.sureAddr,aeU,afC,aeH,fG c];grind [run_storeCells_at]
end
end
section
section
variable {P:Program} {w0 w w':World} {O X:Nat->Prop} {ρ:Rho} {H:OH}
def adW (g:AV->AV):TV->TV
 | .one x=> .one (g x)
 | .agg b=> .agg (b.map g)
 | .tup c=> .tup (c.map fun t=>(t.1,t.2.map g))
 | .fn f b=> .fn f (b.map g)
theorem jK {g:AV->AV} {n:Nat->Prop} (h:q.rel ρ H f w c) (y: ∀x c,x.rel ρ H f w c->AV.rel p r n w' (g x) c):(adW g q).rel p r n w' c:=by
 have agg: ∀l c,dK ρ H f w l c->dK p r n w' (l.map (g)) c:=fun l c h=>by
  obtain⟨vs,m,o,s⟩:=h;refine⟨vs,m,by grind,fun j x z=>?_⟩;grind
 cases q with
 |one x=>exact y _ _ h
 |agg l=>exact agg l c h
 |fn e l=>obtain⟨u,m,o⟩:=h;exact⟨u,agg l u m,o⟩
 |tup A=>
  obtain⟨vs,m,o,s⟩:=h;refine⟨vs,m,by grind,fun j b l z=>?_⟩;grind
theorem A9 {b:Nat->Prop} {k:Nat->Nat->Bool} (h:q.rel ρ H f w c) (e: ∀x c,x.rel ρ H f w c->AV.rel p r b w' (aY k x) c):(bi k q).rel p r b w' c:=by
 have:=jK h e;cases q<;>exact this
theorem Fr {k:Nat->Nat->Bool} {s:AS} {a:Act} (h:bz X ρ s a w) (e: ∀x v,x.rel ρ s.H (Xo X ρ s.H) w v->AV.rel p r (Xo X p r) w' (aY k x) v):bz X p ⟨s.tmps.map (bi k),r⟩ a w':=by
 intro t x b;simp only[aeG]at b;cases c:s.tmps[t]? with
 |none=>grind
 |some y=>
  rw[c]at b;simp at b;subst b;obtain⟨v,f,g⟩:=h t y c;grind [A9]
theorem DJ (m:Inv w0 O X H ρ w) {a b:Nat} (Y:b<=4999) (V:b≠a) (hb:H b=[o]) (hp: ∀e∈o.elems,∀x∈e,isPure x=true):
  Inv w0 O X (aK (aK H a (H a++[o])) b []) (fun x y=>if x=a/\y=(H a).length then ρ b 0 else ρ x y) w/\
  (∀x v,AV.rel ρ H (Xo X ρ H) w x v->AV.rel (fun x y=>if x=a/\y=(H a).length then ρ b 0 else ρ x y) (aK (aK H a (H a++[o])) b []) (Xo X (fun x y=>if x=a/\y=(H a).length then ρ b 0 else ρ x y) (aK (aK H a (H a++[o])) b [])) w (aY (fun x _=>x==b) x) v)/\
  (∀B len v,AV.rel ρ H (Xo X ρ H) w (.sl b 0 B len) v->AV.rel (fun x y=>if x=a/\y=(H a).length then ρ b 0 else ρ x y) (aK (aK H a (H a++[o])) b []) (Xo X (fun x y=>if x=a/\y=(H a).length then ρ b 0 else ρ x y) (aK (aK H a (H a++[o])) b [])) w (.sl a (H a).length B len) v):=by
 generalize T:aK (aK H a (H a++[o])) b []=r;generalize ab:(fun x y=>if x=a/\y=(H a).length then ρ b 0 else ρ x y:Rho)=ρ1;have ae:r b=[]:=by rw[<- T];exact be
 have ad:r a=H a++[o]:=by rw[<- T,aU (agv V),be]
 have af: ∀x,x≠a->x≠b->r x=H x:=fun x A E=>by rw[<- T,aU E,aU A]
 have ac: ∀x y,¬(x=a/\y=(H a).length)->ρ1 x y=ρ x y:=fun x y h=>by grind
 have Q:ρ1 a (H a).length=ρ b 0:=by grind
 have W:(H b)[0]?=some o:=by rw[hb];rfl
 -- G: a live row of H that is not of b is the same in r
 have I: ∀(x y:Nat) g,(H x)[y]?=some g->x≠b->(r x)[y]?=some g/\ρ1 x y=ρ x y:=fun x y g D hx=>by
  grind
 -- l: a live row of r is one of H
 have l: ∀(x y:Nat) g,(r x)[y]?=some g-> ∃s t,(H s)[t]?=some g/\ρ1 x y=ρ s t/\((s=x/\t=y/\x≠b)\/(x=a/\y=(H a).length/\s=b/\t=0/\g=o)):=fun x y g D=>by
  grind
 have U: ∀c,Xo X ρ1 r c->Xo X ρ H c:=fun c M=>by
  rcases M with M|⟨x,y,g,n,A,E⟩
  ·exact .inl M
  obtain⟨s,t,C,J,_⟩:=l x y g A;exact .inr ⟨s,t,g,n,C,by grind⟩
 have L: ∀x v,bS (Xo X ρ H) w x v->bS (Xo X ρ1 r) w x v:=fun x v h=>bS.weaken (fun c _ M=>U c M) h
 have mono: ∀x v,AV.rel ρ H (Xo X ρ H) w x v->AV.rel ρ1 r (Xo X ρ1 r) w (aY (fun x _=>x==b) x) v:=kW (t7 _) fun x v hn h=>by
  cases x with
  |fn=>cases hn
  |p x=>exact L x v h
  |sl x y B len=>
   simp only[aY];by_cases q:x=b
   ·subst q;simp;trivial
   simp only[beq_iff_eq,q,if_false];obtain⟨g,A,E,R⟩:=h;obtain⟨f1,f2⟩:=I x y g A q;exact⟨g,f1,E,by grind⟩
  |ptr x y i j=>
   simp only[aY];by_cases q:x=b
   ·subst q;simp;trivial
   simp only[beq_iff_eq,q,if_false];obtain⟨g,b',c,A,E,R⟩:=h;obtain⟨f1,f2⟩:=I x y g A q;exact⟨g,b',c,f1,by grind,R⟩
  |junk=>trivial
 have same: ∀z x v,bJ z x->z≠b->AV.rel ρ H (Xo X ρ H) w x v->AV.rel ρ1 r (Xo X ρ1 r) w x v:=fun z x v F N h=>by
  have:=mono x v h;cases x with
  |fn f x qs=>
   have F:x=z:=F.1;grind [aY]
  |sl x y B len=>
   have F:x=z:=F;grind [aY]
  |ptr x y i j=>
   have F:x=z:=F;grind [aY]
  |p x=>exact this
  |junk=>trivial
 refine⟨⟨m.keep,fun x y g D=>?_,fun x y s t g o' c n n' D Z hr ag=>?_,fun x y g c n D hr=>?_,m.bar,fun x y g D=>?_⟩,mono,fun B len v h=>?_⟩
 ·obtain⟨s,t,C,J,K⟩:=l x y g D;refine dV (m.objs s t g C) J (fun _ _ _=>rfl) fun e S z N u u3=>?_
  have ah:=m.self s t g C e S z N;rcases K with⟨rfl,rfl,q⟩|⟨rfl,rfl,rfl,rfl,rfl⟩
  ·grind
  have aa:=hp e S z N;cases z<;>first|exact L _ _ u3|cases aa
 ·obtain⟨x1,y1,C,J,K⟩:=l x y g D;obtain⟨x2,y2,k1,k2,k3⟩:=l s t o' Z;obtain⟨e1,e2⟩:=m.inj x1 y1 x2 y2 g o' c n n' C k1 (by grind) (by grind);omega
 ·obtain⟨x1,y1,C,J,K⟩:=l x y g D;exact m.old x1 y1 g c n C (by grind)
 ·obtain⟨s,t,C,J,K⟩:=l x y g D;rcases K with⟨rfl,rfl,q⟩|⟨rfl,rfl,rfl,rfl,rfl⟩
  ·exact m.self s t g C
  exact fun e S z N=>dj (hp e S z N)
 obtain⟨g,A,E,R⟩:=h;rw[W]at A;injection A with A
 subst A;exact⟨o,by grind,E,Cj Y R Q⟩
end
end
section
section
variable {P:Program} {w0 w w':World} {O X:Nat->Prop} {ρ:Rho} {H:OH}
theorem K8 {i j sz:Nat} (b:j<sz):(i*sz+j)/sz=i/\(i*sz+j)%sz=j:=by
 grind [Nat.mul_comm,Nat.mul_add_div,Nat.div_eq_of_lt,Nat.mul_add_mod,Nat.mod_eq_of_lt]
def NH (ρ:Rho) (H:OH) (Y:Nat->Prop) (w:World) (v:Value) (b:List (List AV)) (sz:Nat) (f:List Value):Prop:=
 (∃A c,v= .slice A b.length c/\Rd w A f)/\f.length=b.length*sz/\(∀u∈f,u.oneCell'=true)/\(∀e∈b,∀x∈e,isPure x=true)/\
  ∀(i:Nat) e (j:Nat) y,b[i]?=some e->e[j]?=some y-> ∃u:Value,f[i*sz+j]?=some u/\u.oneCell'=true/\y.rel ρ H Y w u
theorem wt (sz:Nat) (A:Option Addr) (c:Nat):NH ρ H f w (.slice A 0 c) [] sz []:=
 ⟨⟨A,c,rfl,Rd.nil _ _⟩,by simp,by simp,by simp,fun i e j y h=>by simp at h⟩
theorem pY (ae: ∀(a r:Nat) (o:OObj),(H a)[r]?=some o->objRel ρ H f w a r o) {sz:Nat} (h:newsOf H q=some g) (M:q.rel ρ H f w c) (af: ∀e∈g,e.length=sz) (av:0<sz):
  ∃us,NH ρ H f w c g sz us:=by
 unfold newsOf at h;split at h
 ·rename_i B;injection h with h
  subst h;have M:bS f w (.sl B) c:=M;cases M with
  |nil a m=>exact⟨[],wt sz a m⟩
  |sl b p z cap B n hX hb I ai hm hc C=>
   by_cases ad:B=[]
   ·subst ad;exact⟨[],wt sz _ cap⟩
   have J:z=sz:=by
    cases a0:B with
    |nil=>grind
    |cons y ys=>
     simp_all
   subst J;have key: ∀k,k<B.length*z-> ∃e y,B[k/z]?=some e/\e[k%z]?=some y:=fun k D=>by
    simp_all[ahE,ahl,afp]
   have ap:((List.range (B.length*z)).map fun k=>n (k/z) (k%z)).length=B.length*z:=by simp
   refine⟨(List.range (B.length*z)).map fun k=>n (k/z) (k%z),⟨some ⟨b,p,none⟩,cap,by simp,fun _=>⟨b,p,rfl,fun k x R=>?_⟩⟩,by simp,fun u Q=>?_,?_,?_⟩
   ·grind [Nat.div_add_mod]
   ·obtain⟨k,D,rfl⟩:=aeL.1 Q;obtain⟨e,y,s,E⟩:=key k (by grind);exact(C _ e _ y s E).one
   ·intro e s x R;simp at s;obtain⟨S,_,rfl⟩:=s;simp at R;obtain⟨x',_,rfl⟩:=R;rfl
   intro i e j y s E;rw[aeG]at s;cases A:B[i]? with
   |none=>grind
   |some S=>
    rw[A]at s;simp at s;subst s;rw[aeG]at E;cases G:S[j]? with
    |none=>grind
    |some y'=>
     rw[G]at E;simp at E;subst E;have hj:j<z:=by grind
     have V:i<B.length:=(aeI.1 A).1;have D:i*z+j<B.length*z:=by
      have:(i+1)*z<=B.length*z:=ae2 _ V;grind
     refine⟨n i j,?_,(C i S j y' A G).one,C i S j y' A G⟩;grind [K8]
 ·injection h with h
  subst h;have:=(bo M).1;subst this;exact⟨[],wt sz _ _⟩
 ·rename_i a r p len;split at h
  ·rename_i o ho;split at h
   ·rename_i F;injection h with h
    subst h;simp only[aeP]at F;obtain⟨o',T,g2,g3⟩:=M;rw[ho]at T;injection T with T
    subst T;obtain⟨q1,q2,W⟩:=ae a r o ho;rcases g3 with⟨Z,U,gl,go⟩|⟨b,m,cap,Z,U,_⟩
    ·subst gl go;rw[Z]at W;simp only[W,List.take_nil,List.drop_nil];rw[U];exact⟨[],wt sz _ _⟩
    rw[Z]at W;obtain⟨cells,p1,p2,p3,p4,p5⟩:=W;have L:((o.elems.take (p+len)).drop p).length=len:=by simp;omega
    by_cases ac:len=0
    ·subst ac;have:(o.elems.take (p+0)).drop p=[]:=agD.1 L;rw[this,U];exact⟨[],wt sz _ _⟩
    have N: ∀(i:Nat) e,((o.elems.take (p+len)).drop p)[i]?=some e->i<len/\o.elems[p+i]?=some e:=fun i e s=>by
     grind
    have I:o.es=sz:=by
     obtain⟨e,s⟩:=getElem?_of_lt (l:=(o.elems.take (p+len)).drop p) (k:=0) (by omega);have h1:=af e (adQ s);grind
    subst I;have aa:(p+len)*o.es<=cells.size:=by rw[p2];exact ae2 _ (by omega)
    rw[ahr]at aa;have K: ∀k,k<len*o.es->((cells.toList.drop (p*o.es)).take (len*o.es))[k]?=cells[p*o.es+k]?:=fun k D=>by
     grind
    have ah:((cells.toList.drop (p*o.es)).take (len*o.es)).length=len*o.es:=by simp;omega
    have key: ∀k,k<len*o.es-> ∃(e:List AV) (y:AV),o.elems[p+k/o.es]?=some e/\e[k%o.es]?=some y:=fun k D=>by
     have V:k/o.es<len:=ahE (by grind);have ab:p+k/o.es<o.elems.length:=by omega
     refine⟨o.elems[p+k/o.es],o.elems[p+k/o.es][k%o.es]'(by simp_all[afp]),aeR ab,aeR _⟩
    refine⟨(cells.toList.drop (p*o.es)).take (len*o.es),⟨some ⟨b,p*o.es,none⟩,cap,by rw[U,L],fun _=>⟨b,p*o.es,rfl,fun k x R=>?_⟩⟩,by grind,fun u Q=>?_,fun e s x R=>?_,fun i e j y s E=>?_⟩
    ·grind [cell_of_row]
    ·obtain⟨k,D,Q⟩:=afW Q;have ag:=aeI.2 ⟨D,Q⟩;rw[ah]at D;rw[K k D]at ag;obtain⟨e,y,s,E⟩:=key k D;obtain⟨u',u1,u2,u3⟩:=p5 _ e _ y s E;have an:(p+k/o.es)*o.es+k%o.es=p*o.es+k:=by
      grind [Nat.div_add_mod]
     grind
    ·grind
    obtain⟨V,A⟩:=N i e s;have hj:j<o.es:=by grind
    obtain⟨u,u1,u2,u3⟩:=p5 _ e j y A E;refine⟨u,?_,u2,u3⟩;have D:i*o.es+j<len*o.es:=by
     have:(i+1)*o.es<=len*o.es:=ae2 _ V;grind
    grind
   cases h
  cases h
 cases h
theorem FY {a:Nat} (R:a<=4999) (q:objRel ρ H f w a n o) (C:(H a)[n]?=some o) (D:AV.rel ρ H f w (.sl a n 0 o.elems.length) c):
  ∃t,w.ownsRow 0 o.ty o.es c o.elems.length t/\(∀(i:Nat) e (j:Nat) x,o.elems[i]?=some e->e[j]?=some x-> ∃u:Value,t[i*o.es+j]?=some u/\u.oneCell'=true/\x.rel ρ H f w u)/\c.ownBlock=(ρ a n).map (·.1):=by
 obtain⟨U,V,s⟩:=q;obtain⟨T,l,N,y⟩:=D;rw[C]at l;injection l with l
 subst l;rcases y with⟨h,m,z,_⟩|⟨b,g,cap,h,m,_,Q⟩
 ·rw[h]at s;rw[m,h,z];refine⟨[],ah3 _ _ _ _,fun i e j x p=>?_,rfl⟩;grind
 rw[h]at s;obtain⟨cells,F,G,I,J,K⟩:=s;have B:(cells.toList.take (o.elems.length*o.es)).length=o.elems.length*o.es:=by
  simp_all
 refine⟨cells.toList.take (o.elems.length*o.es),⟨B,.inr ⟨b,g,cells,?_,afl _,F,I,J,G,rfl⟩⟩,fun i e j x p E=>?_,?_⟩
 ·grind
 ·obtain⟨u,W,L,M⟩:=K i e j x p E;refine⟨u,?_,L,M⟩;have A:i<o.elems.length:=(aeI.1 p).1;have S:j<o.es:=by grind
  have:(i+1)*o.es<=o.elems.length*o.es:=ae2 _ A;grind
 rw[m,h];rfl
end
end
section
section
variable {P:Program} {w0 w w':World} {O X:Nat->Prop} {ρ:Rho} {H:OH}
theorem EN {h:List Value} {elems:List (List AV)} {R:AV->Value->Prop} (s:b.length=elems.length*n) (m: ∀e∈elems,e.length=n) (p: ∀(i:Nat) e (j:Nat) x,elems[i]?=some e->e[j]?=some x-> ∃u:Value,b[i*n+j]?=some u/\u.oneCell'=true/\R x u) (l: ∀(i:Nat) e (j:Nat) x,g[i]?=some e->e[j]?=some x-> ∃u:Value,h[i*n+j]?=some u/\u.oneCell'=true/\R x u):
  ∀(i:Nat) e (j:Nat) x,(elems++g)[i]?=some e->e[j]?=some x-> ∃u:Value,(b++h)[i*n+j]?=some u/\u.oneCell'=true/\R x u:=by
 intro i e j x f c;by_cases q:i<elems.length
 ·grind
 rw[afs (by omega)]at f;obtain⟨u,t,o⟩:=l _ e j x f c;refine⟨u,?_,o⟩;have r:elems.length*n<=i*n:=ae2 _ (by omega);grind [Nat.mul_sub_right_distrib]
theorem O4 {a:Nat} {o:OObj} (l:w'.ownsRow 0 o.ty o.es c m b) (L:o.elems.length=m) (y:0<o.es) (t: ∀e∈o.elems,e.length=o.es) (s: ∀(i:Nat) e (j:Nat) x,o.elems[i]?=some e->e[j]?=some x-> ∃u:Value,b[i*o.es+j]?=some u/\u.oneCell'=true/\x.rel p r f w' u) (G:p a n=none->c= .slice none 0 0) (q: ∀g cap h,c= .slice (some ⟨g,0,none⟩) m cap->w'.heap[g]?=some (.cells h o.ty (0,0))->p a n=some (g,cap)) (A:c= .slice none 0 0->p a n=none):objRel p r f w' a n o:=by
 refine⟨t,y,?_⟩;obtain⟨K,C⟩:=l;rcases C with⟨B,I⟩|⟨g,cap,h,B,_,z,E,D,F,M⟩
 ·grind
 rw[q g cap h B z];refine⟨h,z,F,by omega,D,fun i e j x J N=>?_⟩;grind
theorem O5 {Y':Nat->Prop} {a:Nat} {o:OObj} (e:w'.ownsRow 0 o.ty o.es c m b) (t:o.elems.length=m) (l:(r a)[n]?=some o) (j: ∀g cap f,c= .slice (some ⟨g,0,none⟩) m cap->w'.heap[g]?=some (.cells f o.ty (0,0))->p a n=some (g,cap)) (h:c= .slice none 0 0->p a n=none):AV.rel p r Y' w' (.sl a n 0 m) c:=by
 refine⟨o,l,by omega,?_⟩;obtain⟨s,q⟩:=e;grind
def valρ:Value->Option (Nat×Nat)
 | .slice (some a) _ cap=>some (a.block,cap)
 |_=>none
theorem A1 (h:w.grownBy w' none):fm w w':=⟨h.os,h.tape,h.output,h.size,fun k b=>h.block k b (by simp)⟩
theorem KL (R:u.defers=[]) (K:u.tmps.size=s.tmps.length) (C:Inv w0 O X s.H ρ w) (L:bz X ρ s u w) {d:Nat} {vs:Value} (S:s.H d=[]) (J:0<n) (I: ∀x∈g,x.length=n) (E:NH ρ s.H (Xo X ρ s.H) w vs g n b) (p:w'.ownsRow 0 e n c g.length b) (T:w.grownBy w' none) (Z:c.ownBlock=none\/c.ownBlock=some w.heap.size):
  dP w0 O X (AS.put ⟨s.tmps,aK s.H d [⟨e,n,g⟩]⟩ (some d) (.one (.sl d 0 0 g.length))) (u.put (some d) c) w':=by
 obtain⟨_,V,_,U,G⟩:=E;have B:=A1 T;have W: ∀m l,valρ c=some (m,l)->m=w.heap.size:=fun m l h=>by
  rcases p.2 with⟨t,_⟩|⟨Q,cap,q,t,_⟩
  ·rw[t]at h;cases h
  grind [valρ,Value.ownBlock]
 have D: ∀(r f F:Nat),(if r=0 then valρ c else none)=some (f,F)->w.heap.size<=f:=fun r f F h=>by
  grind
 have z: ∀(m cap:Nat) (q:Array Value),c= .slice (some ⟨m,0,none⟩) g.length cap->w'.heap[m]?=some (.cells q e (0,0))->newρ ρ d (fun r=>if r=0 then valρ c else none) d 0=some (m,cap):=fun m cap q t _=>by
  rw[newρ_eq,if_pos rfl,t];rfl
 have v:c= .slice none 0 0->newρ ρ d (fun r=>if r=0 then valρ c else none) d 0=none:=fun t=>by rw[newρ_eq,if_pos rfl,t];rfl
 refine OY R K C L B S (fun r=>if r=0 then valρ c else none) D (fun r r' f l F h Y=>?_) (fun r o A=>?_) (fun r o A=>?_) ?_
 ·grind
 ·cases r with
  |succ r=>simp at A
  |zero=>simp at A;subst A;exact fun x M y N=>dj (U x M y N)
 ·cases r with
  |succ r=>simp at A
  |zero=>
   simp at A;subst A;refine O4 (o:=⟨e,n,g⟩) p rfl J I (fun i x j y M N=>?_) (fun h=>?_) z v
   ·grind [lN]
   rcases p.2 with⟨t,_⟩|⟨Q,cap,q,t,_,hh,_⟩
   ·exact t
   grind
 exact O5 (Y':=Xo X (newρ ρ d (fun r=>if r=0 then valρ c else none)) (aK s.H d [⟨e,n,g⟩])) (o:=⟨e,n,g⟩) p rfl (by rw[be];rfl) z v
theorem KM (A:Inv w0 O X s.H ρ w) (ba:bz X ρ s u w) {a:Nat} {us:List Value} {vs v':Value} (ho:(s.H a)[n]?=some o) (bq: ∀x∈g,x.length=o.es) (bh: ∀(i:Nat) e (j:Nat) x,o.elems[i]?=some e->e[j]?=some x-> ∃t:Value,b[i*o.es+j]?=some t/\t.oneCell'=true/\x.rel ρ s.H (Xo X ρ s.H) w t) (bb:b.length=o.elems.length*o.es) (a1:c.ownBlock=(ρ a n).map (·.1)) (a5:NH ρ s.H (Xo X ρ s.H) w vs g o.es us) (W:w'.ownsRow 0 o.ty o.es v' (o.elems.length+g.length) (b++us)) (hg:w.grownBy w' c.ownBlock) (hb:v'.ownBlock=c.ownBlock\/v'.ownBlock=some w.heap.size):
  let k:Nat->Nat->Bool:=fun x y=>x==a&&y==n
  let R:=aK s.H a (((s.H a).map (oI k)).set n {o with elems:=o.elems++g})
  (∀e∈o.elems,∀x∈e,isPure x=true)->
  ∃D,Inv w0 O X R D w'/\bz X D ⟨s.tmps.map (bi k),R⟩ u w'/\AV.rel D R (Xo X D R) w' (.sl a n 0 (o.elems.length+g.length)) v':=by
 intro k R a8;obtain⟨_,bt,_,hp,ap⟩:=a5;obtain⟨q1,q2,q3⟩:=A.objs a n o ho;have br:n<(s.H a).length:=(aeI.1 ho).1;have ab: ∀r':Nat,(R a)[r']?=if r'=n then some {o with elems:=o.elems++g}else((s.H a)[r']?).map (oI k):=fun r'=>by
  grind [be]
 have bl: ∀a',a'≠a->R a'=s.H a':=fun a' ha=>aU ha
 generalize bp:(fun x y=>if x=a/\y=n then valρ v' else ρ x y:Rho)=D;have N:D a n=valρ v':=by grind
 have I: ∀x y,¬(x=a/\y=n)->D x y=ρ x y:=fun x y h=>by grind
 have Y: ∀q m,valρ v'=some (q,m)->(∃c0,ρ a n=some (q,c0))\/q=w.heap.size:=fun q m h=>by
  rcases W.2 with⟨hv,_⟩|⟨g',cap,ae,hv,_⟩
  ·rw[hv]at h;cases h
  grind [valρ,Value.ownBlock]
 -- a ac row of R other than (a, n) is one of H, killed or not
 have G: ∀(x y:Nat) F,(R x)[y]?=some F-> ¬(x=a/\y=n)-> ∃J,(s.H x)[y]?=some J/\F.ty=J.ty/\F.es=J.es/\F.elems.length=J.elems.length/\(F=J/\x≠a\/F=oI k J):=fun x y F B a3=>by
  by_cases hx:x=a
  ·subst hx;rw[ab,if_neg (fun h=>a3 ⟨rfl,h⟩)]at B;obtain⟨J,K,g2⟩:=adT.1 B;grind [oI]
  grind
 have ac: ∀(x y:Nat) F,(s.H x)[y]?=some F-> ¬(x=a/\y=n)-> ∃J,(R x)[y]?=some J/\J.es=F.es/\J.elems.length=F.elems.length:=fun x y F B a3=>by
  grind
 have af: ∀l,l<w.heap.size->Xo X D R l->Xo X ρ s.H l:=fun l hb hX=>by
  rcases hX with hX|⟨x,y,F,m,K,g2⟩
  ·exact .inl hX
  by_cases E:x=a/\y=n
  ·obtain⟨rfl,rfl⟩:=E;rw[N]at g2;rcases Y l m g2 with⟨c0,U⟩|hh
   ·exact .inr ⟨x,y,o,c0,ho,U⟩
   omega
  obtain⟨J,k1,_⟩:=G x y F K E;rw[I x y E]at g2;exact .inr ⟨x,y,J,m,k1,g2⟩
 have mono: ∀x c,AV.rel ρ s.H (Xo X ρ s.H) w x c->AV.rel D R (Xo X D R) w' (aY k x) c:=kW (t7 k) fun x t hn hx=>by
  cases x with
  |fn=>cases hn
  |p x=>
   have Z:bS (fun l=>Xo X ρ s.H l\/Xo X D R l) w x t:=bS.weaken (fun l hb M=>M.elim id (af l hb)) hx;have z2:bS (fun l=>Xo X ρ s.H l\/Xo X D R l) w' x t:=bS.stays ⟨hg.size,fun p z hp M=>by
    have a7:=zg M;unfold World.cell? at M⊢;rw[hg.block _ a7 (fun C=>?_)]
    ·exact M
    apply hp;left;rw[a1]at C;cases hr:ρ a n with
    |none=>grind
    |some S=>
     rw[hr]at C;simp at C;exact .inr ⟨a,n,o,S.2,ho,by grind⟩⟩ Z
   exact bS.weaken (fun l _ M=> .inr M) z2
  |sl x y a6 len=>
   simp only[aY];by_cases E:x=a/\y=n
   ·obtain⟨rfl,rfl⟩:=E;simp[k];trivial
   have:k x y=false:=by grind
   simp only[this,afq,if_false];obtain⟨F,T,h2,h3⟩:=hx;obtain⟨J,K,g2,g3⟩:=ac x y F T E;exact⟨J,K,by omega,by grind⟩
  |ptr x y i j=>
   simp only[aY];by_cases E:x=a/\y=n
   ·obtain⟨rfl,rfl⟩:=E;simp[k];trivial
   have:k x y=false:=by grind
   simp only[this,afq,if_false];obtain⟨F,l,m,T,h2,h3,h4⟩:=hx;obtain⟨J,K,g2,g3⟩:=ac x y F T E;exact⟨J,l,m,K,by grind,by omega,by grind⟩
  |junk=>trivial
 have ad: ∀x c,isPure x=true->AV.rel ρ s.H (Xo X ρ s.H) w x c->AV.rel D R (Xo X D R) w' x c:=fun x t a9 hx=>by
  have:=mono x t hx;cases x<;>first|exact this|cases a9
 have ai:v'= .slice none 0 0->D a n=none:=fun hv=>by rw[N,hv];rfl
 have an: ∀(q cap:Nat) (ae:Array Value),v'= .slice (some ⟨q,0,none⟩) (o.elems.length+g.length) cap->w'.heap[q]?=some (.cells ae o.ty (0,0))->D a n=some (q,cap):=fun q cap ae hv _=>by rw[N,hv];rfl
 have ah:(o.elems++g).length=o.elems.length+g.length:=by simp
 have bn: ∀S,ρ a n=some S->S.1<w.heap.size:=fun S h=>bI (A.objs a n o ho) (b:=S.1) (c:=S.2) h
 refine⟨D,⟨?_,fun x y F B=>?_,fun x y x' y' F J l m c' B a4 L V=>?_,fun x y F l m B L=>?_,fun l hb=>aeT (A.bar l hb) hg.size,fun x y F B=>?_⟩,Fr ba mono,?_⟩
 ·refine⟨hg.os.trans A.keep.os,hg.tape.trans A.keep.tape,hg.output.trans A.keep.output,aeN A.keep.size hg.size,fun j hj hO=>?_⟩;rw[hg.block j (aeT hj A.keep.size) (fun C=>?_)]
  ·exact A.keep.block j hj hO
  rw[a1]at C;cases hr:ρ a n with
  |none=>grind
  |some S=>
   rw[hr]at C;simp at C;rcases(A.old a n o S.1 S.2 ho hr).1 with h|h
   ·omega
   grind
 ·by_cases E:x=a/\y=n
  ·obtain⟨rfl,rfl⟩:=E;rw[ab,if_pos rfl]at B;injection B with B
   subst B;refine O4 (o:={o with elems:=o.elems++g}) W ah q2 (fun e Q=>?_) (EN bb q1 (fun i e j z Q M=>?_) (fun i e j z Q M=>?_)) (fun h=>?_) an ai
   ·grind
   ·obtain⟨t,u1,u2,u3⟩:=bh i e j z Q M;exact⟨t,u1,u2,ad z t (a8 e (adQ Q) z (adQ M)) u3⟩
   ·obtain⟨t,u1,u2,u3⟩:=ap i e j z Q M;exact⟨t,u1,u2,ad z t (hp e (adQ Q) z (adQ M)) u3⟩
   rcases W.2 with⟨hv,_⟩|⟨g',cap,ae,hv,_,hh,_⟩
   ·exact hv
   grind
  obtain⟨J,K,g2,g3,g4,g5⟩:=G x y F B E;have bm: ∀l m,ρ x y=some (l,m)->w'.heap[l]?=w.heap[l]?:=fun l m hb=>hg.block l (bI (A.objs x y J K) hb) (fun C=>by
   rw[a1]at C;cases hr:ρ a n with
   |none=>grind
   |some S=>
    rw[hr]at C;simp at C;exact E (A.inj x y a n J o l m S.2 K ho hb (by grind)))
  rcases g5 with⟨rfl,bw⟩|rfl
  ·have a0:=A.self x y F K;obtain⟨Z,z2,z3⟩:=A.objs x y F K;refine⟨Z,z2,?_⟩;rw[I x y E];cases hr:ρ x y with
   |none=>grind
   |some S=>
    obtain⟨l,m⟩:=S;rw[hr]at z3;obtain⟨cells,p1,p2,p3,p4,p5⟩:=z3;refine⟨cells,by grind,p2,p3,p4,fun i e j z Q M=>?_⟩;obtain⟨t,u1,u2,u3⟩:=p5 i e j z Q M;refine⟨t,u1,u2,?_⟩;have hs:=a0 e (adQ Q) z (adQ M);have:=mono z t u3;cases z with
    |sl Z z2 a6 len=>have hs:Z=x:=hs;grind [aY]
    |ptr Z z2 i j=>have hs:Z=x:=hs;grind [aY]
    |p z=>exact this
    |fn f Z qs=>have hs:Z=x:=hs.1;have: ∀y,k Z y=false:=(fun y=>by grind);rename_i hm;simpa[aY,this] using hm
    |junk=>trivial
  obtain⟨Z,z2,z3⟩:=A.objs x y J K;refine⟨fun e Q=>?_,z2,?_⟩
  ·simp only[oI,aeL]at Q;grind
  rw[I x y E];cases hr:ρ x y with
  |none=>grind
  |some S=>
   obtain⟨l,m⟩:=S;rw[hr]at z3;obtain⟨cells,p1,p2,p3,p4,p5⟩:=z3;refine⟨cells,by grind,p2,by omega,p4,fun i e j z Q M=>?_⟩;simp only[oI,aeG]at Q;obtain⟨e',av,rfl⟩:=adT.1 Q;rw[aeG]at M;obtain⟨z',a2,rfl⟩:=adT.1 M;obtain⟨t,u1,u2,u3⟩:=p5 i e' j z' av a2;grind
 ·by_cases T:x=a/\y=n
  ·obtain⟨rfl,rfl⟩:=T;by_cases h2:x'=x/\y'=y
   ·omega
   exfalso;rw[N]at L;rw[I x' y' h2]at V;obtain⟨ag,K,_⟩:=G x' y' J a4 h2;rcases Y l m L with⟨c0,U⟩|hh
   ·have:=A.inj x' y' x y ag o l c' c0 K ho V U;omega
   have:=bI (A.objs x' y' ag K) V;omega
  by_cases h2:x'=a/\y'=n
  ·exfalso;obtain⟨rfl,rfl⟩:=h2;rw[N]at V;rw[I x y T]at L;obtain⟨aa,K,_⟩:=G x y F B T;rcases Y l c' V with⟨c0,U⟩|hh
   ·have:=A.inj x y x' y' aa o l m c0 K ho L U;omega
   have:=bI (A.objs x y aa K) L;omega
  rw[I x y T]at L;rw[I x' y' h2]at V;obtain⟨aa,K,_⟩:=G x y F B T;obtain⟨ag,g2,_⟩:=G x' y' J a4 h2;exact A.inj x y x' y' aa ag l m c' K g2 L V
 ·by_cases T:x=a/\y=n
  ·obtain⟨rfl,rfl⟩:=T;rw[N]at L;rcases Y l m L with⟨c0,U⟩|hh
   ·exact A.old x y o l c0 ho U
   have:=A.keep.size;exact⟨.inl (by omega),fun hX=>by have:=A.bar l hX;omega⟩
  rw[I x y T]at L;obtain⟨aa,K,_⟩:=G x y F B T;exact A.old x y aa l m K L
 ·by_cases T:x=a/\y=n
  ·obtain⟨rfl,rfl⟩:=T;rw[ab,if_pos rfl]at B;injection B with B
   subst B;intro e Q z M;grind [dj]
  obtain⟨J,K,g2,g3,g4,g5⟩:=G x y F B T;rcases g5 with⟨rfl,_⟩|rfl
  ·exact A.self x y F K
  intro e Q z M;simp only[oI,aeL]at Q;obtain⟨e',av,rfl⟩:=Q;simp only[aeL]at M;obtain⟨z',a2,rfl⟩:=M;have:=A.self x y J K e' av z' a2;cases z' with
  |sl Z z2 a6 len=>simp only[aY];split;trivial;omega
  |ptr Z z2 i j=>simp only[aY];split;trivial;omega
  |fn f Z qs=>simp only[aY];split;trivial;omega
  |p z=>trivial
  |junk=>trivial
 exact O5 (o:={o with elems:=o.elems++g}) W ah (by grind) an ai
end
end
end Go.Proofs.YtalmoejhjceflaaGreat
