/-
  Part 7 of a proof (walks and plain facts).
-/
import Derived.Test.YtalmoejhjceflaaGreatQ05
set_option linter.all false
set_option maxRecDepth 100000
set_option maxHeartbeats 64000000
namespace Go.Proofs.YtalmoejhjceflaaGreat
open Go.RowKit
variable {n m:Nat} {b c:Nat->Prop} {e:Value} {f:List OObj} {g:TypeId} {s:AS} {h:List AV} {j:Nat->Option (Nat×Nat)} {l:TV} {o:List Nat} {p:OH} {q:OObj} {r:List Value} {t:Rho} {u:Oper} {v:AV}
section
section
variable {P:Program} {w0 w w':World} {O X:Nat->Prop} {ρ:Rho} {H:OH}
theorem Ext.stays (h:Ext w w'):Yb b w w':=⟨h.size,fun _ _ _ c=>h.cell c⟩
theorem Keep.ext (h:Keep O w0 w) (e:Ext w w'):Keep O w0 w':=
 ⟨e.os.trans h.os,e.tape.trans h.tape,e.output.trans h.output,acl h.size e.size,fun k b c=>by
  rw[e.block k (acp b h.size)];exact h.block k b c⟩
theorem Keep.refl (w:World):Keep O w w:=⟨rfl,rfl,rfl,acs _,fun _ _ _=>rfl⟩
theorem qM {f:FuncId} {a:Nat} {l:List (Nat×Nat×Nat)} (p: ∀j,H j=[]) (h:(AV.fn f a l).rel ρ H b w e):False:=by
 obtain⟨vs,_,_,m,n⟩:=h;obtain⟨u,_,o,j,c,g,_⟩:=n 0 l[0] (acy m);grind
theorem AV.rel_ext (c:Ext w w') (h:v.rel ρ H b w e):v.rel ρ H b w' e:=by
 cases v with
 |fn f a l=>exact h
 |p v=>exact bS.stays c.stays h
 |sl a r g len=>exact h
 |ptr a r i j=>exact h
 |junk=>exact h
theorem rX (f:bM ρ H b w h e) (k: ∀x e,x.rel ρ H b w e->AV.rel t p c w' x e):bM t p c w' h e:=by
 obtain⟨vs,g,l,m⟩:=f;exact⟨vs,g,l,fun j x n=>by grind⟩
theorem TV.rel_map (h:l.rel ρ H b w e) (k: ∀x e,x.rel ρ H b w e->AV.rel t p c w' x e):l.rel t p c w' e:=by
 cases l with
 |one x=>exact k _ _ h
 |agg o=>exact rX h k
 |fn f o=>obtain⟨u,m,n⟩:=h;exact⟨u,rX m k,n⟩
 |tup s=>
  obtain⟨vs,m,n,q⟩:=h;refine⟨vs,m,n,fun j g o r=>?_⟩;grind [rX]
theorem d9 {a:Nat} (h:objRel ρ H b w a n q) (g:t a n=ρ a n) (u: ∀e f,ρ a n=some (e,f)->w'.heap[e]?=w.heap[e]?) (k: ∀x v,x.rel ρ H b w v->AV.rel t p c w' x v):objRel t p c w' a n q:=by
 obtain⟨j,l,s⟩:=h;refine⟨j,l,?_⟩;rw[g];cases y:ρ a n with
 |none=>grind
 |some m=>
  grind
theorem bz {Y:Nat->Prop} {a:Nat} {b c:Nat} (h:objRel ρ H Y w a n q) (e:ρ a n=some (b,c)):b<w.heap.size:=by
 obtain⟨_,_,f⟩:=h;grind
def bo (X:Nat->Prop) (ρ:Rho) (s:AS) (a:Act) (w:World):Prop:= ∀(t:Nat) x,s.tmps[t]?=some x-> ∃v:Value,a.tmps[t]?=some v/\x.rel ρ s.H (Xo X ρ s.H) w v
theorem bv {a:Act} (h:bo X ρ s a w):jL ρ s.H (Xo X ρ s.H) w s.ev a.eval:=by
 intro x t b;cases x with
 |tmp k=>
  obtain⟨v,c,e⟩:=h k t b;simp_all[Act.eval]
 |const v=>simp only[AS.ev]at b;injection b with b;subst b;exact G9 v
 |global g=>simp only[AS.ev]at b;injection b with b;subst b;exact b7 rfl
 |func f=>simp only[AS.ev]at b;injection b with b;subst b;exact b7 rfl
theorem kK (a:Act) (d:Option Tmp) (v:Value):(a.put d v).tmps.size=a.tmps.size:=by cases d<;>simp[Act.put]
theorem ke (s:AS) (d:Option Tmp) (t:TV):(s.put d t).tmps.length=s.tmps.length:=by cases d<;>simp[AS.put]
theorem gP (s:AS) (d:Option Tmp) (t:TV):(s.put d t).H=s.H:=by cases d<;>rfl
theorem gX (a:Act) (d:Option Tmp) (v:Value):(a.put d v).defers=a.defers:=by cases d<;>rfl
theorem qo {s:AS} {a:Act} {d:Option Tmp} (f:a.tmps.size=s.tmps.length) (h:bo X ρ s a w) (g:l.rel ρ s.H (Xo X ρ s.H) w e):bo X ρ (s.put d l) (a.put d e) w:=by
 intro k x b;rw[gP];cases d with
 |none=>exact h k x b
 |some d=>
  simp only[AS.put]at b;simp only[Act.put];by_cases c:d=k
  ·grind
  rw[ac4 c]at b;rw[afm c];exact h k x b
theorem fG {s:AS} {a:Act} {d:Option Tmp} {t:TV} {v:Value} (f:a.defers=[]) (b:a.tmps.size=s.tmps.length) (c:Inv w0 O X s.H ρ w) (h:bo X ρ s a w) (e:t.rel ρ s.H (Xo X ρ s.H) w v):dq w0 O X (s.put d t) (a.put d v) w:=by
 refine⟨by grind [gX],by grind [kK,ke],ρ,by grind [gP],?_⟩;exact qo b h e
theorem Inv.grow (h:Inv w0 O X H ρ w) (e:Ext w w'):Inv w0 O X H ρ w':=
 ⟨h.keep.ext e,fun a r o g=>d9 (h.objs a r o g) rfl (fun b c f=>e.block b (bz (h.objs a r o g) f)) (fun _ _ j=>AV.rel_ext e j),h.inj,h.old,fun b f=>acp (h.bar b f) e.size,h.self⟩
theorem bo.grow {a:Act} (h:bo X ρ s a w) (e:Ext w w'):bo X ρ s a w':=fun t x b=>by
 obtain⟨v,c,f⟩:=h t x b;grind [TV.rel_map,AV.rel_ext]
def newρ (ρ:Rho) (d:Nat) (f:Nat->Option (Nat×Nat)):Rho:=fun a r=>if a=d then f r else ρ a r
theorem aM {d a:Nat} (h:a≠d):aF p d f a=p a:=if_neg h
theorem aS {d:Nat}:aF p d f d=f:=if_pos rfl
theorem newρ_ne {d a:Nat} (h:a≠d) (r:Nat):newρ ρ d j a r=ρ a r:=if_neg h
theorem newρ_eq {d:Nat} (r:Nat):newρ ρ d j d r=j r:=if_pos rfl
theorem kH (u:Inv w0 O X H ρ w) (g:Ext w w') {d:Nat} {F:List OObj} (C:H d=[]) {f:Nat->Option (Nat×Nat)} (y: ∀r b c,f r=some (b,c)->w.heap.size<=b) (h:v.rel ρ H (Xo X ρ H) w e):v.rel (newρ ρ d f) (aF H d F) (Xo X (newρ ρ d f) (aF H d F)) w' e:=by
 have q: ∀(a r:Nat) o,(H a)[r]?=some o->a≠d:=fun a r o D n=>by grind
 refine tM (fun v e z h=>?_) v e h;cases v with
 |fn=>cases z
 |p v=>
  refine bS.stays g.stays (bS.weaken (fun b B s=>?_) h);rcases s with s|⟨a,r,o,c,l,m⟩
  ·exact .inl s
  by_cases n:a=d
  ·grind [newρ_eq]
  rw[newρ_ne n]at m;rw[aM n]at l;exact .inr ⟨a,r,o,c,l,m⟩
 |sl a r A len=>
  obtain⟨o,l,m,t⟩:=h;have n:=q a r o l;refine⟨o,by grind [aM],m,?_⟩;grind [newρ_ne]
 |ptr a r i j=>
  obtain⟨o,b,c,l,m,t⟩:=h;have n:=q a r o l;refine⟨o,b,c,by grind [aM],by grind [newρ_ne],t⟩
 |junk=>trivial
theorem MC {a:Act} (g:Inv w0 O X s.H ρ w) (B:bo X ρ s a w) (e:Ext w w') {d:Nat} {F:List OObj} (G:s.H d=[]) (f:Nat->Option (Nat×Nat)) (q: ∀r b c,f r=some (b,c)->w.heap.size<=b) (C: ∀r t b c y,f r=some (b,c)->f t=some (b,y)->r=t) (A: ∀(r:Nat) o,F[r]?=some o->selfO d o) (I: ∀(r:Nat) o,F[r]?=some o->objRel (newρ ρ d f) (aF s.H d F) (Xo X (newρ ρ d f) (aF s.H d F)) w' d r o):Inv w0 O X (aF s.H d F) (newρ ρ d f) w'/\bo X (newρ ρ d f) ⟨s.tmps,aF s.H d F⟩ a w':=by
 refine⟨?_,?_⟩
 ·refine⟨g.keep.ext e,fun a r o j=>?_,fun a r u t o D b c y j p m n=>?_,fun a r o b c j m=>?_,fun b z=>acp (g.bar b z) e.size,fun a r o j=>?_⟩
  ·by_cases l:a=d
   ·grind [aS]
   simp only[aM l]at j;exact d9 (g.objs a r o j) (newρ_ne l r) (fun b c z=>e.block b (bz (g.objs a r o j) z)) (fun _ _ m=>kH g e G q m)
  ·by_cases l:a=d
   ·subst l;rw[newρ_eq]at m;by_cases h:u=a
    ·grind [newρ_eq]
    rw[newρ_ne h]at n;simp only[aM h]at p;have:=bz (g.objs u t D p) n;grind
   rw[newρ_ne l]at m;simp only[aM l]at j;by_cases h:u=d
   ·subst h;rw[newρ_eq]at n;have:=bz (g.objs a r o j) m;grind
   rw[newρ_ne h]at n;simp only[aM h]at p;exact g.inj a r u t o D b c y j p m n
  ·by_cases l:a=d
   ·subst l;rw[newρ_eq]at m;have:=q _ _ _ m;have M:=g.keep.size;exact⟨.inl (by omega),fun E=>by have:=g.bar b E;omega⟩
   rw[newρ_ne l]at m;simp only[aM l]at j;exact g.old a r o b c j m
  by_cases l:a=d
  ·grind [aS]
  simp only[aM l]at j;exact g.self a r o j
 intro k x J;obtain⟨v,K,L⟩:=B k x J;grind [TV.rel_map,kH]
theorem Eo {a:Act} (B:a.defers=[]) (x:a.tmps.size=s.tmps.length) (p:Inv w0 O X s.H ρ w) (y:bo X ρ s a w) (g:Ext w w') {d:Nat} (C:s.H d=[]) (j:Nat->Option (Nat×Nat)) (q: ∀r b c,j r=some (b,c)->w.heap.size<=b) (n: ∀r z b c A,j r=some (b,c)->j z=some (b,A)->r=z) (m: ∀(r:Nat) o,f[r]?=some o->selfO d o) (u: ∀(r:Nat) o,f[r]?=some o->objRel (newρ ρ d j) (aF s.H d f) (Xo X (newρ ρ d j) (aF s.H d f)) w' d r o) (D:l.rel (newρ ρ d j) (aF s.H d f) (Xo X (newρ ρ d j) (aF s.H d f)) w' e):dq w0 O X (AS.put ⟨s.tmps,aF s.H d f⟩ (some d) l) (a.put (some d) e) w':=by
 have h:=MC p y g C j q n m u;exact fG (ρ:=newρ ρ d j) B x h.1 h.2 D
theorem df {a:Nat} (b:isPure v=true):bH a v:=by
 cases v<;>first|trivial|cases b
theorem ni (w:World) (o:Obj):Ext w (w.alloc o):=(Ext.refl w).alloc o
theorem x6 {a:Act} (M:a.defers=[]) (E:a.tmps.size=s.tmps.length) (g:Inv w0 O X s.H ρ w) (F:bo X ρ s a w) {d:Nat} {e:TypeId} {es c:Nat} {elems:List (List AV)} {cells:Array Value} (G:s.H d=[]) (D:0<es) (C: ∀x∈elems,x.length=es) (B:cells.size=c*es) (p:elems.length<=c) (N:c<=9223372036854775807) (I: ∀x∈elems,∀y∈x,isPure y=true) (m: ∀(i:Nat) x (j:Nat) y,elems[i]?=some x->x[j]?=some y-> ∃v:Value,cells[i*es+j]?=some v/\v.oneCell'=true/\y.rel ρ s.H (Xo X ρ s.H) w v) {t:TV} {v:Value} (R:(t= .one (.ptr d 0 0 0)/\0<elems.length/\v= .pointer (some ⟨w.heap.size,0,none⟩))\/(t= .one (.sl d 0 0 elems.length)/\v= .slice (some ⟨w.heap.size,0,none⟩) elems.length c)):
  dq w0 O X (AS.put ⟨s.tmps,aF s.H d [⟨e,es,elems⟩]⟩ (some d) t) (a.put (some d) v) (w.alloc (.cells cells e)):=by
 have l: ∀(r b A:Nat),(if r=0 then some (w.heap.size,c)else none)=some (b,A)->w.heap.size<=b:=fun r b A h=>by
  grind
 have key: ∀y v,isPure y=true->AV.rel ρ s.H (Xo X ρ s.H) w y v->AV.rel (newρ ρ d fun r=>if r=0 then some (w.heap.size,c)else none) (aF s.H d [⟨e,es,elems⟩]) (Xo X (newρ ρ d fun r=>if r=0 then some (w.heap.size,c)else none) (aF s.H d [⟨e,es,elems⟩])) (w.alloc (.cells cells e)) y v:=fun y v _ h=>
  kH g (ni w _) G (f:=fun r=>if r=0 then some (w.heap.size,c)else none) l h
 refine Eo M E g F (ni w _) G (fun r=>if r=0 then some (w.heap.size,c)else none) l (fun r T b c A h S=>?_) (fun r o n=>?_) (fun r o n=>?_) ?_
 ·grind
 ·cases r with
  |succ r=>simp at n
  |zero=>
   simp at n;subst n;exact fun x q y z=>df (I x q y z)
 ·cases r with
  |succ r=>simp at n
  |zero=>
   simp at n;subst n;refine⟨C,D,?_⟩;rw[newρ_eq];refine⟨cells,heap_alloc_new w _,B,p,N,fun i x j y q z=>?_⟩;obtain⟨u,J,K,L⟩:=m i x j y q z;exact⟨u,J,K,key y u (I x (acd q) y (acd z)) L⟩
 rcases R with⟨rfl,Q,rfl⟩|⟨rfl,rfl⟩
 ·exact⟨⟨e,es,elems⟩,w.heap.size,c,by simp[aS],by rw[newρ_eq];rfl,Q,by simp⟩
 exact⟨⟨e,es,elems⟩,by simp[aS],by simp,.inr ⟨w.heap.size,c,c,by rw[newρ_eq];rfl,by simp,p,fun _=>rfl⟩⟩
end
end
section
section
variable {P:Program} {w0 w w':World} {O X:Nat->Prop} {ρ:Rho} {H:OH}
theorem mc (h:dQ P g=some r): ∃i b,P.info? g=some i/\i.zero=some b/\b.cells.toList=r:=by
 unfold dQ at h;cases c:P.info? g with
 |none=>grind
 |some i=>
  simp_all
theorem ze (h:LK P g=some n): ∃i,P.info? g=some i/\i.bytes=n:=by
 unfold LK at h;simp_all
theorem AT {i:TypeInfo} (h:P.info? g=some i) (b:i.zero=some e):(zeroValue g).run P w= .ok e w:=by
 simp_all[zeroValue,EM]
theorem AR (t:TypeId) (c:Array Value):(newRow t c).run P w= .ok ⟨w.heap.size,0,none⟩ (w.alloc (.cells c t)):=rfl
theorem MM (t:TypeId) (v:Value):(Instr.box t v).run P w= .ok (.pointer (some ⟨w.heap.size,0,none⟩)) (w.alloc (.cells v.cells t)):=rfl
theorem Kp {i:TypeInfo} (h:P.info? g=some i) (b:i.zero=some e):
  (Instr.alloc g true (.tuple #[])).run P w= .ok (.pointer (some ⟨w.heap.size,0,none⟩)) (w.alloc (.cells e.cells g)):=by
 unfold Instr.alloc;rw[acv,AT h b,acj];rfl
theorem Hq (n:Nat):(askRoom n).run P w= .ok () w:=by
 simp
def pu (z:List Value) (n:Nat):Array Value:=(Array.range n).map fun k=>z.toArray[k%z.toArray.size]!
theorem JZ (z:List Value) (n:Nat):(pu z n).size=n:=by simp[pu]
theorem Or {i:Nat} (b:r[m]?=some e) (c:i*r.length+m<n):(pu r n)[i*r.length+m]?=some e:=by
 grind [pu,Nat.mul_comm,Nat.mul_add_mod,Nat.mod_eq_of_lt]
theorem Pb {b:TypeId} {i:TypeInfo} (q:P.underlying g=some (.slice b)) (j:P.info? b=some i) (s:i.zero=some e) (h:e.cells.toList=r) (f:r.length=i.size) (v u:IntKind) {n m:Int} (A:0<=n) (o:n<=m) (l:m<=9223372036854775807) (B:(i.bytes:Int)*m<=281474976710656):
  (Instr.makeSlice g (.int v n) (.int u m)).run P w= .ok (.slice (some ⟨w.heap.size,0,none⟩) n.toNat m.toNat) (w.alloc (.cells (pu r (m.toNat*r.length)) b)):=by
 have x:IntKind.i64.wrap n=n:=afk _ (by omega);have y:IntKind.i64.wrap m=m:=afk _ (by omega);have p:(sizeOf b).run P w= .ok i.size w:=by simp_all[sizeOf,EM]
 have t1:decide (m<0)=false:=by simp;omega
 have t2:decide ((i.bytes:Int)*m>2^48)=false:=by simp;omega
 have t3:decide (n<0)=false:=by simp;omega
 have t4:decide (n>m)=false:=by simp;omega
 unfold Instr.makeSlice;simp only[acv,run_underlying q,acj,asInt,asIntOf,adl,EM j,x,y,t1,t2,t3,t4,agD,ada,if_false,Hq,p];by_cases c:m.toNat*i.size=0
 ·grind [Sem.run_bind,Result.andThen_ok,AR,Sem.run_pure,pu]
 rw[if_neg c];simp only[acv,AT j s,acj,adl,AR];rw[f,<- h];rfl
theorem CF {ev:Operand->Option TV} {e:Operand->Value} {Y:Nat->Prop} (n:jL ρ H Y w ev e) {sz:Nat}: ∀(parts:List (Nat×Operand)) (m:Nat) (l:List (List AV)) (cells:Array Value),
  sI ev sz m parts=some l->(m+l.length)*sz<=cells.size->
  ∃b,Instr.fill (fun i=>some (i*sz,sz)) cells (parts.map fun(i,x)=>(i,e x))=some b/\b.size=cells.size/\(∀j:Nat,j<m*sz->b[j]?=cells[j]?)/\
   (∀x∈l,x.length=sz/\ ∀y∈x,isPure y=true)/\
   ∀(i:Nat) x (j:Nat) y,l[i]?=some x->x[j]?=some y-> ∃u:Value,b[(m+i)*sz+j]?=some u/\u.oneCell'=true/\y.rel ρ H Y w u
 |[],m,l,cells,h,_=>by
  simp only[sI]at h;injection h with h
  subst h;exact⟨cells,rfl,rfl,fun _ _=>rfl,fun x s=>(by simp at s),fun i x j y s=>(by simp at s)⟩
 |(k,x)::o,m,l,cells,h,r=>by
  simp only[sI]at h;split at h
  ·rename_i f z p q;split at h
   ·rename_i C;obtain⟨A,L,M⟩:=C;injection h with h
    subst h;subst A;obtain⟨t,F,v⟩:=acG.1 p;obtain⟨J,W⟩:=kp v (n x t F);simp only[acC]at r;have E:(k+(z.length+1))*sz=k*sz+(z.length*sz+sz):=by grind
    generalize G:(e x).cells=g at*
    obtain⟨g⟩:=g;have K:g.length=f.length:=J;obtain⟨f1,f2⟩:=v8 (k*sz) g 0 cells (by omega);have N:(g.toArray.zipIdx.foldl (fun f (c,j)=>f.setIfInBounds (k*sz+j) c) cells)=((g.zipIdx 0).foldl (fun f (c,j)=>f.setIfInBounds (k*sz+j) c) cells):=by
     simp
    have D:(k+1)*sz=k*sz+sz:=by grind
    obtain⟨b,Q,B,R,S,T⟩:=CF n o (k+1) z (cells:=(g.zipIdx 0).foldl (fun f (c,j)=>f.setIfInBounds (k*sz+j) c) cells) q (by grind);refine⟨b,?_,by rw[B,f1],fun j U=>?_,fun y I=>?_,fun i y j u I V=>?_⟩
    ·grind [Instr.fill]
    ·grind
    ·grind
    cases i with
    |zero=>
     grind
    |succ i=>
     grind
   cases h
  cases h
def jJ (s:AS) (d:Nat) (t:TV) (F:List OObj):AS:=if F.isEmpty then s.put (some d) t else AS.put ⟨s.tmps,aF s.H d F⟩ (some d) t
theorem Rs {b:List (cG P)} {i d:Nat} {a:Act} (B:a.defers=[]) (q:a.tmps.size=s.tmps.length) (m:Inv w0 O X s.H ρ w) (n:bo X ρ s a w) {x:Operand} (G:u.op= .box g x) (h:cB P b o i d s.ev s.H u.op=some (l,f)) (E:s.H d=[]):
  ∃v w',(execOp a.eval u).run P w= .ok (.value v) w'/\dq w0 O X (jJ s d l f) (a.put (some d) v) w':=by
 unfold execOp;rw[G]at h⊢;simp only[cB]at h;split at h
 ·rename_i L p;split at h
  ·rename_i D;injection h with h
   injection h with r C
   subst r C;obtain⟨l,r,A⟩:=acG.1 p;obtain⟨K,M⟩:=kp A (bv n x l r);refine⟨_,_,fD (MM g (a.eval x)),?_⟩;refine x6 B q m n (c:=1) E D.2 (by simp) (by simp[K]) (by simp) (by omega) (fun y I z J=>?_) (fun k y j z I J=>?_) (.inl ⟨rfl,by simp,rfl⟩)
   ·grind
   grind
  cases h
 cases h
theorem Jv {n:List (cG P)} {i d:Nat} {a:Act} (E:a.defers=[]) (q:a.tmps.size=s.tmps.length) (p:Inv w0 O X s.H ρ w) (r:bo X ρ s a w) (K:u.op= .alloc g) (h:cB P n o i d s.ev s.H u.op=some (l,f)) (I:s.H d=[]):
  ∃v w',(execOp a.eval u).run P w= .ok (.value v) w'/\dq w0 O X (jJ s d l f) (a.put (some d) v) w':=by
 unfold execOp;rw[K]at h⊢;simp only[cB]at h;split at h
 ·rename_i z M;split at h
  ·rename_i C;injection h with h
   injection h with L G
   subst L G;obtain⟨i,S,J,B,A⟩:=mc M;obtain⟨N,Q⟩:=Hj (ρ:=ρ) (H:=s.H) (X:=Xo X ρ s.H) (w:=w) C.1;refine⟨_,_,fD (Kp J B),?_⟩;have D:z.toArray=S.cells:=by rw[<- A]
   rw[D]at N Q;refine x6 E q p r (c:=1) I C.2 (by simp) (by grind) (by simp) (by omega) (fun y x R m=>?_) (fun k y j R x m=>?_) (.inl ⟨rfl,by simp,rfl⟩)
   ·simp at x;subst x;simp at m;obtain⟨b,_,rfl⟩:=m;rfl
   grind
  cases h
 cases h
theorem NZ {D:List (cG P)} {i d:Nat} {a:Act} (K:a.defers=[]) (R:a.tmps.size=s.tmps.length) (E:Inv w0 O X s.H ρ w) (C:bo X ρ s a w) {b c:Operand} (ho:u.op= .makeSlice g b c) (h:cB P D o i d s.ev s.H u.op=some (l,f)) (hd:s.H d=[]):
  ∃v w',(execOp a.eval u).run P w= .ok (.value v) w'/\dq w0 O X (jJ s d l f) (a.put (some d) v) w':=by
 unfold execOp;rw[ho]at h⊢;simp only[cB]at h;split at h
 ·rename_i k1 n k2 m e hl hc hs;split at h
  ·rename_i z sz Y hz J M;split at h
   ·rename_i B;obtain⟨Z,c2,c3,c4,c5,c6,U⟩:=B;injection h with h
    injection h with ht hF
    subst ht hF;obtain⟨i,zv,N,T,S⟩:=mc hz;obtain⟨i',q,W⟩:=vm J;rw[N]at q;injection q with q;subst q
    obtain⟨i',q,V⟩:=ze M;rw[N]at q;injection q with q;subst q
    have I:=Pb (P:=P) (w:=w) (dZ hs) N T S (by omega) k1 k2 Z c2 c3 (by grind);have hn:=(aZ (bv C b _ hl)).1;have hm:=(aZ (bv C c _ hc)).1;refine⟨_,_,fD (by rw[hn,hm];exact I),?_⟩;simp only[acr]at U;have G: ∀(k:Nat) x,(List.replicate n.toNat (z.map AV.raw))[k]?=some x->k<n.toNat/\x=z.map AV.raw:=fun k x hx=>by
     grind
    have A:(List.replicate n.toNat (z.map AV.raw)).length=n.toNat:=by simp
    have:=x6 K R E C (c:=m.toNat) (e:=e) (es:=sz) (elems:=List.replicate n.toNat (z.map AV.raw)) (cells:=pu z (m.toNat*z.length)) hd c6 (by grind) (by rw[JZ,c5]) (by simp;omega) (by omega)
     (fun y L z' r=>by simp[aev]at L;rw[L.2]at r;simp at r;obtain⟨p,_,rfl⟩:=r;rfl)
     (fun k y j z' L r=>by
      obtain⟨hk,rfl⟩:=G k y L;rw[ach]at r;cases Q:z[j]? with
      |none=>grind
      |some p=>
       rw[Q]at r;simp at r;subst r;have K:=U p (acd Q);have aa:j<z.length:=(aci.1 Q).1;have ab:k*z.length+j<m.toNat*z.length:=by
        have:(k+1)*z.length<=m.toNat*z.length:=acu _ (by omega);grind
       refine⟨p,?_,K,bS.raw p K⟩;grind [Or])
     (t:= .one (.sl d 0 0 n.toNat)) (v:= .slice (some ⟨w.heap.size,0,none⟩) n.toNat m.toNat) (.inr ⟨by rw[A],by rw[A]⟩)
    exact this
   cases h
  cases h
 cases h
theorem Ru {K:List (cG P)} {i d:Nat} {a:Act} (h1:a.defers=[]) (N:a.tmps.size=s.tmps.length) (q:Inv w0 O X s.H ρ w) (G:bo X ρ s a w) {parts:Array (Nat×Operand)} (ho:u.op= .buildSlice g n parts) (h:cB P K o i d s.ev s.H u.op=some (l,f)) (hd:f≠[]->s.H d=[]):
  ∃v w',(execOp a.eval u).run P w= .ok (.value v) w'/\dq w0 O X (jJ s d l f) (a.put (some d) v) w':=by
 unfold execOp;rw[ho]at h⊢;simp only[cB]at h;split at h
 ·rename_i e hs;split at h
  ·rename_i z sz hz Q;split at h
   ·rename_i m L;split at h
    ·rename_i E;obtain⟨R,c2,c3,S⟩:=E;obtain⟨i,zv,hi,ab,ad⟩:=mc hz;have aa:((Array.range (n*sz)).map (zv.cells[· %zv.cells.size]!))=pu z (n*sz):=by grind [pu]
     obtain⟨cells,g1,g2,g3,T,g5⟩:=CF (bv G) parts.toList 0 m (pu z (n*sz)) L (by grind);have C:(Instr.buildSlice g n (parts.map fun(i,x)=>(i,a.eval x))).run P w= .ok (.slice (some ⟨w.heap.size,0,none⟩) n n) (w.alloc (.cells cells e)):=by
      have D:Instr.fill (fun i=>some (i*sz,sz)) (pu z (n*sz)) (parts.map fun(i,x)=>(i,a.eval x)).toList=some cells:=by simp_all
      unfold Instr.buildSlice;simp only[acv,run_underlying (dZ hs),acj,eD Q];rw[if_neg (by omega)];by_cases M:n*sz=0
      ·rw[if_pos M];have Z:pu z (n*sz)= #[]:=by grind
       rw[Z]at D;rw[acv];show Result.andThen (.ok #[] w) _=_;rw[acj];rw[show(Array.map (fun x=>(#[]:Array Value)[x%(#[]:Array Value).size]!) (Array.range (n*sz)))= #[] by grind,D];rfl
      rw[if_neg M];simp only[acv,AT hi ab,adl,acj];rw[aa,D];rfl
     split at h
     ·injection h with h
      injection h with ht U
      subst ht U;refine⟨_,_,fD C,?_⟩;have:=x6 h1 N q G (c:=n) (e:=e) (es:=sz) (elems:=m) (cells:=cells) (hd (by simp)) S (fun x A=>(T x A).1) (by grind) (by omega)
       (by have:n*1<=n*sz:=acq _ S;omega) (fun x A=>(T x A).2)
       (fun i x j y A B=>by grind)
       (t:= .one (.sl d 0 0 n)) (v:= .slice (some ⟨w.heap.size,0,none⟩) n n) (.inr ⟨by rw[R],by rw[R]⟩)
      exact this
     injection h with h
     injection h with ht U
     subst ht U;refine⟨_,_,fD C,?_⟩;refine fG h1 N (q.grow (ni w _)) (G.grow (ni w _)) ?_;show bS _ _ _ _;have hl:(m.map (List.map yu)).length=n:=by simp[R]
     have W: ∀(i:Nat) x (j:Nat) y,(m.map (List.map yu))[i]?=some x->x[j]?=some y-> ∃p:Value,cells[i*sz+j]?=some p/\bS (Xo X ρ s.H) w y p:=fun i x j y A B=>by
      rw[ach]at A;cases I:m[i]? with
      |none=>grind
      |some x'=>
       rw[I]at A;simp at A;subst A;rw[ach]at B;cases J:x'[j]? with
       |none=>grind
       |some y'=>
        rw[J]at B;simp at B;subst B;obtain⟨p,u1,u2,u3⟩:=g5 i x' j y' I J;have hp:=(T x' (acd I)).2 y' (acd J);refine⟨p,by grind,?_⟩;cases y'<;>first|exact u3|cases hp
     have Y: ∃b:Nat->Nat->Value,∀(i:Nat) x (j:Nat) y,(m.map (List.map yu))[i]?=some x->x[j]?=some y->cells[i*sz+j]?=some (b i j)/\bS (Xo X ρ s.H) w y (b i j):=by
      refine⟨fun i j=>(cells[i*sz+j]?).getD undef,fun i x j y A B=>?_⟩;grind
     obtain⟨b,Y⟩:=Y;have ac:n<=16777216:=by have:n*1<=n*sz:=acq _ S;omega
     have:=bS.sl (X:=Xo X ρ s.H) (w:=w.alloc (.cells cells e)) w.heap.size 0 sz n (m.map (List.map yu)) b (fun V=>by
      rcases V with V|⟨a',r,o',c,q1,q2⟩
      ·have:=q.bar _ V;omega
      ·have:=bz (q.objs a' r o' q1) q2;omega) (by simp) (fun x A=>by grind) (by omega) (by omega)
      (fun i x j y A B=>by
       grind [cell_of_row,heap_alloc_new])
      (fun i x j y A B=>bS.stays (ni w _).stays (Y i x j y A B).2)
     grind
    cases h
   cases h
  cases h
 cases h
end
end
section
section
variable {P:Program} {w0 w w':World} {O X:Nat->Prop} {ρ:Rho} {H:OH}
structure But (b:Nat) (w w':World):Prop where
 os:w'.os=w.os
 tape:w'.tape=w.tape
 output:w'.output=w.output
 size:w.heap.size<=w'.heap.size
 block: ∀k,k<w.heap.size->k≠b->w'.heap[k]?=w.heap[k]?
theorem But.setRow (w:World) (b:Nat) (c:Array Value):But b w (w.setRow b c):=
 ⟨rfl,rfl,rfl,by simp,fun k f e=>by grind [World.setRow]⟩
theorem Keep.but (h:Keep O w0 w) (e:But n w w') (g:w0.heap.size<=n\/O n):Keep O w0 w':=
 ⟨e.os.trans h.os,e.tape.trans h.tape,e.output.trans h.output,acl h.size e.size,fun k c f=>by
  rw[e.block k (acp c h.size) (by grind)];exact h.block k c f⟩
theorem pU {y:OH} {b:Nat} (B:Xo X ρ H b) (f:But b w w') (g: ∀(a r:Nat) o,(H a)[r]?=some o-> ∃l,(y a)[r]?=some l/\l.es=o.es/\o.elems.length<=l.elems.length/\t a r=ρ a r) (C: ∀(a r:Nat) o m c,(y a)[r]?=some o->t a r=some (m,c)->m<w.heap.size->Xo X ρ H m) (h:v.rel ρ H (Xo X ρ H) w e):v.rel t y (Xo X t y) w' e:=by
 refine tM (fun v e L h=>?_) v e h;cases v with
 |fn=>cases L
 |p v=>
  refine bS.stays ⟨f.size,fun p u M E=>?_⟩ (bS.weaken (fun m K z=>?_) h)
  ·have D:=xT E;by_cases s:p.block=b
   ·exfalso;apply M;obtain B|⟨a,r,o,c,n,A⟩:=B
    ·exact .inl (s▸B)
    obtain⟨l,q,F,G,I⟩:=g a r o n;exact .inr ⟨a,r,l,c,q,by grind⟩
   unfold World.cell? at E⊢;rw[f.block _ D s];exact E
  rcases z with z|⟨a,r,o,c,n,A⟩
  ·exact .inl z
  grind
 |sl a r N len=>
  obtain⟨o,n,A,J⟩:=h;obtain⟨l,q,F,G,I⟩:=g a r o n;refine⟨l,q,by omega,?_⟩;grind
 |ptr a r i j=>
  obtain⟨o,m,c,n,A,J,Q⟩:=h;obtain⟨l,q,F,G,I⟩:=g a r o n;exact⟨l,m,c,q,by grind,by omega,by grind⟩
 |junk=>trivial
theorem ye {b:OObj} (h:f[n]?=some q):(f.set n b)[m]?=if m=n then some b else f[m]?:=by
 grind
theorem EC {c:List AV} (b:n+c.length<=h.length):(putCells h n c).length=h.length:=by
 grind [putCells]
theorem EB {c:List AV} (b:n+c.length<=h.length) (k:Nat):(putCells h n c)[k]?=if n<=k/\k<n+c.length then c[k-n]? else h[k]?:=EP b k
theorem FY {i j c b:Nat} (h:n≠i) (f:j+b<=m) (e:c<m): ¬(i*m+j<=n*m+c/\n*m+c<i*m+j+b):=by
 rcases Nat.lt_or_gt_of_ne h with h|h
 ·have:(n+1)*m<=i*m:=acu _ h;grind
 have:(i+1)*m<=n*m:=acu _ h;grind
theorem Dc {act:Act} (h1:act.defers=[]) (bb:act.tmps.size=s.tmps.length) (f:Inv w0 O X s.H ρ w) (a5:bo X ρ s act w) {a i j c:Nat} {L:List AV} {vs:List Value} (V:(s.H a)[n]?=some q) (I:ρ a n=some (m,c)) (he:q.elems[i]?=some h) (hj:j+L.length<=h.length) (a6:vs.length=L.length) (ag: ∀(k:Nat) x,L[k]?=some x-> ∃u:Value,vs[k]?=some u/\u.oneCell'=true/\x.rel ρ s.H (Xo X ρ s.H) w u) (a4: ∀x∈L,bH a x):
  ∃cells,w.heap[m]?=some (.cells cells q.ty (0,0))/\i*q.es+j+vs.length<=cells.size/\
   Inv w0 O X (aF s.H a ((s.H a).set n {q with elems:=q.elems.set i (putCells h j L)})) ρ (w.setRow m (cells.toList.take (i*q.es+j)++vs++cells.toList.drop (i*q.es+j+vs.length)).toArray)/\
   bo X ρ ⟨s.tmps,aF s.H a ((s.H a).set n {q with elems:=q.elems.set i (putCells h j L)})⟩ act (w.setRow m (cells.toList.take (i*q.es+j)++vs++cells.toList.drop (i*q.es+j+vs.length)).toArray):=by
 have af:=f.objs a n q V;obtain⟨q1,q2,q3⟩:=af;rw[I]at q3;obtain⟨cells,p1,p2,p3,p4,p5⟩:=q3;have a9:h.length=q.es:=q1 h (acd he);have hi:i<q.elems.length:=(aci.1 he).1;have ad:i*q.es+j+vs.length<=cells.size:=by
  have:(i+1)*q.es<=c*q.es:=acu _ (by omega);grind
 refine⟨cells,p1,ad,?_⟩;have ah:Xo X ρ s.H m:= .inr ⟨a,n,q,c,V,I⟩;generalize ap:(cells.toList.take (i*q.es+j)++vs++cells.toList.drop (i*q.es+j+vs.length))=cl;have S: ∀k:Nat,cl[k]?=if i*q.es+j<=k/\k<i*q.es+j+vs.length then vs[k-(i*q.es+j)]? else cells[k]?:=fun k=>by
  rw[<- ap,EP (by omega)];simp
 have av:cl.length=cells.size:=by grind
 have e0:=But.setRow w m cl.toArray;generalize aa:aF s.H a ((s.H a).set n {q with elems:=q.elems.set i (putCells h j L)})=H';have N: ∀z,(H' a)[z]?=if z=n then some {q with elems:=q.elems.set i (putCells h j L)}else(s.H a)[z]?:=fun z=>by rw[<- aa,aS];grind
 have a8: ∀p,p≠a->H' p=s.H p:=fun p ha=>by rw[<- aa,aM ha]
 have U: ∀(p z:Nat) A,(s.H p)[z]?=some A-> ∃o',(H' p)[z]?=some o'/\o'.es=A.es/\A.elems.length<=o'.elems.length/\ρ p z=ρ p z:=fun p z A g=>by
  grind
 have l: ∀(p z:Nat) A,(H' p)[z]?=some A-> ∃K,(s.H p)[z]?=some K/\A.es=K.es/\(p=a/\z=n\/A=K):=fun p z A g=>by
  by_cases ha:p=a
  ·grind
  grind
 have R: ∀(p z:Nat) A Q Z,(H' p)[z]?=some A->ρ p z=some (Q,Z)->Q<w.heap.size->Xo X ρ s.H Q:=fun p z A Q Z g G _=>by
  obtain⟨K,D,_⟩:=l p z A g;exact .inr ⟨p,z,K,Z,D,G⟩
 have F: ∀x v,AV.rel ρ s.H (Xo X ρ s.H) w x v->AV.rel ρ H' (Xo X ρ H') (w.setRow m cl.toArray) x v:=fun x v B=>pU ah e0 U R B
 refine⟨⟨f.keep.but e0 (f.old a n q m c V I).1,fun p z A g=>?_,fun C J a2 r2 A K Y c1 c2 g a0 G a3=>?_,fun C J A Y c1 g G=>?_,fun Y al=>acp (f.bar Y al) e0.size,fun C J A g=>?_⟩,fun t x B=>?_⟩
 ·obtain⟨K,D,g2,M⟩:=l p z A g;by_cases ab:p=a/\z=n
  ·obtain⟨rfl,rfl⟩:=ab;rw[N,if_pos rfl]at g;injection g with g
   subst g;refine⟨fun y hy=>?_,q2,?_⟩
   ·grind [EC]
   rw[I];refine⟨cl.toArray,setRow_heap w m cells _ _ _ p1,by grind,by grind,p4,fun i' e' j' x E B=>?_⟩;simp only[List.getElem?_toArray];rw[S];by_cases T:i'=i
   ·subst T;rw[adj]at E;simp[hi]at E;subst E;rw[EB hj]at B;split at B
    ·rename_i ba;rw[if_pos (by omega)];obtain⟨u,u1,u2,u3⟩:=ag _ _ B;exact⟨u,by rw[show i'*q.es+j'-(i'*q.es+j)=j'-j by omega];exact u1,u2,F _ _ u3⟩
    grind
   rw[ac4 (aed T)]at E;have ae:j'<e'.length:=(aci.1 B).1;rw[q1 e' (acd E)]at ae;rw[if_neg (by rw[a6];exact FY T (by omega) ae)];grind
  rcases M with M|M
  ·omega
  subst M;refine d9 (f.objs p z A D) rfl (fun Q Z ac=>e0.block Q (bz (f.objs p z A D) ac) (fun an=>?_)) F;subst an;exact ab (f.inj p z a n A q Q Z c D V ac I)
 ·obtain⟨W,D,_⟩:=l C J A g;obtain⟨a7,g2,_⟩:=l a2 r2 K a0;exact f.inj C J a2 r2 W a7 Y c1 c2 D g2 G a3
 ·obtain⟨W,D,_⟩:=l C J A g;exact f.old C J W Y c1 D G
 ·obtain⟨K,D,g2,M⟩:=l C J A g;rcases M with⟨rfl,rfl⟩|M
  ·rw[N,if_pos rfl]at g;injection g with g
   subst g;intro y hy x B;rcases adG hy with hy|rfl
   ·exact f.self C J q V y hy x B
   unfold putCells at B;simp only[adh]at B;rcases B with(B|B)|B
   ·exact f.self C J q V h (acd he) x (aef B)
   ·grind
   exact f.self C J q V h (acd he) x (aeH B)
  subst M;exact f.self C J A D
 obtain⟨v,v1,v2⟩:=a5 t x B;grind [TV.rel_map]
theorem xo {t:TypeId} {v:Value} {cells:Array Value} (c:i7 P t=some v.cells.size) (f:w.heap[n]?=some (.cells cells g (0,0))) (h:m+v.cells.size<=cells.size) (e: ∀u∈v.cells,u.oneCell'=true):
  (Instr.storeAt t (.pointer (some ⟨n,m,none⟩)) v).run P w= .ok () (w.setRow n (cells.toList.take m++v.cells.toList++cells.toList.drop (m+v.cells.size)).toArray):=by
 unfold Instr.storeAt storeVar;simp only[Instr.sureAddr,acv,adl,acj,eD c];grind [run_storeCells_at]
end
end
section
section
variable {P:Program} {w0 w w':World} {O X:Nat->Prop} {ρ:Rho} {H:OH}
theorem sE {k:Nat->Nat->Bool} (h:l.rel ρ H b w e) (r: ∀x e,x.rel ρ H b w e->AV.rel t p c w' (aR k x) e):(aT k l).rel t p c w' e:=by
 have agg: ∀m e,bM ρ H b w m e->bM t p c w' (m.map (aR k)) e:=fun m e h=>by
  obtain⟨vs,n,o,q⟩:=h;refine⟨vs,n,by grind,fun j x s=>?_⟩;grind
 cases l with
 |one x=>exact r _ _ h
 |agg m=>exact agg m e h
 |fn f m=>obtain⟨u,n,o⟩:=h;exact⟨u,agg m u n,o⟩
 |tup y=>
  obtain⟨vs,n,o,q⟩:=h;refine⟨vs,n,by grind,fun j g m s=>?_⟩;grind
theorem D3 {k:Nat->Nat->Bool} {s:AS} {a:Act} (h:bo X ρ s a w) (f: ∀x v,x.rel ρ s.H (Xo X ρ s.H) w v->AV.rel t p (Xo X t p) w' (aR k x) v):bo X t ⟨s.tmps.map (aT k),p⟩ a w':=by
 intro b x c;simp only[ach]at c;cases e:s.tmps[b]? with
 |none=>grind
 |some y=>
  rw[e]at c;simp at c;subst c;obtain⟨v,g,j⟩:=h b y e;grind [sE]
theorem CH (l:Inv w0 O X H ρ w) {a b:Nat} (Z:b<=4999) (W:b≠a) (hb:H b=[q]) (hp: ∀e∈q.elems,∀x∈e,isPure x=true):
  Inv w0 O X (aF (aF H a (H a++[q])) b []) (fun x y=>if x=a/\y=(H a).length then ρ b 0 else ρ x y) w/\
  (∀x v,AV.rel ρ H (Xo X ρ H) w x v->AV.rel (fun x y=>if x=a/\y=(H a).length then ρ b 0 else ρ x y) (aF (aF H a (H a++[q])) b []) (Xo X (fun x y=>if x=a/\y=(H a).length then ρ b 0 else ρ x y) (aF (aF H a (H a++[q])) b [])) w (aR (fun x _=>x==b) x) v)/\
  (∀B len v,AV.rel ρ H (Xo X ρ H) w (.sl b 0 B len) v->AV.rel (fun x y=>if x=a/\y=(H a).length then ρ b 0 else ρ x y) (aF (aF H a (H a++[q])) b []) (Xo X (fun x y=>if x=a/\y=(H a).length then ρ b 0 else ρ x y) (aF (aF H a (H a++[q])) b [])) w (.sl a (H a).length B len) v):=by
 generalize U:aF (aF H a (H a++[q])) b []=t;generalize ac:(fun x y=>if x=a/\y=(H a).length then ρ b 0 else ρ x y:Rho)=ρ1;have af:t b=[]:=by rw[<- U];exact aS
 have ae:t a=H a++[q]:=by rw[<- U,aM (aed W),aS]
 have ag: ∀x,x≠a->x≠b->t x=H x:=fun x A E=>by rw[<- U,aM E,aM A]
 have ad: ∀x y,¬(x=a/\y=(H a).length)->ρ1 x y=ρ x y:=fun x y h=>by grind
 have S:ρ1 a (H a).length=ρ b 0:=by grind
 have Y:(H b)[0]?=some q:=by rw[hb];rfl
 -- I: a live row of H that is not of b is the same in t
 have J: ∀(x y:Nat) o,(H x)[y]?=some o->x≠b->(t x)[y]?=some o/\ρ1 x y=ρ x y:=fun x y o D hx=>by
  grind
 -- g: a live row of t is one of H
 have g: ∀(x y:Nat) o,(t x)[y]?=some o-> ∃r s,(H r)[s]?=some o/\ρ1 x y=ρ r s/\((r=x/\s=y/\x≠b)\/(x=a/\y=(H a).length/\r=b/\s=0/\o=q)):=fun x y o D=>by
  grind
 have V: ∀c,Xo X ρ1 t c->Xo X ρ H c:=fun c N=>by
  rcases N with N|⟨x,y,o,n,A,E⟩
  ·exact .inl N
  obtain⟨r,s,C,K,_⟩:=g x y o A;exact .inr ⟨r,s,o,n,C,by grind⟩
 have M: ∀x v,bS (Xo X ρ H) w x v->bS (Xo X ρ1 t) w x v:=fun x v h=>bS.weaken (fun c _ N=>V c N) h
 have mono: ∀x v,AV.rel ρ H (Xo X ρ H) w x v->AV.rel ρ1 t (Xo X ρ1 t) w (aR (fun x _=>x==b) x) v:=ic (oN _) fun x v hn h=>by
  cases x with
  |fn=>cases hn
  |p x=>exact M x v h
  |sl x y B len=>
   simp only[aR];by_cases m:x=b
   ·subst m;simp;trivial
   simp only[beq_iff_eq,m,if_false];obtain⟨o,A,E,T⟩:=h;obtain⟨f1,f2⟩:=J x y o A m;exact⟨o,f1,E,by grind⟩
  |ptr x y i j=>
   simp only[aR];by_cases m:x=b
   ·subst m;simp;trivial
   simp only[beq_iff_eq,m,if_false];obtain⟨o,b',c,A,E,T⟩:=h;obtain⟨f1,f2⟩:=J x y o A m;exact⟨o,b',c,f1,by grind,T⟩
  |junk=>trivial
 have same: ∀z x v,bH z x->z≠b->AV.rel ρ H (Xo X ρ H) w x v->AV.rel ρ1 t (Xo X ρ1 t) w x v:=fun z x v F G h=>by
  have:=mono x v h;cases x with
  |fn f x qs=>
   have F:x=z:=F.1;grind [aR]
  |sl x y B len=>
   have F:x=z:=F;grind [aR]
  |ptr x y i j=>
   have F:x=z:=F;grind [aR]
  |p x=>exact this
  |junk=>trivial
 refine⟨⟨l.keep,fun x y o D=>?_,fun x y r s o o' c n n' D aa hr ah=>?_,fun x y o c n D hr=>?_,l.bar,fun x y o D=>?_⟩,mono,fun B len v h=>?_⟩
 ·obtain⟨r,s,C,K,L⟩:=g x y o D;have R:=l.objs r s o C;obtain⟨q1,q2,q3⟩:=R;refine⟨q1,q2,?_⟩;rw[K];cases hr:ρ r s with
  |none=>grind
  |some bc=>
   obtain⟨b',c⟩:=bc;rw[hr]at q3;obtain⟨cells,p1,p2,p3,p4,p5⟩:=q3;refine⟨cells,p1,p2,p3,p4,fun i e j z Q G=>?_⟩;obtain⟨u,u1,u2,u3⟩:=p5 i e j z Q G;refine⟨u,u1,u2,?_⟩;have al:=l.self r s o C e (acd Q) z (acd G);rcases L with⟨rfl,rfl,m⟩|⟨rfl,rfl,rfl,rfl,rfl⟩
   ·grind
   have ab:=hp e (acd Q) z (acd G);cases z<;>first|exact M _ _ u3|cases ab
 ·obtain⟨x1,y1,C,K,L⟩:=g x y o D;obtain⟨x2,y2,k1,k2,k3⟩:=g r s o' aa;obtain⟨e1,e2⟩:=l.inj x1 y1 x2 y2 o o' c n n' C k1 (by grind) (by grind);omega
 ·obtain⟨x1,y1,C,K,L⟩:=g x y o D;exact l.old x1 y1 o c n C (by grind)
 ·obtain⟨r,s,C,K,L⟩:=g x y o D;rcases L with⟨rfl,rfl,m⟩|⟨rfl,rfl,rfl,rfl,rfl⟩
  ·exact l.self r s o C
  exact fun e Q z G=>df (hp e Q z G)
 obtain⟨o,A,E,T⟩:=h;rw[Y]at A;injection A with A
 subst A;exact⟨q,by grind,E,qw Z T S⟩
end
end
end Go.Proofs.YtalmoejhjceflaaGreat
