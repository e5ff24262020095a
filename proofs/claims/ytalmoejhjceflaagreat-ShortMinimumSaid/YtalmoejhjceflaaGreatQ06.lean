/-
  Part 7 of a proof (walks and plain facts).
-/
import Derived.Test.YtalmoejhjceflaaGreatQ05
set_option linter.all false
set_option maxRecDepth 100000
set_option maxHeartbeats 64000000
namespace Go.Proofs.YtalmoejhjceflaaGreat
open Go.RowKit
variable {n m:Nat} {b c:Nat->Prop} {e:Value} {f:TypeId} {g:List OObj} {s:AS} {h:List AV} {j:Nat->Option (Nat×Nat)} {l:TV} {o:OObj} {p:OH} {q:List Nat} {r:Rho} {t:List Value} {u:Oper} {v:AV}
section
section
variable {P:Program} {w0 w w':World} {O X:Nat->Prop} {ρ:Rho} {H:OH}
theorem Ext.stays (h:Ext w w'):Yb b w w':=⟨h.size,fun _ _ _ c=>h.cell c⟩
theorem Keep.ext (h:Keep O w0 w) (e:Ext w w'):Keep O w0 w':=
 ⟨e.os.trans h.os,e.tape.trans h.tape,e.output.trans h.output,acl h.size e.size,fun k b c=>by
  rw[e.block k (acp b h.size)];exact h.block k b c⟩
theorem Keep.refl (w:World):Keep O w w:=⟨rfl,rfl,rfl,acs _,fun _ _ _=>rfl⟩
theorem qM {f:FuncId} {a:Nat} {l:List (Nat×Nat×Nat)} (p: ∀j,H j=[]) (h:(AV.fn f a l).rel ρ H b w e):False:=by
 obtain⟨vs,_,_,m,n⟩:=h;obtain⟨u,_,o,j,c,g,_⟩:=n 0 l[0] (acy m);grind
theorem AV.rel_ext (c:Ext w w') (h:v.rel ρ H b w e):v.rel ρ H b w' e:=by
 cases v with
 |fn f a l=>exact h
 |p v=>exact bS.stays c.stays h
 |sl a r g len=>exact h
 |ptr a r i j=>exact h
 |junk=>exact h
theorem rX (f:bM ρ H b w h e) (k: ∀x e,x.rel ρ H b w e->AV.rel r p c w' x e):bM r p c w' h e:=by
 obtain⟨vs,g,l,m⟩:=f;exact⟨vs,g,l,fun j x n=>by grind⟩
theorem TV.rel_map (h:l.rel ρ H b w e) (k: ∀x e,x.rel ρ H b w e->AV.rel r p c w' x e):l.rel r p c w' e:=by
 cases l with
 |one x=>exact k _ _ h
 |agg o=>exact rX h k
 |fn f o=>obtain⟨u,m,n⟩:=h;exact⟨u,rX m k,n⟩
 |tup y=>
  obtain⟨vs,m,n,q⟩:=h;refine⟨vs,m,n,fun j g o s=>?_⟩;grind [rX]
theorem d9 {a:Nat} (h:objRel ρ H b w a n o) (g:r a n=ρ a n) (s: ∀e f,ρ a n=some (e,f)->w'.heap[e]?=w.heap[e]?) (k: ∀x v,x.rel ρ H b w v->AV.rel r p c w' x v):objRel r p c w' a n o:=by
 obtain⟨j,l,q⟩:=h;refine⟨j,l,?_⟩;rw[g];cases t:ρ a n with
 |none=>grind
 |some m=>
  grind
theorem bz {Y:Nat->Prop} {a:Nat} {b c:Nat} (h:objRel ρ H Y w a n o) (e:ρ a n=some (b,c)):b<w.heap.size:=by
 obtain⟨_,_,f⟩:=h;grind
def bo (X:Nat->Prop) (ρ:Rho) (s:AS) (a:Act) (w:World):Prop:= ∀(t:Nat) x,s.tmps[t]?=some x-> ∃v:Value,a.tmps[t]?=some v/\x.rel ρ s.H (Xo X ρ s.H) w v
theorem bv {a:Act} (h:bo X ρ s a w):jL ρ s.H (Xo X ρ s.H) w s.ev a.eval:=by
 intro x t b;cases x with
 |tmp k=>
  obtain⟨v,c,e⟩:=h k t b;simp_all[Act.eval]
 |const v=>simp only[AS.ev]at b;injection b with b;subst b;exact G9 v
 |global g=>simp only[AS.ev]at b;injection b with b;subst b;exact b7 rfl
 |func f=>simp only[AS.ev]at b;injection b with b;subst b;exact b7 rfl
theorem kK (a:Act) (d:Option Tmp) (v:Value):(a.put d v).tmps.size=a.tmps.size:=by cases d<;>simp[Act.put]
theorem ke (s:AS) (d:Option Tmp) (t:TV):(s.put d t).tmps.length=s.tmps.length:=by cases d<;>simp[AS.put]
theorem gP (s:AS) (d:Option Tmp) (t:TV):(s.put d t).H=s.H:=by cases d<;>rfl
theorem gX (a:Act) (d:Option Tmp) (v:Value):(a.put d v).defers=a.defers:=by cases d<;>rfl
theorem qo {s:AS} {a:Act} {d:Option Tmp} (f:a.tmps.size=s.tmps.length) (h:bo X ρ s a w) (g:l.rel ρ s.H (Xo X ρ s.H) w e):bo X ρ (s.put d l) (a.put d e) w:=by
 intro k x b;rw[gP];cases d with
 |none=>exact h k x b
 |some d=>
  simp only[AS.put]at b;simp only[Act.put];by_cases c:d=k
  ·grind
  rw[ac4 c]at b;rw[afm c];exact h k x b
theorem fG {s:AS} {a:Act} {d:Option Tmp} {t:TV} {v:Value} (f:a.defers=[]) (b:a.tmps.size=s.tmps.length) (c:Inv w0 O X s.H ρ w) (h:bo X ρ s a w) (e:t.rel ρ s.H (Xo X ρ s.H) w v):dq w0 O X (s.put d t) (a.put d v) w:=by
 refine⟨by grind [gX],by grind [kK,ke],ρ,by grind [gP],?_⟩;exact qo b h e
theorem Inv.grow (h:Inv w0 O X H ρ w) (e:Ext w w'):Inv w0 O X H ρ w':=
 ⟨h.keep.ext e,fun a r o g=>d9 (h.objs a r o g) rfl (fun b c f=>e.block b (bz (h.objs a r o g) f)) (fun _ _ j=>AV.rel_ext e j),h.inj,h.old,fun b f=>acp (h.bar b f) e.size,h.self⟩
theorem bo.grow {a:Act} (h:bo X ρ s a w) (e:Ext w w'):bo X ρ s a w':=fun t x b=>by
 obtain⟨v,c,f⟩:=h t x b;grind [TV.rel_map,AV.rel_ext]
def newρ (ρ:Rho) (d:Nat) (f:Nat->Option (Nat×Nat)):Rho:=fun a r=>if a=d then f r else ρ a r
theorem aM {d a:Nat} (h:a≠d):aF p d g a=p a:=if_neg h
theorem aS {d:Nat}:aF p d g d=g:=if_pos rfl
theorem newρ_ne {d a:Nat} (h:a≠d) (r:Nat):newρ ρ d j a r=ρ a r:=if_neg h
theorem newρ_eq {d:Nat} (r:Nat):newρ ρ d j d r=j r:=if_pos rfl
theorem kH (y:Inv w0 O X H ρ w) (l:Ext w w') {d:Nat} (D:H d=[]) {f:Nat->Option (Nat×Nat)} (z: ∀r b c,f r=some (b,c)->w.heap.size<=b) (h:v.rel ρ H (Xo X ρ H) w e):v.rel (newρ ρ d f) (aF H d g) (Xo X (newρ ρ d f) (aF H d g)) w' e:=by
 have s: ∀(a r:Nat) o,(H a)[r]?=some o->a≠d:=fun a r o E q=>by grind
 refine tM (fun v e A h=>?_) v e h;cases v with
 |fn=>cases A
 |p v=>
  refine bS.stays l.stays (bS.weaken (fun b C t=>?_) h);rcases t with t|⟨a,r,o,c,m,n⟩
  ·exact .inl t
  by_cases q:a=d
  ·grind [newρ_eq]
  rw[newρ_ne q]at n;rw[aM q]at m;exact .inr ⟨a,r,o,c,m,n⟩
 |sl a r B len=>
  obtain⟨o,m,n,u⟩:=h;have q:=s a r o m;refine⟨o,by grind [aM],n,?_⟩;grind [newρ_ne]
 |ptr a r i j=>
  obtain⟨o,b,c,m,n,u⟩:=h;have q:=s a r o m;refine⟨o,b,c,by grind [aM],by grind [newρ_ne],u⟩
 |junk=>trivial
theorem MC {a:Act} (g:Inv w0 O X s.H ρ w) (B:bo X ρ s a w) (e:Ext w w') {d:Nat} {F:List OObj} (G:s.H d=[]) (f:Nat->Option (Nat×Nat)) (q: ∀r b c,f r=some (b,c)->w.heap.size<=b) (C: ∀r t b c y,f r=some (b,c)->f t=some (b,y)->r=t) (A: ∀(r:Nat) o,F[r]?=some o->selfO d o) (I: ∀(r:Nat) o,F[r]?=some o->objRel (newρ ρ d f) (aF s.H d F) (Xo X (newρ ρ d f) (aF s.H d F)) w' d r o):Inv w0 O X (aF s.H d F) (newρ ρ d f) w'/\bo X (newρ ρ d f) ⟨s.tmps,aF s.H d F⟩ a w':=by
 refine⟨?_,?_⟩
 ·refine⟨g.keep.ext e,fun a r o j=>?_,fun a r u t o D b c y j p m n=>?_,fun a r o b c j m=>?_,fun b z=>acp (g.bar b z) e.size,fun a r o j=>?_⟩
  ·by_cases l:a=d
   ·grind [aS]
   simp only[aM l]at j;exact d9 (g.objs a r o j) (newρ_ne l r) (fun b c z=>e.block b (bz (g.objs a r o j) z)) (fun _ _ m=>kH g e G q m)
  ·by_cases l:a=d
   ·subst l;rw[newρ_eq]at m;by_cases h:u=a
    ·grind [newρ_eq]
    rw[newρ_ne h]at n;simp only[aM h]at p;have:=bz (g.objs u t D p) n;grind
   rw[newρ_ne l]at m;simp only[aM l]at j;by_cases h:u=d
   ·subst h;rw[newρ_eq]at n;have:=bz (g.objs a r o j) m;grind
   rw[newρ_ne h]at n;simp only[aM h]at p;exact g.inj a r u t o D b c y j p m n
  ·by_cases l:a=d
   ·subst l;rw[newρ_eq]at m;have:=q _ _ _ m;have M:=g.keep.size;exact⟨.inl (by omega),fun E=>by have:=g.bar b E;omega⟩
   rw[newρ_ne l]at m;simp only[aM l]at j;exact g.old a r o b c j m
  by_cases l:a=d
  ·grind [aS]
  simp only[aM l]at j;exact g.self a r o j
 intro k x J;obtain⟨v,K,L⟩:=B k x J;grind [TV.rel_map,kH]
theorem Eo {a:Act} (B:a.defers=[]) (x:a.tmps.size=s.tmps.length) (p:Inv w0 O X s.H ρ w) (y:bo X ρ s a w) (j:Ext w w') {d:Nat} (C:s.H d=[]) (f:Nat->Option (Nat×Nat)) (q: ∀r b c,f r=some (b,c)->w.heap.size<=b) (n: ∀r z b c A,f r=some (b,c)->f z=some (b,A)->r=z) (m: ∀(r:Nat) o,g[r]?=some o->selfO d o) (u: ∀(r:Nat) o,g[r]?=some o->objRel (newρ ρ d f) (aF s.H d g) (Xo X (newρ ρ d f) (aF s.H d g)) w' d r o) (D:l.rel (newρ ρ d f) (aF s.H d g) (Xo X (newρ ρ d f) (aF s.H d g)) w' e):dq w0 O X (AS.put ⟨s.tmps,aF s.H d g⟩ (some d) l) (a.put (some d) e) w':=by
 have h:=MC p y j C f q n m u;exact fG (ρ:=newρ ρ d f) B x h.1 h.2 D
theorem df {a:Nat} (b:isPure v=true):bH a v:=by
 cases v<;>first|trivial|cases b
theorem ni (w:World) (o:Obj):Ext w (w.alloc o):=(Ext.refl w).alloc o
theorem x6 {a:Act} (M:a.defers=[]) (E:a.tmps.size=s.tmps.length) (g:Inv w0 O X s.H ρ w) (F:bo X ρ s a w) {d:Nat} {e:TypeId} {es c:Nat} {elems:List (List AV)} {cells:Array Value} (G:s.H d=[]) (D:0<es) (C: ∀x∈elems,x.length=es) (B:cells.size=c*es) (p:elems.length<=c) (N:c<=9223372036854775807) (I: ∀x∈elems,∀y∈x,isPure y=true) (m: ∀(i:Nat) x (j:Nat) y,elems[i]?=some x->x[j]?=some y-> ∃v:Value,cells[i*es+j]?=some v/\v.oneCell'=true/\y.rel ρ s.H (Xo X ρ s.H) w v) {t:TV} {v:Value} (R:(t= .one (.ptr d 0 0 0)/\0<elems.length/\v= .pointer (some ⟨w.heap.size,0,none⟩))\/(t= .one (.sl d 0 0 elems.length)/\v= .slice (some ⟨w.heap.size,0,none⟩) elems.length c)):
  dq w0 O X (AS.put ⟨s.tmps,aF s.H d [⟨e,es,elems⟩]⟩ (some d) t) (a.put (some d) v) (w.alloc (.cells cells e)):=by
 have l: ∀(r b A:Nat),(if r=0 then some (w.heap.size,c)else none)=some (b,A)->w.heap.size<=b:=fun r b A h=>by
  grind
 have key: ∀y v,isPure y=true->AV.rel ρ s.H (Xo X ρ s.H) w y v->AV.rel (newρ ρ d fun r=>if r=0 then some (w.heap.size,c)else none) (aF s.H d [⟨e,es,elems⟩]) (Xo X (newρ ρ d fun r=>if r=0 then some (w.heap.size,c)else none) (aF s.H d [⟨e,es,elems⟩])) (w.alloc (.cells cells e)) y v:=fun y v _ h=>
  kH g (ni w _) G (f:=fun r=>if r=0 then some (w.heap.size,c)else none) l h
 refine Eo M E g F (ni w _) G (fun r=>if r=0 then some (w.heap.size,c)else none) l (fun r T b c A h S=>?_) (fun r o n=>?_) (fun r o n=>?_) ?_
 ·grind
 ·cases r with
  |succ r=>simp at n
  |zero=>
   simp at n;subst n;exact fun x q y z=>df (I x q y z)
 ·cases r with
  |succ r=>simp at n
  |zero=>
   simp at n;subst n;refine⟨C,D,?_⟩;rw[newρ_eq];refine⟨cells,heap_alloc_new w _,B,p,N,fun i x j y q z=>?_⟩;obtain⟨u,J,K,L⟩:=m i x j y q z;exact⟨u,J,K,key y u (I x (acd q) y (acd z)) L⟩
 rcases R with⟨rfl,Q,rfl⟩|⟨rfl,rfl⟩
 ·exact⟨⟨e,es,elems⟩,w.heap.size,c,by simp[aS],by rw[newρ_eq];rfl,Q,by simp⟩
 exact⟨⟨e,es,elems⟩,by simp[aS],by simp,.inr ⟨w.heap.size,c,c,by rw[newρ_eq];rfl,by simp,p,fun _=>rfl⟩⟩
end
end
section
section
variable {P:Program} {w0 w w':World} {O X:Nat->Prop} {ρ:Rho} {H:OH}
theorem mc (h:dQ P f=some t): ∃i b,P.info? f=some i/\i.zero=some b/\b.cells.toList=t:=by
 unfold dQ at h;cases c:P.info? f with
 |none=>grind
 |some i=>
  simp_all
theorem ze (h:LK P f=some n): ∃i,P.info? f=some i/\i.bytes=n:=by
 unfold LK at h;simp_all
theorem AT {i:TypeInfo} (h:P.info? f=some i) (b:i.zero=some e):(zeroValue f).run P w= .ok e w:=by
 simp_all[zeroValue,EM]
theorem AR (t:TypeId) (c:Array Value):(newRow t c).run P w= .ok ⟨w.heap.size,0,none⟩ (w.alloc (.cells c t)):=rfl
theorem MM (t:TypeId) (v:Value):(Instr.box t v).run P w= .ok (.pointer (some ⟨w.heap.size,0,none⟩)) (w.alloc (.cells v.cells t)):=rfl
theorem Kp {i:TypeInfo} (h:P.info? f=some i) (b:i.zero=some e):
  (Instr.alloc f true (.tuple #[])).run P w= .ok (.pointer (some ⟨w.heap.size,0,none⟩)) (w.alloc (.cells e.cells f)):=by
 unfold Instr.alloc;rw[acv,AT h b,acj];rfl
theorem Hq (n:Nat):(askRoom n).run P w= .ok () w:=by
 simp
def pu (z:List Value) (n:Nat):Array Value:=(Array.range n).map fun k=>z.toArray[k%z.toArray.size]!
theorem JZ (z:List Value) (n:Nat):(pu z n).size=n:=by simp[pu]
theorem Or {i:Nat} (b:t[m]?=some e) (c:i*t.length+m<n):(pu t n)[i*t.length+m]?=some e:=by
 grind [pu,Nat.mul_comm,Nat.mul_add_mod,Nat.mod_eq_of_lt]
theorem Pb {b:TypeId} {i:TypeInfo} (q:P.underlying f=some (.slice b)) (j:P.info? b=some i) (r:i.zero=some e) (h:e.cells.toList=t) (g:t.length=i.size) (u s:IntKind) {n m:Int} (y:0<=n) (o:n<=m) (l:m<=9223372036854775807) (A:(i.bytes:Int)*m<=281474976710656):
  (Instr.makeSlice f (.int u n) (.int s m)).run P w= .ok (.slice (some ⟨w.heap.size,0,none⟩) n.toNat m.toNat) (w.alloc (.cells (pu t (m.toNat*t.length)) b)):=by
 have v:IntKind.i64.wrap n=n:=afk _ (by omega);have x:IntKind.i64.wrap m=m:=afk _ (by omega);have p:(sizeOf b).run P w= .ok i.size w:=by simp_all[sizeOf,EM]
 have t1:decide (m<0)=false:=by simp;omega
 have t2:decide ((i.bytes:Int)*m>2^48)=false:=by simp;omega
 have t3:decide (n<0)=false:=by simp;omega
 have t4:decide (n>m)=false:=by simp;omega
 unfold Instr.makeSlice;simp only[acv,run_underlying q,acj,asInt,asIntOf,adl,EM j,v,x,t1,t2,t3,t4,agD,ada,if_false,Hq,p];by_cases c:m.toNat*i.size=0
 ·grind [Sem.run_bind,Result.andThen_ok,AR,Sem.run_pure,pu]
 rw[if_neg c];simp only[acv,AT j r,acj,adl,AR];rw[g,<- h];rfl
theorem CF {ev:Operand->Option TV} {e:Operand->Value} {Y:Nat->Prop} (n:jL ρ H Y w ev e) {sz:Nat}: ∀(parts:List (Nat×Operand)) (m:Nat) (l:List (List AV)) (cells:Array Value),
  sI ev sz m parts=some l->(m+l.length)*sz<=cells.size->
  ∃b,Instr.fill (fun i=>some (i*sz,sz)) cells (parts.map fun(i,x)=>(i,e x))=some b/\b.size=cells.size/\(∀j:Nat,j<m*sz->b[j]?=cells[j]?)/\
   (∀x∈l,x.length=sz/\ ∀y∈x,isPure y=true)/\
   ∀(i:Nat) x (j:Nat) y,l[i]?=some x->x[j]?=some y-> ∃u:Value,b[(m+i)*sz+j]?=some u/\u.oneCell'=true/\y.rel ρ H Y w u
 |[],m,l,cells,h,_=>by
  simp only[sI]at h;injection h with h
  subst h;exact⟨cells,rfl,rfl,fun _ _=>rfl,fun x s=>(by simp at s),fun i x j y s=>(by simp at s)⟩
 |(k,x)::o,m,l,cells,h,r=>by
  simp only[sI]at h;split at h
  ·rename_i f z p q;split at h
   ·rename_i C;obtain⟨A,L,M⟩:=C;injection h with h
    subst h;subst A;obtain⟨t,F,v⟩:=acG.1 p;obtain⟨J,W⟩:=kp v (n x t F);simp only[acC]at r;have E:(k+(z.length+1))*sz=k*sz+(z.length*sz+sz):=by grind
    generalize G:(e x).cells=g at*
    obtain⟨g⟩:=g;have K:g.length=f.length:=J;obtain⟨f1,f2⟩:=v8 (k*sz) g 0 cells (by omega);have N:(g.toArray.zipIdx.foldl (fun f (c,j)=>f.setIfInBounds (k*sz+j) c) cells)=((g.zipIdx 0).foldl (fun f (c,j)=>f.setIfInBounds (k*sz+j) c) cells):=by
     simp
    have D:(k+1)*sz=k*sz+sz:=by grind
    obtain⟨b,Q,B,R,S,T⟩:=CF n o (k+1) z (cells:=(g.zipIdx 0).foldl (fun f (c,j)=>f.setIfInBounds (k*sz+j) c) cells) q (by grind);refine⟨b,?_,by rw[B,f1],fun j U=>?_,fun y I=>?_,fun i y j u I V=>?_⟩
    ·grind [Instr.fill]
    ·grind
    ·grind
    cases i with
    |zero=>
     grind
    |succ i=>
     grind
   cases h
  cases h
def jJ (s:AS) (d:Nat) (t:TV) (F:List OObj):AS:=if F.isEmpty then s.put (some d) t else AS.put ⟨s.tmps,aF s.H d F⟩ (some d) t
theorem Rs {b:List (cG P)} {i d:Nat} {a:Act} (C:a.defers=[]) (r:a.tmps.size=s.tmps.length) (m:Inv w0 O X s.H ρ w) (n:bo X ρ s a w) {x:Operand} (I:u.op= .box f x) (h:cB P b q i d s.ev s.H u.op=some (l,g)) (G:s.H d=[]):
  ∃v w',(execOp a.eval u).run P w= .ok (.value v) w'/\dq w0 O X (jJ s d l g) (a.put (some d) v) w':=by
 unfold execOp;rw[I]at h⊢;simp only[cB]at h;split at h
 ·rename_i M p;split at h
  ·rename_i E;injection h with h
   injection h with A D
   subst A D;obtain⟨l,A,B⟩:=acG.1 p;obtain⟨L,N⟩:=kp B (bv n x l A);refine⟨_,_,fD (MM f (a.eval x)),?_⟩;refine x6 C r m n (c:=1) G E.2 (by simp) (by simp[L]) (by simp) (by omega) (fun y J z K=>?_) (fun k y j z J K=>?_) (.inl ⟨rfl,by simp,rfl⟩)
   ·grind
   grind
  cases h
 cases h
theorem Jv {n:List (cG P)} {i d:Nat} {a:Act} (G:a.defers=[]) (r:a.tmps.size=s.tmps.length) (p:Inv w0 O X s.H ρ w) (x:bo X ρ s a w) (L:u.op= .alloc f) (h:cB P n q i d s.ev s.H u.op=some (l,g)) (J:s.H d=[]):
  ∃v w',(execOp a.eval u).run P w= .ok (.value v) w'/\dq w0 O X (jJ s d l g) (a.put (some d) v) w':=by
 unfold execOp;rw[L]at h⊢;simp only[cB]at h;split at h
 ·rename_i z N;split at h
  ·rename_i D;injection h with h
   injection h with M I
   subst M I;obtain⟨i,T,K,C,B⟩:=mc N;obtain⟨Q,R⟩:=Hj (ρ:=ρ) (H:=s.H) (X:=Xo X ρ s.H) (w:=w) D.1;refine⟨_,_,fD (Kp K C),?_⟩;have E:z.toArray=T.cells:=by rw[<- B]
   rw[E]at Q R;refine x6 G r p x (c:=1) J D.2 (by simp) (by grind) (by simp) (by omega) (fun y A S m=>?_) (fun k y j S A m=>?_) (.inl ⟨rfl,by simp,rfl⟩)
   ·simp at A;subst A;simp at m;obtain⟨b,_,rfl⟩:=m;rfl
   grind
  cases h
 cases h
theorem NZ {E:List (cG P)} {i d:Nat} {a:Act} (L:a.defers=[]) (S:a.tmps.size=s.tmps.length) (G:Inv w0 O X s.H ρ w) (D:bo X ρ s a w) {b c:Operand} (ho:u.op= .makeSlice f b c) (h:cB P E q i d s.ev s.H u.op=some (l,g)) (hd:s.H d=[]):
  ∃v w',(execOp a.eval u).run P w= .ok (.value v) w'/\dq w0 O X (jJ s d l g) (a.put (some d) v) w':=by
 unfold execOp;rw[ho]at h⊢;simp only[cB]at h;split at h
 ·rename_i k1 n k2 m e hl hc hs;split at h
  ·rename_i z sz Z hz K N;split at h
   ·rename_i C;obtain⟨c1,c2,c3,c4,c5,c6,V⟩:=C;injection h with h
    injection h with ht hF
    subst ht hF;obtain⟨i,zv,Q,U,T⟩:=mc hz;obtain⟨i',r,Y⟩:=vm K;rw[Q]at r;injection r with r;subst r
    obtain⟨i',r,W⟩:=ze N;rw[Q]at r;injection r with r;subst r
    have J:=Pb (P:=P) (w:=w) (dZ hs) Q U T (by omega) k1 k2 c1 c2 c3 (by grind);have hn:=(aZ (bv D b _ hl)).1;have hm:=(aZ (bv D c _ hc)).1;refine⟨_,_,fD (by rw[hn,hm];exact J),?_⟩;simp only[acr]at V;have I: ∀(k:Nat) x,(List.replicate n.toNat (z.map AV.raw))[k]?=some x->k<n.toNat/\x=z.map AV.raw:=fun k x hx=>by
     grind
    have B:(List.replicate n.toNat (z.map AV.raw)).length=n.toNat:=by simp
    have:=x6 L S G D (c:=m.toNat) (e:=e) (es:=sz) (elems:=List.replicate n.toNat (z.map AV.raw)) (cells:=pu z (m.toNat*z.length)) hd c6 (by grind) (by rw[JZ,c5]) (by simp;omega) (by omega)
     (fun y M z' A=>by simp[aev]at M;rw[M.2]at A;simp at A;obtain⟨p,_,rfl⟩:=A;rfl)
     (fun k y j z' M A=>by
      obtain⟨hk,rfl⟩:=I k y M;rw[ach]at A;cases R:z[j]? with
      |none=>grind
      |some p=>
       rw[R]at A;simp at A;subst A;have L:=V p (acd R);have aa:j<z.length:=(aci.1 R).1;have ab:k*z.length+j<m.toNat*z.length:=by
        have:(k+1)*z.length<=m.toNat*z.length:=acu _ (by omega);grind
       refine⟨p,?_,L,bS.raw p L⟩;grind [Or])
     (t:= .one (.sl d 0 0 n.toNat)) (v:= .slice (some ⟨w.heap.size,0,none⟩) n.toNat m.toNat) (.inr ⟨by rw[B],by rw[B]⟩)
    exact this
   cases h
  cases h
 cases h
theorem Ru {L:List (cG P)} {i d:Nat} {a:Act} (h1:a.defers=[]) (Q:a.tmps.size=s.tmps.length) (A:Inv w0 O X s.H ρ w) (I:bo X ρ s a w) {parts:Array (Nat×Operand)} (ho:u.op= .buildSlice f n parts) (h:cB P L q i d s.ev s.H u.op=some (l,g)) (hd:g≠[]->s.H d=[]):
  ∃v w',(execOp a.eval u).run P w= .ok (.value v) w'/\dq w0 O X (jJ s d l g) (a.put (some d) v) w':=by
 unfold execOp;rw[ho]at h⊢;simp only[cB]at h;split at h
 ·rename_i e hs;split at h
  ·rename_i z sz hz R;split at h
   ·rename_i m M;split at h
    ·rename_i G;obtain⟨S,c2,c3,T⟩:=G;obtain⟨i,zv,hi,ac,ae⟩:=mc hz;have ab:((Array.range (n*sz)).map (zv.cells[· %zv.cells.size]!))=pu z (n*sz):=by grind [pu]
     obtain⟨cells,g1,g2,g3,U,g5⟩:=CF (bv I) parts.toList 0 m (pu z (n*sz)) M (by grind);have D:(Instr.buildSlice f n (parts.map fun(i,x)=>(i,a.eval x))).run P w= .ok (.slice (some ⟨w.heap.size,0,none⟩) n n) (w.alloc (.cells cells e)):=by
      have E:Instr.fill (fun i=>some (i*sz,sz)) (pu z (n*sz)) (parts.map fun(i,x)=>(i,a.eval x)).toList=some cells:=by simp_all
      unfold Instr.buildSlice;simp only[acv,run_underlying (dZ hs),acj,eD R];rw[if_neg (by omega)];by_cases N:n*sz=0
      ·rw[if_pos N];have aa:pu z (n*sz)= #[]:=by grind
       rw[aa]at E;rw[acv];show Result.andThen (.ok #[] w) _=_;rw[acj];rw[show(Array.map (fun x=>(#[]:Array Value)[x%(#[]:Array Value).size]!) (Array.range (n*sz)))= #[] by grind,E];rfl
      rw[if_neg N];simp only[acv,AT hi ac,adl,acj];rw[ab,E];rfl
     split at h
     ·injection h with h
      injection h with ht V
      subst ht V;refine⟨_,_,fD D,?_⟩;have:=x6 h1 Q A I (c:=n) (e:=e) (es:=sz) (elems:=m) (cells:=cells) (hd (by simp)) T (fun x B=>(U x B).1) (by grind) (by omega)
       (by have:n*1<=n*sz:=acq _ T;omega) (fun x B=>(U x B).2)
       (fun i x j y B C=>by grind)
       (t:= .one (.sl d 0 0 n)) (v:= .slice (some ⟨w.heap.size,0,none⟩) n n) (.inr ⟨by rw[S],by rw[S]⟩)
      exact this
     injection h with h
     injection h with ht V
     subst ht V;refine⟨_,_,fD D,?_⟩;refine fG h1 Q (A.grow (ni w _)) (I.grow (ni w _)) ?_;show bS _ _ _ _;have hl:(m.map (List.map yu)).length=n:=by simp[S]
     have Y: ∀(i:Nat) x (j:Nat) y,(m.map (List.map yu))[i]?=some x->x[j]?=some y-> ∃p:Value,cells[i*sz+j]?=some p/\bS (Xo X ρ s.H) w y p:=fun i x j y B C=>by
      rw[ach]at B;cases J:m[i]? with
      |none=>grind
      |some x'=>
       rw[J]at B;simp at B;subst B;rw[ach]at C;cases K:x'[j]? with
       |none=>grind
       |some y'=>
        rw[K]at C;simp at C;subst C;obtain⟨p,u1,u2,u3⟩:=g5 i x' j y' J K;have hp:=(U x' (acd J)).2 y' (acd K);refine⟨p,by grind,?_⟩;cases y'<;>first|exact u3|cases hp
     have Z: ∃b:Nat->Nat->Value,∀(i:Nat) x (j:Nat) y,(m.map (List.map yu))[i]?=some x->x[j]?=some y->cells[i*sz+j]?=some (b i j)/\bS (Xo X ρ s.H) w y (b i j):=by
      refine⟨fun i j=>(cells[i*sz+j]?).getD undef,fun i x j y B C=>?_⟩;grind
     obtain⟨b,Z⟩:=Z;have ad:n<=16777216:=by have:n*1<=n*sz:=acq _ T;omega
     have:=bS.sl (X:=Xo X ρ s.H) (w:=w.alloc (.cells cells e)) w.heap.size 0 sz n (m.map (List.map yu)) b (fun W=>by
      rcases W with W|⟨a',r,o',c,q1,q2⟩
      ·have:=A.bar _ W;omega
      ·have:=bz (A.objs a' r o' q1) q2;omega) (by simp) (fun x B=>by grind) (by omega) (by omega)
      (fun i x j y B C=>by
       grind [cell_of_row,heap_alloc_new])
      (fun i x j y B C=>bS.stays (ni w _).stays (Z i x j y B C).2)
     grind
    cases h
   cases h
  cases h
 cases h
end
end
section
section
variable {P:Program} {w0 w w':World} {O X:Nat->Prop} {ρ:Rho} {H:OH}
structure But (b:Nat) (w w':World):Prop where
 os:w'.os=w.os
 tape:w'.tape=w.tape
 output:w'.output=w.output
 size:w.heap.size<=w'.heap.size
 block: ∀k,k<w.heap.size->k≠b->w'.heap[k]?=w.heap[k]?
theorem But.setRow (w:World) (b:Nat) (c:Array Value):But b w (w.setRow b c):=
 ⟨rfl,rfl,rfl,by simp,fun k f e=>by grind [World.setRow]⟩
theorem Keep.but (h:Keep O w0 w) (e:But n w w') (g:w0.heap.size<=n\/O n):Keep O w0 w':=
 ⟨e.os.trans h.os,e.tape.trans h.tape,e.output.trans h.output,acl h.size e.size,fun k c f=>by
  rw[e.block k (acp c h.size) (by grind)];exact h.block k c f⟩
theorem pU {y:OH} {b:Nat} (B:Xo X ρ H b) (f:But b w w') (l: ∀(a g:Nat) o,(H a)[g]?=some o-> ∃m,(y a)[g]?=some m/\m.es=o.es/\o.elems.length<=m.elems.length/\r a g=ρ a g) (C: ∀(a g:Nat) o n c,(y a)[g]?=some o->r a g=some (n,c)->n<w.heap.size->Xo X ρ H n) (h:v.rel ρ H (Xo X ρ H) w e):v.rel r y (Xo X r y) w' e:=by
 refine tM (fun v e L h=>?_) v e h;cases v with
 |fn=>cases L
 |p v=>
  refine bS.stays ⟨f.size,fun p u M E=>?_⟩ (bS.weaken (fun n K z=>?_) h)
  ·have D:=xT E;by_cases t:p.block=b
   ·exfalso;apply M;obtain B|⟨a,g,o,c,q,A⟩:=B
    ·exact .inl (t▸B)
    obtain⟨m,s,F,G,I⟩:=l a g o q;exact .inr ⟨a,g,m,c,s,by grind⟩
   unfold World.cell? at E⊢;rw[f.block _ D t];exact E
  rcases z with z|⟨a,g,o,c,q,A⟩
  ·exact .inl z
  grind
 |sl a g N len=>
  obtain⟨o,q,A,J⟩:=h;obtain⟨m,s,F,G,I⟩:=l a g o q;refine⟨m,s,by omega,?_⟩;grind
 |ptr a g i j=>
  obtain⟨o,n,c,q,A,J,Q⟩:=h;obtain⟨m,s,F,G,I⟩:=l a g o q;exact⟨m,n,c,s,by grind,by omega,by grind⟩
 |junk=>trivial
theorem ye {b:OObj} (h:g[n]?=some o):(g.set n b)[m]?=if m=n then some b else g[m]?:=by
 grind
theorem EC {c:List AV} (b:n+c.length<=h.length):(putCells h n c).length=h.length:=by
 grind [putCells]
theorem EB {c:List AV} (b:n+c.length<=h.length) (k:Nat):(putCells h n c)[k]?=if n<=k/\k<n+c.length then c[k-n]? else h[k]?:=EP b k
theorem FY {i j c b:Nat} (h:n≠i) (f:j+b<=m) (e:c<m): ¬(i*m+j<=n*m+c/\n*m+c<i*m+j+b):=by
 rcases Nat.lt_or_gt_of_ne h with h|h
 ·have:(n+1)*m<=i*m:=acu _ h;grind
 have:(i+1)*m<=n*m:=acu _ h;grind
theorem Dc {act:Act} (h1:act.defers=[]) (bb:act.tmps.size=s.tmps.length) (f:Inv w0 O X s.H ρ w) (a5:bo X ρ s act w) {a i j c:Nat} {K:List AV} {vs:List Value} (U:(s.H a)[n]?=some o) (G:ρ a n=some (m,c)) (he:o.elems[i]?=some h) (hj:j+K.length<=h.length) (a6:vs.length=K.length) (ag: ∀(k:Nat) x,K[k]?=some x-> ∃u:Value,vs[k]?=some u/\u.oneCell'=true/\x.rel ρ s.H (Xo X ρ s.H) w u) (a4: ∀x∈K,bH a x):
  ∃cells,w.heap[m]?=some (.cells cells o.ty (0,0))/\i*o.es+j+vs.length<=cells.size/\
   Inv w0 O X (aF s.H a ((s.H a).set n {o with elems:=o.elems.set i (putCells h j K)})) ρ (w.setRow m (cells.toList.take (i*o.es+j)++vs++cells.toList.drop (i*o.es+j+vs.length)).toArray)/\
   bo X ρ ⟨s.tmps,aF s.H a ((s.H a).set n {o with elems:=o.elems.set i (putCells h j K)})⟩ act (w.setRow m (cells.toList.take (i*o.es+j)++vs++cells.toList.drop (i*o.es+j+vs.length)).toArray):=by
 have af:=f.objs a n o U;obtain⟨q1,q2,q3⟩:=af;rw[G]at q3;obtain⟨cells,p1,p2,p3,p4,p5⟩:=q3;have a9:h.length=o.es:=q1 h (acd he);have hi:i<o.elems.length:=(aci.1 he).1;have ad:i*o.es+j+vs.length<=cells.size:=by
  have:(i+1)*o.es<=c*o.es:=acu _ (by omega);grind
 refine⟨cells,p1,ad,?_⟩;have ah:Xo X ρ s.H m:= .inr ⟨a,n,o,c,U,G⟩;generalize ap:(cells.toList.take (i*o.es+j)++vs++cells.toList.drop (i*o.es+j+vs.length))=Z;have R: ∀k:Nat,Z[k]?=if i*o.es+j<=k/\k<i*o.es+j+vs.length then vs[k-(i*o.es+j)]? else cells[k]?:=fun k=>by
  rw[<- ap,EP (by omega)];simp
 have av:Z.length=cells.size:=by grind
 have e0:=But.setRow w m Z.toArray;generalize aa:aF s.H a ((s.H a).set n {o with elems:=o.elems.set i (putCells h j K)})=H';have M: ∀q,(H' a)[q]?=if q=n then some {o with elems:=o.elems.set i (putCells h j K)}else(s.H a)[q]?:=fun q=>by rw[<- aa,aS];grind
 have a8: ∀p,p≠a->H' p=s.H p:=fun p ha=>by rw[<- aa,aM ha]
 have T: ∀(p q:Nat) z,(s.H p)[q]?=some z-> ∃o',(H' p)[q]?=some o'/\o'.es=z.es/\z.elems.length<=o'.elems.length/\ρ p q=ρ p q:=fun p q z g=>by
  grind
 have l: ∀(p q:Nat) z,(H' p)[q]?=some z-> ∃J,(s.H p)[q]?=some J/\z.es=J.es/\(p=a/\q=n\/z=J):=fun p q z g=>by
  by_cases ha:p=a
  ·grind
  grind
 have Q: ∀(p q:Nat) z N Y,(H' p)[q]?=some z->ρ p q=some (N,Y)->N<w.heap.size->Xo X ρ s.H N:=fun p q z N Y g F _=>by
  obtain⟨J,C,_⟩:=l p q z g;exact .inr ⟨p,q,J,Y,C,F⟩
 have E: ∀x v,AV.rel ρ s.H (Xo X ρ s.H) w x v->AV.rel ρ H' (Xo X ρ H') (w.setRow m Z.toArray) x v:=fun x v A=>pU ah e0 T Q A
 refine⟨⟨f.keep.but e0 (f.old a n o m c U G).1,fun p q z g=>?_,fun B I a2 r2 z J W c1 c2 g a0 F a3=>?_,fun B I z W c1 g F=>?_,fun W al=>acp (f.bar W al) e0.size,fun B I z g=>?_⟩,fun t x A=>?_⟩
 ·obtain⟨J,C,g2,L⟩:=l p q z g;by_cases ab:p=a/\q=n
  ·obtain⟨rfl,rfl⟩:=ab;rw[M,if_pos rfl]at g;injection g with g
   subst g;refine⟨fun y hy=>?_,q2,?_⟩
   ·grind [EC]
   rw[G];refine⟨Z.toArray,setRow_heap w m cells _ _ _ p1,by grind,by grind,p4,fun i' e' j' x D A=>?_⟩;simp only[List.getElem?_toArray];rw[R];by_cases S:i'=i
   ·subst S;rw[adj]at D;simp[hi]at D;subst D;rw[EB hj]at A;split at A
    ·rename_i ba;rw[if_pos (by omega)];obtain⟨u,u1,u2,u3⟩:=ag _ _ A;exact⟨u,by rw[show i'*o.es+j'-(i'*o.es+j)=j'-j by omega];exact u1,u2,E _ _ u3⟩
    grind
   rw[ac4 (aed S)]at D;have ae:j'<e'.length:=(aci.1 A).1;rw[q1 e' (acd D)]at ae;rw[if_neg (by rw[a6];exact FY S (by omega) ae)];grind
  rcases L with L|L
  ·omega
  subst L;refine d9 (f.objs p q z C) rfl (fun N Y ac=>e0.block N (bz (f.objs p q z C) ac) (fun an=>?_)) E;subst an;exact ab (f.inj p q a n z o N Y c C U ac G)
 ·obtain⟨V,C,_⟩:=l B I z g;obtain⟨a7,g2,_⟩:=l a2 r2 J a0;exact f.inj B I a2 r2 V a7 W c1 c2 C g2 F a3
 ·obtain⟨V,C,_⟩:=l B I z g;exact f.old B I V W c1 C F
 ·obtain⟨J,C,g2,L⟩:=l B I z g;rcases L with⟨rfl,rfl⟩|L
  ·rw[M,if_pos rfl]at g;injection g with g
   subst g;intro y hy x A;rcases adG hy with hy|rfl
   ·exact f.self B I o U y hy x A
   unfold putCells at A;simp only[adh]at A;rcases A with(A|A)|A
   ·exact f.self B I o U h (acd he) x (aef A)
   ·grind
   exact f.self B I o U h (acd he) x (aeH A)
  subst L;exact f.self B I z C
 obtain⟨v,v1,v2⟩:=a5 t x A;grind [TV.rel_map]
theorem xo {t:TypeId} {v:Value} {cells:Array Value} (c:i7 P t=some v.cells.size) (g:w.heap[n]?=some (.cells cells f (0,0))) (h:m+v.cells.size<=cells.size) (e: ∀u∈v.cells,u.oneCell'=true):
  (Instr.storeAt t (.pointer (some ⟨n,m,none⟩)) v).run P w= .ok () (w.setRow n (cells.toList.take m++v.cells.toList++cells.toList.drop (m+v.cells.size)).toArray):=by
 unfold Instr.storeAt storeVar;simp only[Instr.sureAddr,acv,adl,acj,eD c];grind [run_storeCells_at]
end
end
section
section
variable {P:Program} {w0 w w':World} {O X:Nat->Prop} {ρ:Rho} {H:OH}
theorem sE {k:Nat->Nat->Bool} (h:l.rel ρ H b w e) (s: ∀x e,x.rel ρ H b w e->AV.rel r p c w' (aR k x) e):(aT k l).rel r p c w' e:=by
 have agg: ∀m e,bM ρ H b w m e->bM r p c w' (m.map (aR k)) e:=fun m e h=>by
  obtain⟨vs,n,o,q⟩:=h;refine⟨vs,n,by grind,fun j x y=>?_⟩;grind
 cases l with
 |one x=>exact s _ _ h
 |agg m=>exact agg m e h
 |fn f m=>obtain⟨u,n,o⟩:=h;exact⟨u,agg m u n,o⟩
 |tup z=>
  obtain⟨vs,n,o,q⟩:=h;refine⟨vs,n,by grind,fun j g m y=>?_⟩;grind
theorem D3 {k:Nat->Nat->Bool} {s:AS} {a:Act} (h:bo X ρ s a w) (e: ∀x v,x.rel ρ s.H (Xo X ρ s.H) w v->AV.rel r p (Xo X r p) w' (aR k x) v):bo X r ⟨s.tmps.map (aT k),p⟩ a w':=by
 intro t x b;simp only[ach]at b;cases c:s.tmps[t]? with
 |none=>grind
 |some y=>
  rw[c]at b;simp at b;subst b;obtain⟨v,f,g⟩:=h t y c;grind [sE]
theorem CH (m:Inv w0 O X H ρ w) {a b:Nat} (Z:b<=4999) (W:b≠a) (hb:H b=[o]) (hp: ∀e∈o.elems,∀x∈e,isPure x=true):
  Inv w0 O X (aF (aF H a (H a++[o])) b []) (fun x y=>if x=a/\y=(H a).length then ρ b 0 else ρ x y) w/\
  (∀x v,AV.rel ρ H (Xo X ρ H) w x v->AV.rel (fun x y=>if x=a/\y=(H a).length then ρ b 0 else ρ x y) (aF (aF H a (H a++[o])) b []) (Xo X (fun x y=>if x=a/\y=(H a).length then ρ b 0 else ρ x y) (aF (aF H a (H a++[o])) b [])) w (aR (fun x _=>x==b) x) v)/\
  (∀B len v,AV.rel ρ H (Xo X ρ H) w (.sl b 0 B len) v->AV.rel (fun x y=>if x=a/\y=(H a).length then ρ b 0 else ρ x y) (aF (aF H a (H a++[o])) b []) (Xo X (fun x y=>if x=a/\y=(H a).length then ρ b 0 else ρ x y) (aF (aF H a (H a++[o])) b [])) w (.sl a (H a).length B len) v):=by
 generalize U:aF (aF H a (H a++[o])) b []=t;generalize ac:(fun x y=>if x=a/\y=(H a).length then ρ b 0 else ρ x y:Rho)=ρ1;have af:t b=[]:=by rw[<- U];exact aS
 have ae:t a=H a++[o]:=by rw[<- U,aM (aed W),aS]
 have ag: ∀x,x≠a->x≠b->t x=H x:=fun x A E=>by rw[<- U,aM E,aM A]
 have ad: ∀x y,¬(x=a/\y=(H a).length)->ρ1 x y=ρ x y:=fun x y h=>by grind
 have S:ρ1 a (H a).length=ρ b 0:=by grind
 have Y:(H b)[0]?=some o:=by rw[hb];rfl
 -- I: a live row of H that is not of b is the same in t
 have J: ∀(x y:Nat) g,(H x)[y]?=some g->x≠b->(t x)[y]?=some g/\ρ1 x y=ρ x y:=fun x y g D hx=>by
  grind
 -- l: a live row of t is one of H
 have l: ∀(x y:Nat) g,(t x)[y]?=some g-> ∃r s,(H r)[s]?=some g/\ρ1 x y=ρ r s/\((r=x/\s=y/\x≠b)\/(x=a/\y=(H a).length/\r=b/\s=0/\g=o)):=fun x y g D=>by
  grind
 have V: ∀c,Xo X ρ1 t c->Xo X ρ H c:=fun c N=>by
  rcases N with N|⟨x,y,g,n,A,E⟩
  ·exact .inl N
  obtain⟨r,s,C,K,_⟩:=l x y g A;exact .inr ⟨r,s,g,n,C,by grind⟩
 have M: ∀x v,bS (Xo X ρ H) w x v->bS (Xo X ρ1 t) w x v:=fun x v h=>bS.weaken (fun c _ N=>V c N) h
 have mono: ∀x v,AV.rel ρ H (Xo X ρ H) w x v->AV.rel ρ1 t (Xo X ρ1 t) w (aR (fun x _=>x==b) x) v:=ic (oN _) fun x v hn h=>by
  cases x with
  |fn=>cases hn
  |p x=>exact M x v h
  |sl x y B len=>
   simp only[aR];by_cases q:x=b
   ·subst q;simp;trivial
   simp only[beq_iff_eq,q,if_false];obtain⟨g,A,E,T⟩:=h;obtain⟨f1,f2⟩:=J x y g A q;exact⟨g,f1,E,by grind⟩
  |ptr x y i j=>
   simp only[aR];by_cases q:x=b
   ·subst q;simp;trivial
   simp only[beq_iff_eq,q,if_false];obtain⟨g,b',c,A,E,T⟩:=h;obtain⟨f1,f2⟩:=J x y g A q;exact⟨g,b',c,f1,by grind,T⟩
  |junk=>trivial
 have same: ∀z x v,bH z x->z≠b->AV.rel ρ H (Xo X ρ H) w x v->AV.rel ρ1 t (Xo X ρ1 t) w x v:=fun z x v F G h=>by
  have:=mono x v h;cases x with
  |fn f x qs=>
   have F:x=z:=F.1;grind [aR]
  |sl x y B len=>
   have F:x=z:=F;grind [aR]
  |ptr x y i j=>
   have F:x=z:=F;grind [aR]
  |p x=>exact this
  |junk=>trivial
 refine⟨⟨m.keep,fun x y g D=>?_,fun x y r s g o' c n n' D aa hr ah=>?_,fun x y g c n D hr=>?_,m.bar,fun x y g D=>?_⟩,mono,fun B len v h=>?_⟩
 ·obtain⟨r,s,C,K,L⟩:=l x y g D;have R:=m.objs r s g C;obtain⟨q1,q2,q3⟩:=R;refine⟨q1,q2,?_⟩;rw[K];cases hr:ρ r s with
  |none=>grind
  |some bc=>
   obtain⟨b',c⟩:=bc;rw[hr]at q3;obtain⟨cells,p1,p2,p3,p4,p5⟩:=q3;refine⟨cells,p1,p2,p3,p4,fun i e j z Q G=>?_⟩;obtain⟨u,u1,u2,u3⟩:=p5 i e j z Q G;refine⟨u,u1,u2,?_⟩;have al:=m.self r s g C e (acd Q) z (acd G);rcases L with⟨rfl,rfl,q⟩|⟨rfl,rfl,rfl,rfl,rfl⟩
   ·grind
   have ab:=hp e (acd Q) z (acd G);cases z<;>first|exact M _ _ u3|cases ab
 ·obtain⟨x1,y1,C,K,L⟩:=l x y g D;obtain⟨x2,y2,k1,k2,k3⟩:=l r s o' aa;obtain⟨e1,e2⟩:=m.inj x1 y1 x2 y2 g o' c n n' C k1 (by grind) (by grind);omega
 ·obtain⟨x1,y1,C,K,L⟩:=l x y g D;exact m.old x1 y1 g c n C (by grind)
 ·obtain⟨r,s,C,K,L⟩:=l x y g D;rcases L with⟨rfl,rfl,q⟩|⟨rfl,rfl,rfl,rfl,rfl⟩
  ·exact m.self r s g C
  exact fun e Q z G=>df (hp e Q z G)
 obtain⟨g,A,E,T⟩:=h;rw[Y]at A;injection A with A
 subst A;exact⟨o,by grind,E,qw Z T S⟩
end
end
end Go.Proofs.YtalmoejhjceflaaGreat
