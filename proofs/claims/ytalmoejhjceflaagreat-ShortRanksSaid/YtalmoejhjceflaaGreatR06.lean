/-
  Part 7 of a proof (walks and plain facts).
-/
import Derived.Test.YtalmoejhjceflaaGreatR05
set_option linter.all false
set_option maxRecDepth 100000
set_option maxHeartbeats 64000000
namespace Go.Proofs.YtalmoejhjceflaaGreat
open Go.RowKit
variable {n m:Nat} {b c:Nat->Prop} {e:Value} {f:List OObj} {g:TypeId} {s:AS} {h:List AV} {j:Nat->Option (Nat×Nat)} {l:TV} {o:List Nat} {p:OH} {q:OObj} {r:List Value} {t:Rho} {u:Oper} {v:AV}
section
section
variable {P:Program} {w0 w w':World} {O X:Nat->Prop} {ρ:Rho} {H:OH}
theorem Ext.stays (h:Ext w w'):UQ b w w':=⟨h.size,fun _ _ _ c=>h.cell c⟩
theorem Keep.ext (h:Keep O w0 w) (e:Ext w w'):Keep O w0 w':=
 ⟨e.os.trans h.os,e.tape.trans h.tape,e.output.trans h.output,aap h.size e.size,fun k b c=>by
  rw[e.block k (aaA b h.size)];exact h.block k b c⟩
theorem Keep.refl (w:World):Keep O w w:=⟨rfl,rfl,rfl,aar _,fun _ _ _=>rfl⟩
theorem qA {f:FuncId} {a:Nat} {l:List (Nat×Nat×Nat)} (p: ∀j,H j=[]) (h:(AV.fn f a l).rel ρ H b w e):False:=by
 obtain⟨vs,_,_,m,n⟩:=h;obtain⟨u,_,o,j,c,g,_⟩:=n 0 l[0] (aay m);grind
theorem AV.rel_ext (c:Ext w w') (h:v.rel ρ H b w e):v.rel ρ H b w' e:=by
 cases v with
 |fn f a l=>exact h
 |p v=>exact bM.stays c.stays h
 |sl a r g len=>exact h
 |ptr a r i j=>exact h
 |junk=>exact h
theorem pi (f:bH ρ H b w h e) (k: ∀x e,x.rel ρ H b w e->AV.rel t p c w' x e):bH t p c w' h e:=by
 obtain⟨vs,g,l,m⟩:=f;exact⟨vs,g,l,fun j x n=>by grind⟩
theorem TV.rel_map (h:l.rel ρ H b w e) (k: ∀x e,x.rel ρ H b w e->AV.rel t p c w' x e):l.rel t p c w' e:=by
 cases l with
 |one x=>exact k _ _ h
 |agg o=>exact pi h k
 |fn f o=>obtain⟨u,m,n⟩:=h;exact⟨u,pi m k,n⟩
 |tup s=>
  obtain⟨vs,m,n,q⟩:=h;refine⟨vs,m,n,fun j g o r=>?_⟩;grind [pi]
theorem dP {a:Nat} (h:objRel ρ H b w a n q) (g:t a n=ρ a n) (u: ∀e f,ρ a n=some (e,f)->w'.heap[e]?=w.heap[e]?) (k: ∀x v,x.rel ρ H b w v->AV.rel t p c w' x v):objRel t p c w' a n q:=by
 obtain⟨j,l,s⟩:=h;refine⟨j,l,?_⟩;rw[g];cases y:ρ a n with
 |none=>grind
 |some m=>
  grind
theorem bJ {Y:Nat->Prop} {a:Nat} {b c:Nat} (h:objRel ρ H Y w a n q) (e:ρ a n=some (b,c)):b<w.heap.size:=by
 obtain⟨_,_,f⟩:=h;grind
def aV (X:Nat->Prop) (ρ:Rho) (s:AS) (a:Act) (w:World):Prop:= ∀(t:Nat) x,s.tmps[t]?=some x-> ∃v:Value,a.tmps[t]?=some v/\x.rel ρ s.H (Xo X ρ s.H) w v
theorem bz {a:Act} (h:aV X ρ s a w):il ρ s.H (Xo X ρ s.H) w s.ev a.eval:=by
 intro x t b;cases x with
 |tmp k=>
  obtain⟨v,c,e⟩:=h k t b;simp_all[Act.eval]
 |const v=>simp only[AS.ev]at b;injection b with b;subst b;exact DZ v
 |global g=>simp only[AS.ev]at b;injection b with b;subst b;exact b7 rfl
 |func f=>simp only[AS.ev]at b;injection b with b;subst b;exact b7 rfl
theorem kh (a:Act) (d:Option Tmp) (v:Value):(a.put d v).tmps.size=a.tmps.size:=by cases d<;>simp[Act.put]
theorem jH (s:AS) (d:Option Tmp) (t:TV):(s.put d t).tmps.length=s.tmps.length:=by cases d<;>simp[AS.put]
theorem fE (s:AS) (d:Option Tmp) (t:TV):(s.put d t).H=s.H:=by cases d<;>rfl
theorem gJ (a:Act) (d:Option Tmp) (v:Value):(a.put d v).defers=a.defers:=by cases d<;>rfl
theorem pP {s:AS} {a:Act} {d:Option Tmp} (f:a.tmps.size=s.tmps.length) (h:aV X ρ s a w) (g:l.rel ρ s.H (Xo X ρ s.H) w e):aV X ρ (s.put d l) (a.put d e) w:=by
 intro k x b;rw[fE];cases d with
 |none=>exact h k x b
 |some d=>
  simp only[AS.put]at b;simp only[Act.put];by_cases c:d=k
  ·grind
  rw[abq c]at b;rw[ac4 c];exact h k x b
theorem eD {s:AS} {a:Act} {d:Option Tmp} {t:TV} {v:Value} (f:a.defers=[]) (b:a.tmps.size=s.tmps.length) (c:Inv w0 O X s.H ρ w) (h:aV X ρ s a w) (e:t.rel ρ s.H (Xo X ρ s.H) w v):dx w0 O X (s.put d t) (a.put d v) w:=by
 refine⟨by grind [gJ],by grind [kh,jH],ρ,by grind [fE],?_⟩;exact pP b h e
theorem Inv.grow (h:Inv w0 O X H ρ w) (e:Ext w w'):Inv w0 O X H ρ w':=
 ⟨h.keep.ext e,fun a r o g=>dP (h.objs a r o g) rfl (fun b c f=>e.block b (bJ (h.objs a r o g) f)) (fun _ _ j=>AV.rel_ext e j),h.inj,h.old,fun b f=>aaA (h.bar b f) e.size,h.self⟩
theorem aV.grow {a:Act} (h:aV X ρ s a w) (e:Ext w w'):aV X ρ s a w':=fun t x b=>by
 obtain⟨v,c,f⟩:=h t x b;grind [TV.rel_map,AV.rel_ext]
def newρ (ρ:Rho) (d:Nat) (f:Nat->Option (Nat×Nat)):Rho:=fun a r=>if a=d then f r else ρ a r
theorem aG {d a:Nat} (h:a≠d):ax p d f a=p a:=if_neg h
theorem aM {d:Nat}:ax p d f d=f:=if_pos rfl
theorem newρ_ne {d a:Nat} (h:a≠d) (r:Nat):newρ ρ d j a r=ρ a r:=if_neg h
theorem newρ_eq {d:Nat} (r:Nat):newρ ρ d j d r=j r:=if_pos rfl
theorem jb (u:Inv w0 O X H ρ w) (g:Ext w w') {d:Nat} {F:List OObj} (C:H d=[]) {f:Nat->Option (Nat×Nat)} (y: ∀r b c,f r=some (b,c)->w.heap.size<=b) (h:v.rel ρ H (Xo X ρ H) w e):v.rel (newρ ρ d f) (ax H d F) (Xo X (newρ ρ d f) (ax H d F)) w' e:=by
 have q: ∀(a r:Nat) o,(H a)[r]?=some o->a≠d:=fun a r o D n=>by grind
 refine qr (fun v e z h=>?_) v e h;cases v with
 |fn=>cases z
 |p v=>
  refine bM.stays g.stays (bM.weaken (fun b B s=>?_) h);rcases s with s|⟨a,r,o,c,l,m⟩
  ·exact .inl s
  by_cases n:a=d
  ·grind [newρ_eq]
  rw[newρ_ne n]at m;rw[aG n]at l;exact .inr ⟨a,r,o,c,l,m⟩
 |sl a r A len=>
  obtain⟨o,l,m,t⟩:=h;have n:=q a r o l;refine⟨o,by grind [aG],m,?_⟩;grind [newρ_ne]
 |ptr a r i j=>
  obtain⟨o,b,c,l,m,t⟩:=h;have n:=q a r o l;refine⟨o,b,c,by grind [aG],by grind [newρ_ne],t⟩
 |junk=>trivial
theorem Jj {a:Act} (g:Inv w0 O X s.H ρ w) (B:aV X ρ s a w) (e:Ext w w') {d:Nat} {F:List OObj} (G:s.H d=[]) (f:Nat->Option (Nat×Nat)) (q: ∀r b c,f r=some (b,c)->w.heap.size<=b) (C: ∀r t b c y,f r=some (b,c)->f t=some (b,y)->r=t) (A: ∀(r:Nat) o,F[r]?=some o->selfO d o) (I: ∀(r:Nat) o,F[r]?=some o->objRel (newρ ρ d f) (ax s.H d F) (Xo X (newρ ρ d f) (ax s.H d F)) w' d r o):Inv w0 O X (ax s.H d F) (newρ ρ d f) w'/\aV X (newρ ρ d f) ⟨s.tmps,ax s.H d F⟩ a w':=by
 refine⟨?_,?_⟩
 ·refine⟨g.keep.ext e,fun a r o j=>?_,fun a r u t o D b c y j p m n=>?_,fun a r o b c j m=>?_,fun b z=>aaA (g.bar b z) e.size,fun a r o j=>?_⟩
  ·by_cases l:a=d
   ·grind [aM]
   simp only[aG l]at j;exact dP (g.objs a r o j) (newρ_ne l r) (fun b c z=>e.block b (bJ (g.objs a r o j) z)) (fun _ _ m=>jb g e G q m)
  ·by_cases l:a=d
   ·subst l;rw[newρ_eq]at m;by_cases h:u=a
    ·grind [newρ_eq]
    rw[newρ_ne h]at n;simp only[aG h]at p;have:=bJ (g.objs u t D p) n;grind
   rw[newρ_ne l]at m;simp only[aG l]at j;by_cases h:u=d
   ·subst h;rw[newρ_eq]at n;have:=bJ (g.objs a r o j) m;grind
   rw[newρ_ne h]at n;simp only[aG h]at p;exact g.inj a r u t o D b c y j p m n
  ·by_cases l:a=d
   ·subst l;rw[newρ_eq]at m;have:=q _ _ _ m;have M:=g.keep.size;exact⟨.inl (by omega),fun E=>by have:=g.bar b E;omega⟩
   rw[newρ_ne l]at m;simp only[aG l]at j;exact g.old a r o b c j m
  by_cases l:a=d
  ·grind [aM]
  simp only[aG l]at j;exact g.self a r o j
 intro k x J;obtain⟨v,K,L⟩:=B k x J;grind [TV.rel_map,jb]
theorem Bu {a:Act} (B:a.defers=[]) (x:a.tmps.size=s.tmps.length) (p:Inv w0 O X s.H ρ w) (y:aV X ρ s a w) (g:Ext w w') {d:Nat} (C:s.H d=[]) (j:Nat->Option (Nat×Nat)) (q: ∀r b c,j r=some (b,c)->w.heap.size<=b) (n: ∀r z b c A,j r=some (b,c)->j z=some (b,A)->r=z) (m: ∀(r:Nat) o,f[r]?=some o->selfO d o) (u: ∀(r:Nat) o,f[r]?=some o->objRel (newρ ρ d j) (ax s.H d f) (Xo X (newρ ρ d j) (ax s.H d f)) w' d r o) (D:l.rel (newρ ρ d j) (ax s.H d f) (Xo X (newρ ρ d j) (ax s.H d f)) w' e):dx w0 O X (AS.put ⟨s.tmps,ax s.H d f⟩ (some d) l) (a.put (some d) e) w':=by
 have h:=Jj p y g C j q n m u;exact eD (ρ:=newρ ρ d j) B x h.1 h.2 D
theorem cf {a:Nat} (b:isPure v=true):bs a v:=by
 cases v<;>first|trivial|cases b
theorem lC (w:World) (o:Obj):Ext w (w.alloc o):=(Ext.refl w).alloc o
theorem uI {a:Act} (M:a.defers=[]) (E:a.tmps.size=s.tmps.length) (g:Inv w0 O X s.H ρ w) (F:aV X ρ s a w) {d:Nat} {e:TypeId} {es c:Nat} {elems:List (List AV)} {cells:Array Value} (G:s.H d=[]) (D:0<es) (C: ∀x∈elems,x.length=es) (B:cells.size=c*es) (p:elems.length<=c) (N:c<=9223372036854775807) (I: ∀x∈elems,∀y∈x,isPure y=true) (m: ∀(i:Nat) x (j:Nat) y,elems[i]?=some x->x[j]?=some y-> ∃v:Value,cells[i*es+j]?=some v/\v.oneCell'=true/\y.rel ρ s.H (Xo X ρ s.H) w v) {t:TV} {v:Value} (R:(t= .one (.ptr d 0 0 0)/\0<elems.length/\v= .pointer (some ⟨w.heap.size,0,none⟩))\/(t= .one (.sl d 0 0 elems.length)/\v= .slice (some ⟨w.heap.size,0,none⟩) elems.length c)):
  dx w0 O X (AS.put ⟨s.tmps,ax s.H d [⟨e,es,elems⟩]⟩ (some d) t) (a.put (some d) v) (w.alloc (.cells cells e)):=by
 have l: ∀(r b A:Nat),(if r=0 then some (w.heap.size,c)else none)=some (b,A)->w.heap.size<=b:=fun r b A h=>by
  grind
 have key: ∀y v,isPure y=true->AV.rel ρ s.H (Xo X ρ s.H) w y v->AV.rel (newρ ρ d fun r=>if r=0 then some (w.heap.size,c)else none) (ax s.H d [⟨e,es,elems⟩]) (Xo X (newρ ρ d fun r=>if r=0 then some (w.heap.size,c)else none) (ax s.H d [⟨e,es,elems⟩])) (w.alloc (.cells cells e)) y v:=fun y v _ h=>
  jb g (lC w _) G (f:=fun r=>if r=0 then some (w.heap.size,c)else none) l h
 refine Bu M E g F (lC w _) G (fun r=>if r=0 then some (w.heap.size,c)else none) l (fun r T b c A h S=>?_) (fun r o n=>?_) (fun r o n=>?_) ?_
 ·grind
 ·cases r with
  |succ r=>simp at n
  |zero=>
   simp at n;subst n;exact fun x q y z=>cf (I x q y z)
 ·cases r with
  |succ r=>simp at n
  |zero=>
   simp at n;subst n;refine⟨C,D,?_⟩;rw[newρ_eq];refine⟨cells,heap_alloc_new w _,B,p,N,fun i x j y q z=>?_⟩;obtain⟨u,J,K,L⟩:=m i x j y q z;exact⟨u,J,K,key y u (I x (aai q) y (aai z)) L⟩
 rcases R with⟨rfl,Q,rfl⟩|⟨rfl,rfl⟩
 ·exact⟨⟨e,es,elems⟩,w.heap.size,c,by simp[aM],by rw[newρ_eq];rfl,Q,by simp⟩
 exact⟨⟨e,es,elems⟩,by simp[aM],by simp,.inr ⟨w.heap.size,c,c,by rw[newρ_eq];rfl,by simp,p,fun _=>rfl⟩⟩
end
end
section
section
variable {P:Program} {w0 w w':World} {O X:Nat->Prop} {ρ:Rho} {H:OH}
theorem ko (h:dw P g=some r): ∃i b,P.info? g=some i/\i.zero=some b/\b.cells.toList=r:=by
 unfold dw at h;cases c:P.info? g with
 |none=>grind
 |some i=>
  simp_all
theorem vR (h:IA P g=some n): ∃i,P.info? g=some i/\i.bytes=n:=by
 unfold IA at h;simp_all
theorem xE {i:TypeInfo} (h:P.info? g=some i) (b:i.zero=some e):(zeroValue g).run P w= .ok e w:=by
 simp_all[zeroValue,BP]
theorem xD (t:TypeId) (c:Array Value):(newRow t c).run P w= .ok ⟨w.heap.size,0,none⟩ (w.alloc (.cells c t)):=rfl
theorem JB (t:TypeId) (v:Value):(Instr.box t v).run P w= .ok (.pointer (some ⟨w.heap.size,0,none⟩)) (w.alloc (.cells v.cells t)):=rfl
theorem G7 {i:TypeInfo} (h:P.info? g=some i) (b:i.zero=some e):
  (Instr.alloc g true (.tuple #[])).run P w= .ok (.pointer (some ⟨w.heap.size,0,none⟩)) (w.alloc (.cells e.cells g)):=by
 unfold Instr.alloc;rw[aax,xE h b,aan];rfl
theorem Ej (n:Nat):(askRoom n).run P w= .ok () w:=by
 simp
def mS (z:List Value) (n:Nat):Array Value:=(Array.range n).map fun k=>z.toArray[k%z.toArray.size]!
theorem GG (z:List Value) (n:Nat):(mS z n).size=n:=by simp[mS]
theorem Lb {i:Nat} (b:r[m]?=some e) (c:i*r.length+m<n):(mS r n)[i*r.length+m]?=some e:=by
 grind [mS,Nat.mul_comm,Nat.mul_add_mod,Nat.mod_eq_of_lt]
theorem LS {b:TypeId} {i:TypeInfo} (q:P.underlying g=some (.slice b)) (j:P.info? b=some i) (s:i.zero=some e) (h:e.cells.toList=r) (f:r.length=i.size) (v u:IntKind) {n m:Int} (A:0<=n) (o:n<=m) (l:m<=9223372036854775807) (B:(i.bytes:Int)*m<=281474976710656):
  (Instr.makeSlice g (.int v n) (.int u m)).run P w= .ok (.slice (some ⟨w.heap.size,0,none⟩) n.toNat m.toNat) (w.alloc (.cells (mS r (m.toNat*r.length)) b)):=by
 have x:IntKind.i64.wrap n=n:=ac1 _ (by omega);have y:IntKind.i64.wrap m=m:=ac1 _ (by omega);have p:(sizeOf b).run P w= .ok i.size w:=by simp_all[sizeOf,BP]
 have t1:decide (m<0)=false:=by simp;omega
 have t2:decide ((i.bytes:Int)*m>2^48)=false:=by simp;omega
 have t3:decide (n<0)=false:=by simp;omega
 have t4:decide (n>m)=false:=by simp;omega
 unfold Instr.makeSlice;simp only[aax,run_underlying q,aan,asInt,asIntOf,abc,BP j,x,y,t1,t2,t3,t4,ad9,aaZ,if_false,Ej,p];by_cases c:m.toNat*i.size=0
 ·grind [Sem.run_bind,Result.andThen_ok,xD,Sem.run_pure,mS]
 rw[if_neg c];simp only[aax,xE j s,aan,abc,xD];rw[f,<- h];rfl
theorem zw {ev:Operand->Option TV} {e:Operand->Value} {Y:Nat->Prop} (n:il ρ H Y w ev e) {sz:Nat}: ∀(parts:List (Nat×Operand)) (m:Nat) (l:List (List AV)) (cells:Array Value),
  pE ev sz m parts=some l->(m+l.length)*sz<=cells.size->
  ∃b,Instr.fill (fun i=>some (i*sz,sz)) cells (parts.map fun(i,x)=>(i,e x))=some b/\b.size=cells.size/\(∀j:Nat,j<m*sz->b[j]?=cells[j]?)/\
   (∀x∈l,x.length=sz/\ ∀y∈x,isPure y=true)/\
   ∀(i:Nat) x (j:Nat) y,l[i]?=some x->x[j]?=some y-> ∃u:Value,b[(m+i)*sz+j]?=some u/\u.oneCell'=true/\y.rel ρ H Y w u
 |[],m,l,cells,h,_=>by
  simp only[pE]at h;injection h with h
  subst h;exact⟨cells,rfl,rfl,fun _ _=>rfl,fun x s=>(by simp at s),fun i x j y s=>(by simp at s)⟩
 |(k,x)::o,m,l,cells,h,r=>by
  simp only[pE]at h;split at h
  ·rename_i f z p q;split at h
   ·rename_i C;obtain⟨A,L,M⟩:=C;injection h with h
    subst h;subst A;obtain⟨t,F,v⟩:=aaG.1 p;obtain⟨J,W⟩:=iU v (n x t F);simp only[aaP]at r;have E:(k+(z.length+1))*sz=k*sz+(z.length*sz+sz):=by grind
    generalize G:(e x).cells=g at*
    obtain⟨g⟩:=g;have K:g.length=f.length:=J;obtain⟨f1,f2⟩:=sI (k*sz) g 0 cells (by omega);have N:(g.toArray.zipIdx.foldl (fun f (c,j)=>f.setIfInBounds (k*sz+j) c) cells)=((g.zipIdx 0).foldl (fun f (c,j)=>f.setIfInBounds (k*sz+j) c) cells):=by
     simp
    have D:(k+1)*sz=k*sz+sz:=by grind
    obtain⟨b,Q,B,R,S,T⟩:=zw n o (k+1) z (cells:=(g.zipIdx 0).foldl (fun f (c,j)=>f.setIfInBounds (k*sz+j) c) cells) q (by grind);refine⟨b,?_,by rw[B,f1],fun j U=>?_,fun y I=>?_,fun i y j u I V=>?_⟩
    ·grind [Instr.fill]
    ·grind
    ·grind
    cases i with
    |zero=>
     grind
    |succ i=>
     grind
   cases h
  cases h
def jj (s:AS) (d:Nat) (t:TV) (F:List OObj):AS:=if F.isEmpty then s.put (some d) t else AS.put ⟨s.tmps,ax s.H d F⟩ (some d) t
theorem NV {b:List (df P)} {i d:Nat} {a:Act} (B:a.defers=[]) (q:a.tmps.size=s.tmps.length) (m:Inv w0 O X s.H ρ w) (n:aV X ρ s a w) {x:Operand} (G:u.op= .box g x) (h:cn P b o i d s.ev s.H u.op=some (l,f)) (E:s.H d=[]):
  ∃v w',(execOp a.eval u).run P w= .ok (.value v) w'/\dx w0 O X (jj s d l f) (a.put (some d) v) w':=by
 unfold execOp;rw[G]at h⊢;simp only[cn]at h;split at h
 ·rename_i L p;split at h
  ·rename_i D;injection h with h
   injection h with r C
   subst r C;obtain⟨l,r,A⟩:=aaG.1 p;obtain⟨K,M⟩:=iU A (bz n x l r);refine⟨_,_,eh (JB g (a.eval x)),?_⟩;refine uI B q m n (c:=1) E D.2 (by simp) (by simp[K]) (by simp) (by omega) (fun y I z J=>?_) (fun k y j z I J=>?_) (.inl ⟨rfl,by simp,rfl⟩)
   ·grind
   grind
  cases h
 cases h
theorem F9 {n:List (df P)} {i d:Nat} {a:Act} (E:a.defers=[]) (q:a.tmps.size=s.tmps.length) (p:Inv w0 O X s.H ρ w) (r:aV X ρ s a w) (K:u.op= .alloc g) (h:cn P n o i d s.ev s.H u.op=some (l,f)) (I:s.H d=[]):
  ∃v w',(execOp a.eval u).run P w= .ok (.value v) w'/\dx w0 O X (jj s d l f) (a.put (some d) v) w':=by
 unfold execOp;rw[K]at h⊢;simp only[cn]at h;split at h
 ·rename_i z M;split at h
  ·rename_i C;injection h with h
   injection h with L G
   subst L G;obtain⟨i,S,J,B,A⟩:=ko M;obtain⟨N,Q⟩:=Ee (ρ:=ρ) (H:=s.H) (X:=Xo X ρ s.H) (w:=w) C.1;refine⟨_,_,eh (G7 J B),?_⟩;have D:z.toArray=S.cells:=by rw[<- A]
   rw[D]at N Q;refine uI E q p r (c:=1) I C.2 (by simp) (by grind) (by simp) (by omega) (fun y x R m=>?_) (fun k y j R x m=>?_) (.inl ⟨rfl,by simp,rfl⟩)
   ·simp at x;subst x;simp at m;obtain⟨b,_,rfl⟩:=m;rfl
   grind
  cases h
 cases h
theorem KP {D:List (df P)} {i d:Nat} {a:Act} (K:a.defers=[]) (R:a.tmps.size=s.tmps.length) (E:Inv w0 O X s.H ρ w) (C:aV X ρ s a w) {b c:Operand} (ho:u.op= .makeSlice g b c) (h:cn P D o i d s.ev s.H u.op=some (l,f)) (hd:s.H d=[]):
  ∃v w',(execOp a.eval u).run P w= .ok (.value v) w'/\dx w0 O X (jj s d l f) (a.put (some d) v) w':=by
 unfold execOp;rw[ho]at h⊢;simp only[cn]at h;split at h
 ·rename_i k1 n k2 m e hl hc hs;split at h
  ·rename_i z sz Y hz J M;split at h
   ·rename_i B;obtain⟨Z,c2,c3,c4,c5,c6,U⟩:=B;injection h with h
    injection h with ht hF
    subst ht hF;obtain⟨i,zv,N,T,S⟩:=ko hz;obtain⟨i',q,W⟩:=rM J;rw[N]at q;injection q with q;subst q
    obtain⟨i',q,V⟩:=vR M;rw[N]at q;injection q with q;subst q
    have I:=LS (P:=P) (w:=w) (dI hs) N T S (by omega) k1 k2 Z c2 c3 (by grind);have hn:=(aX (bz C b _ hl)).1;have hm:=(aX (bz C c _ hc)).1;refine⟨_,_,eh (by rw[hn,hm];exact I),?_⟩;simp only[aat]at U;have G: ∀(k:Nat) x,(List.replicate n.toNat (z.map AV.raw))[k]?=some x->k<n.toNat/\x=z.map AV.raw:=fun k x hx=>by
     grind
    have A:(List.replicate n.toNat (z.map AV.raw)).length=n.toNat:=by simp
    have:=uI K R E C (c:=m.toNat) (e:=e) (es:=sz) (elems:=List.replicate n.toNat (z.map AV.raw)) (cells:=mS z (m.toNat*z.length)) hd c6 (by grind) (by rw[GG,c5]) (by simp;omega) (by omega)
     (fun y L z' r=>by simp[ach]at L;rw[L.2]at r;simp at r;obtain⟨p,_,rfl⟩:=r;rfl)
     (fun k y j z' L r=>by
      obtain⟨hk,rfl⟩:=G k y L;rw[aam]at r;cases Q:z[j]? with
      |none=>grind
      |some p=>
       rw[Q]at r;simp at r;subst r;have K:=U p (aai Q);have aa:j<z.length:=(aao.1 Q).1;have ab:k*z.length+j<m.toNat*z.length:=by
        have:(k+1)*z.length<=m.toNat*z.length:=aav _ (by omega);grind
       refine⟨p,?_,K,bM.raw p K⟩;grind [Lb])
     (t:= .one (.sl d 0 0 n.toNat)) (v:= .slice (some ⟨w.heap.size,0,none⟩) n.toNat m.toNat) (.inr ⟨by rw[A],by rw[A]⟩)
    exact this
   cases h
  cases h
 cases h
theorem NX {K:List (df P)} {i d:Nat} {a:Act} (h1:a.defers=[]) (N:a.tmps.size=s.tmps.length) (q:Inv w0 O X s.H ρ w) (G:aV X ρ s a w) {parts:Array (Nat×Operand)} (ho:u.op= .buildSlice g n parts) (h:cn P K o i d s.ev s.H u.op=some (l,f)) (hd:f≠[]->s.H d=[]):
  ∃v w',(execOp a.eval u).run P w= .ok (.value v) w'/\dx w0 O X (jj s d l f) (a.put (some d) v) w':=by
 unfold execOp;rw[ho]at h⊢;simp only[cn]at h;split at h
 ·rename_i e hs;split at h
  ·rename_i z sz hz Q;split at h
   ·rename_i m L;split at h
    ·rename_i E;obtain⟨R,c2,c3,S⟩:=E;obtain⟨i,zv,hi,ab,ad⟩:=ko hz;have aa:((Array.range (n*sz)).map (zv.cells[· %zv.cells.size]!))=mS z (n*sz):=by grind [mS]
     obtain⟨cells,g1,g2,g3,T,g5⟩:=zw (bz G) parts.toList 0 m (mS z (n*sz)) L (by grind);have C:(Instr.buildSlice g n (parts.map fun(i,x)=>(i,a.eval x))).run P w= .ok (.slice (some ⟨w.heap.size,0,none⟩) n n) (w.alloc (.cells cells e)):=by
      have D:Instr.fill (fun i=>some (i*sz,sz)) (mS z (n*sz)) (parts.map fun(i,x)=>(i,a.eval x)).toList=some cells:=by simp_all
      unfold Instr.buildSlice;simp only[aax,run_underlying (dI hs),aan,dU Q];rw[if_neg (by omega)];by_cases M:n*sz=0
      ·rw[if_pos M];have Z:mS z (n*sz)= #[]:=by grind
       rw[Z]at D;rw[aax];show Result.andThen (.ok #[] w) _=_;rw[aan];rw[show(Array.map (fun x=>(#[]:Array Value)[x%(#[]:Array Value).size]!) (Array.range (n*sz)))= #[] by grind,D];rfl
      rw[if_neg M];simp only[aax,xE hi ab,abc,aan];rw[aa,D];rfl
     split at h
     ·injection h with h
      injection h with ht U
      subst ht U;refine⟨_,_,eh C,?_⟩;have:=uI h1 N q G (c:=n) (e:=e) (es:=sz) (elems:=m) (cells:=cells) (hd (by simp)) S (fun x A=>(T x A).1) (by grind) (by omega)
       (by have:n*1<=n*sz:=aas _ S;omega) (fun x A=>(T x A).2)
       (fun i x j y A B=>by grind)
       (t:= .one (.sl d 0 0 n)) (v:= .slice (some ⟨w.heap.size,0,none⟩) n n) (.inr ⟨by rw[R],by rw[R]⟩)
      exact this
     injection h with h
     injection h with ht U
     subst ht U;refine⟨_,_,eh C,?_⟩;refine eD h1 N (q.grow (lC w _)) (G.grow (lC w _)) ?_;show bM _ _ _ _;have hl:(m.map (List.map uq)).length=n:=by simp[R]
     have W: ∀(i:Nat) x (j:Nat) y,(m.map (List.map uq))[i]?=some x->x[j]?=some y-> ∃p:Value,cells[i*sz+j]?=some p/\bM (Xo X ρ s.H) w y p:=fun i x j y A B=>by
      rw[aam]at A;cases I:m[i]? with
      |none=>grind
      |some x'=>
       rw[I]at A;simp at A;subst A;rw[aam]at B;cases J:x'[j]? with
       |none=>grind
       |some y'=>
        rw[J]at B;simp at B;subst B;obtain⟨p,u1,u2,u3⟩:=g5 i x' j y' I J;have hp:=(T x' (aai I)).2 y' (aai J);refine⟨p,by grind,?_⟩;cases y'<;>first|exact u3|cases hp
     have Y: ∃b:Nat->Nat->Value,∀(i:Nat) x (j:Nat) y,(m.map (List.map uq))[i]?=some x->x[j]?=some y->cells[i*sz+j]?=some (b i j)/\bM (Xo X ρ s.H) w y (b i j):=by
      refine⟨fun i j=>(cells[i*sz+j]?).getD undef,fun i x j y A B=>?_⟩;grind
     obtain⟨b,Y⟩:=Y;have ac:n<=16777216:=by have:n*1<=n*sz:=aas _ S;omega
     have:=bM.sl (X:=Xo X ρ s.H) (w:=w.alloc (.cells cells e)) w.heap.size 0 sz n (m.map (List.map uq)) b (fun V=>by
      rcases V with V|⟨a',r,o',c,q1,q2⟩
      ·have:=q.bar _ V;omega
      ·have:=bJ (q.objs a' r o' q1) q2;omega) (by simp) (fun x A=>by grind) (by omega) (by omega)
      (fun i x j y A B=>by
       grind [cell_of_row,heap_alloc_new])
      (fun i x j y A B=>bM.stays (lC w _).stays (Y i x j y A B).2)
     grind
    cases h
   cases h
  cases h
 cases h
end
end
section
section
variable {P:Program} {w0 w w':World} {O X:Nat->Prop} {ρ:Rho} {H:OH}
structure But (b:Nat) (w w':World):Prop where
 os:w'.os=w.os
 tape:w'.tape=w.tape
 output:w'.output=w.output
 size:w.heap.size<=w'.heap.size
 block: ∀k,k<w.heap.size->k≠b->w'.heap[k]?=w.heap[k]?
theorem But.setRow (w:World) (b:Nat) (c:Array Value):But b w (w.setRow b c):=
 ⟨rfl,rfl,rfl,by simp,fun k f e=>by grind [World.setRow]⟩
theorem Keep.but (h:Keep O w0 w) (e:But n w w') (g:w0.heap.size<=n\/O n):Keep O w0 w':=
 ⟨e.os.trans h.os,e.tape.trans h.tape,e.output.trans h.output,aap h.size e.size,fun k c f=>by
  rw[e.block k (aaA c h.size) (by grind)];exact h.block k c f⟩
theorem ns {y:OH} {b:Nat} (B:Xo X ρ H b) (f:But b w w') (g: ∀(a r:Nat) o,(H a)[r]?=some o-> ∃l,(y a)[r]?=some l/\l.es=o.es/\o.elems.length<=l.elems.length/\t a r=ρ a r) (C: ∀(a r:Nat) o m c,(y a)[r]?=some o->t a r=some (m,c)->m<w.heap.size->Xo X ρ H m) (h:v.rel ρ H (Xo X ρ H) w e):v.rel t y (Xo X t y) w' e:=by
 refine qr (fun v e L h=>?_) v e h;cases v with
 |fn=>cases L
 |p v=>
  refine bM.stays ⟨f.size,fun p u M E=>?_⟩ (bM.weaken (fun m K z=>?_) h)
  ·have D:=mj E;by_cases s:p.block=b
   ·exfalso;apply M;obtain B|⟨a,r,o,c,n,A⟩:=B
    ·exact .inl (s▸B)
    obtain⟨l,q,F,G,I⟩:=g a r o n;exact .inr ⟨a,r,l,c,q,by grind⟩
   unfold World.cell? at E⊢;rw[f.block _ D s];exact E
  rcases z with z|⟨a,r,o,c,n,A⟩
  ·exact .inl z
  grind
 |sl a r N len=>
  obtain⟨o,n,A,J⟩:=h;obtain⟨l,q,F,G,I⟩:=g a r o n;refine⟨l,q,by omega,?_⟩;grind
 |ptr a r i j=>
  obtain⟨o,m,c,n,A,J,Q⟩:=h;obtain⟨l,q,F,G,I⟩:=g a r o n;exact⟨l,m,c,q,by grind,by omega,by grind⟩
 |junk=>trivial
theorem uR {b:OObj} (h:f[n]?=some q):(f.set n b)[m]?=if m=n then some b else f[m]?:=by
 grind
theorem BG {c:List AV} (b:n+c.length<=h.length):(putCells h n c).length=h.length:=by
 grind [putCells]
theorem BE {c:List AV} (b:n+c.length<=h.length) (k:Nat):(putCells h n c)[k]?=if n<=k/\k<n+c.length then c[k-n]? else h[k]?:=BT b k
theorem C7 {i j c b:Nat} (h:n≠i) (f:j+b<=m) (e:c<m): ¬(i*m+j<=n*m+c/\n*m+c<i*m+j+b):=by
 rcases Nat.lt_or_gt_of_ne h with h|h
 ·have:(n+1)*m<=i*m:=aav _ h;grind
 have:(i+1)*m<=n*m:=aav _ h;grind
theorem Ai {act:Act} (h1:act.defers=[]) (bc:act.tmps.size=s.tmps.length) (f:Inv w0 O X s.H ρ w) (a6:aV X ρ s act w) {a i j c:Nat} {L:List AV} {vs:List Value} (V:(s.H a)[n]?=some q) (I:ρ a n=some (m,c)) (he:q.elems[i]?=some h) (hj:j+L.length<=h.length) (a7:vs.length=L.length) (ag: ∀(k:Nat) x,L[k]?=some x-> ∃u:Value,vs[k]?=some u/\u.oneCell'=true/\x.rel ρ s.H (Xo X ρ s.H) w u) (a5: ∀x∈L,bs a x):
  ∃cells,w.heap[m]?=some (.cells cells q.ty (0,0))/\i*q.es+j+vs.length<=cells.size/\
   Inv w0 O X (ax s.H a ((s.H a).set n {q with elems:=q.elems.set i (putCells h j L)})) ρ (w.setRow m (cells.toList.take (i*q.es+j)++vs++cells.toList.drop (i*q.es+j+vs.length)).toArray)/\
   aV X ρ ⟨s.tmps,ax s.H a ((s.H a).set n {q with elems:=q.elems.set i (putCells h j L)})⟩ act (w.setRow m (cells.toList.take (i*q.es+j)++vs++cells.toList.drop (i*q.es+j+vs.length)).toArray):=by
 have af:=f.objs a n q V;obtain⟨q1,q2,q3⟩:=af;rw[I]at q3;obtain⟨cells,p1,p2,p3,p4,p5⟩:=q3;have ba:h.length=q.es:=q1 h (aai he);have hi:i<q.elems.length:=(aao.1 he).1;have ad:i*q.es+j+vs.length<=cells.size:=by
  have:(i+1)*q.es<=c*q.es:=aav _ (by omega);grind
 refine⟨cells,p1,ad,?_⟩;have ah:Xo X ρ s.H m:= .inr ⟨a,n,q,c,V,I⟩;generalize av:(cells.toList.take (i*q.es+j)++vs++cells.toList.drop (i*q.es+j+vs.length))=cl;have S: ∀k:Nat,cl[k]?=if i*q.es+j<=k/\k<i*q.es+j+vs.length then vs[k-(i*q.es+j)]? else cells[k]?:=fun k=>by
  rw[<- av,BT (by omega)];simp
 have a0:cl.length=cells.size:=by grind
 have e0:=But.setRow w m cl.toArray;generalize aa:ax s.H a ((s.H a).set n {q with elems:=q.elems.set i (putCells h j L)})=H';have N: ∀z,(H' a)[z]?=if z=n then some {q with elems:=q.elems.set i (putCells h j L)}else(s.H a)[z]?:=fun z=>by rw[<- aa,aM];grind
 have a9: ∀p,p≠a->H' p=s.H p:=fun p ha=>by rw[<- aa,aG ha]
 have U: ∀(p z:Nat) A,(s.H p)[z]?=some A-> ∃o',(H' p)[z]?=some o'/\o'.es=A.es/\A.elems.length<=o'.elems.length/\ρ p z=ρ p z:=fun p z A g=>by
  grind
 have l: ∀(p z:Nat) A,(H' p)[z]?=some A-> ∃K,(s.H p)[z]?=some K/\A.es=K.es/\(p=a/\z=n\/A=K):=fun p z A g=>by
  by_cases ha:p=a
  ·grind
  grind
 have R: ∀(p z:Nat) A Q Z,(H' p)[z]?=some A->ρ p z=some (Q,Z)->Q<w.heap.size->Xo X ρ s.H Q:=fun p z A Q Z g G _=>by
  obtain⟨K,D,_⟩:=l p z A g;exact .inr ⟨p,z,K,Z,D,G⟩
 have F: ∀x v,AV.rel ρ s.H (Xo X ρ s.H) w x v->AV.rel ρ H' (Xo X ρ H') (w.setRow m cl.toArray) x v:=fun x v B=>ns ah e0 U R B
 refine⟨⟨f.keep.but e0 (f.old a n q m c V I).1,fun p z A g=>?_,fun C J a2 r2 A K Y c1 c2 g a3 G a4=>?_,fun C J A Y c1 g G=>?_,fun Y al=>aaA (f.bar Y al) e0.size,fun C J A g=>?_⟩,fun t x B=>?_⟩
 ·obtain⟨K,D,g2,M⟩:=l p z A g;by_cases ab:p=a/\z=n
  ·obtain⟨rfl,rfl⟩:=ab;rw[N,if_pos rfl]at g;injection g with g
   subst g;refine⟨fun y hy=>?_,q2,?_⟩
   ·grind [BG]
   rw[I];refine⟨cl.toArray,setRow_heap w m cells _ _ _ p1,by grind,by grind,p4,fun i' e' j' x E B=>?_⟩;simp only[List.getElem?_toArray];rw[S];by_cases T:i'=i
   ·subst T;rw[aa3]at E;simp[hi]at E;subst E;rw[BE hj]at B;split at B
    ·rename_i bb;rw[if_pos (by omega)];obtain⟨u,u1,u2,u3⟩:=ag _ _ B;exact⟨u,by rw[show i'*q.es+j'-(i'*q.es+j)=j'-j by omega];exact u1,u2,F _ _ u3⟩
    grind
   rw[abq (acE T)]at E;have ae:j'<e'.length:=(aao.1 B).1;rw[q1 e' (aai E)]at ae;rw[if_neg (by rw[a7];exact C7 T (by omega) ae)];grind
  rcases M with M|M
  ·omega
  subst M;refine dP (f.objs p z A D) rfl (fun Q Z ac=>e0.block Q (bJ (f.objs p z A D) ac) (fun ap=>?_)) F;subst ap;exact ab (f.inj p z a n A q Q Z c D V ac I)
 ·obtain⟨W,D,_⟩:=l C J A g;obtain⟨a8,g2,_⟩:=l a2 r2 K a3;exact f.inj C J a2 r2 W a8 Y c1 c2 D g2 G a4
 ·obtain⟨W,D,_⟩:=l C J A g;exact f.old C J W Y c1 D G
 ·obtain⟨K,D,g2,M⟩:=l C J A g;rcases M with⟨rfl,rfl⟩|M
  ·rw[N,if_pos rfl]at g;injection g with g
   subst g;intro y hy x B;rcases abt hy with hy|rfl
   ·exact f.self C J q V y hy x B
   unfold putCells at B;simp only[abf]at B;rcases B with(B|B)|B
   ·exact f.self C J q V h (aai he) x (abJ B)
   ·grind
   exact f.self C J q V h (aai he) x (abX B)
  subst M;exact f.self C J A D
 obtain⟨v,v1,v2⟩:=a6 t x B;grind [TV.rel_map]
theorem tV {t:TypeId} {v:Value} {cells:Array Value} (c:gL P t=some v.cells.size) (f:w.heap[n]?=some (.cells cells g (0,0))) (h:m+v.cells.size<=cells.size) (e: ∀u∈v.cells,u.oneCell'=true):
  (Instr.storeAt t (.pointer (some ⟨n,m,none⟩)) v).run P w= .ok () (w.setRow n (cells.toList.take m++v.cells.toList++cells.toList.drop (m+v.cells.size)).toArray):=by
 unfold Instr.storeAt storeVar;simp only[Instr.sureAddr,aax,abc,aan,dU c];grind [run_storeCells_at]
end
end
section
section
variable {P:Program} {w0 w w':World} {O X:Nat->Prop} {ρ:Rho} {H:OH}
theorem wG {k:Nat->Nat->Bool} (h:l.rel ρ H b w e) (r: ∀x e,x.rel ρ H b w e->AV.rel t p c w' (aO k x) e):(aP k l).rel t p c w' e:=by
 have agg: ∀m e,bH ρ H b w m e->bH t p c w' (m.map (aO k)) e:=fun m e h=>by
  obtain⟨vs,n,o,q⟩:=h;refine⟨vs,n,by grind,fun j x s=>?_⟩;grind
 cases l with
 |one x=>exact r _ _ h
 |agg m=>exact agg m e h
 |fn f m=>obtain⟨u,n,o⟩:=h;exact⟨u,agg m u n,o⟩
 |tup y=>
  obtain⟨vs,n,o,q⟩:=h;refine⟨vs,n,by grind,fun j g m s=>?_⟩;grind
theorem Bb {k:Nat->Nat->Bool} {s:AS} {a:Act} (h:aV X ρ s a w) (f: ∀x v,x.rel ρ s.H (Xo X ρ s.H) w v->AV.rel t p (Xo X t p) w' (aO k x) v):aV X t ⟨s.tmps.map (aP k),p⟩ a w':=by
 intro b x c;simp only[aam]at c;cases e:s.tmps[b]? with
 |none=>grind
 |some y=>
  rw[e]at c;simp at c;subst c;obtain⟨v,g,j⟩:=h b y e;grind [wG]
theorem zy (l:Inv w0 O X H ρ w) {a b:Nat} (Z:b<=4999) (W:b≠a) (hb:H b=[q]) (hp: ∀e∈q.elems,∀x∈e,isPure x=true):
  Inv w0 O X (ax (ax H a (H a++[q])) b []) (fun x y=>if x=a/\y=(H a).length then ρ b 0 else ρ x y) w/\
  (∀x v,AV.rel ρ H (Xo X ρ H) w x v->AV.rel (fun x y=>if x=a/\y=(H a).length then ρ b 0 else ρ x y) (ax (ax H a (H a++[q])) b []) (Xo X (fun x y=>if x=a/\y=(H a).length then ρ b 0 else ρ x y) (ax (ax H a (H a++[q])) b [])) w (aO (fun x _=>x==b) x) v)/\
  (∀B len v,AV.rel ρ H (Xo X ρ H) w (.sl b 0 B len) v->AV.rel (fun x y=>if x=a/\y=(H a).length then ρ b 0 else ρ x y) (ax (ax H a (H a++[q])) b []) (Xo X (fun x y=>if x=a/\y=(H a).length then ρ b 0 else ρ x y) (ax (ax H a (H a++[q])) b [])) w (.sl a (H a).length B len) v):=by
 generalize U:ax (ax H a (H a++[q])) b []=t;generalize ac:(fun x y=>if x=a/\y=(H a).length then ρ b 0 else ρ x y:Rho)=ρ1;have af:t b=[]:=by rw[<- U];exact aM
 have ae:t a=H a++[q]:=by rw[<- U,aG (acE W),aM]
 have ag: ∀x,x≠a->x≠b->t x=H x:=fun x A E=>by rw[<- U,aG E,aG A]
 have ad: ∀x y,¬(x=a/\y=(H a).length)->ρ1 x y=ρ x y:=fun x y h=>by grind
 have S:ρ1 a (H a).length=ρ b 0:=by grind
 have Y:(H b)[0]?=some q:=by rw[hb];rfl
 -- I: a live row of H that is not of b is the same in t
 have J: ∀(x y:Nat) o,(H x)[y]?=some o->x≠b->(t x)[y]?=some o/\ρ1 x y=ρ x y:=fun x y o D hx=>by
  grind
 -- g: a live row of t is one of H
 have g: ∀(x y:Nat) o,(t x)[y]?=some o-> ∃r s,(H r)[s]?=some o/\ρ1 x y=ρ r s/\((r=x/\s=y/\x≠b)\/(x=a/\y=(H a).length/\r=b/\s=0/\o=q)):=fun x y o D=>by
  grind
 have V: ∀c,Xo X ρ1 t c->Xo X ρ H c:=fun c N=>by
  rcases N with N|⟨x,y,o,n,A,E⟩
  ·exact .inl N
  obtain⟨r,s,C,K,_⟩:=g x y o A;exact .inr ⟨r,s,o,n,C,by grind⟩
 have M: ∀x v,bM (Xo X ρ H) w x v->bM (Xo X ρ1 t) w x v:=fun x v h=>bM.weaken (fun c _ N=>V c N) h
 have mono: ∀x v,AV.rel ρ H (Xo X ρ H) w x v->AV.rel ρ1 t (Xo X ρ1 t) w (aO (fun x _=>x==b) x) v:=gp (pH _) fun x v hn h=>by
  cases x with
  |fn=>cases hn
  |p x=>exact M x v h
  |sl x y B len=>
   simp only[aO];by_cases m:x=b
   ·subst m;simp;trivial
   simp only[beq_iff_eq,m,if_false];obtain⟨o,A,E,T⟩:=h;obtain⟨f1,f2⟩:=J x y o A m;exact⟨o,f1,E,by grind⟩
  |ptr x y i j=>
   simp only[aO];by_cases m:x=b
   ·subst m;simp;trivial
   simp only[beq_iff_eq,m,if_false];obtain⟨o,b',c,A,E,T⟩:=h;obtain⟨f1,f2⟩:=J x y o A m;exact⟨o,b',c,f1,by grind,T⟩
  |junk=>trivial
 have same: ∀z x v,bs z x->z≠b->AV.rel ρ H (Xo X ρ H) w x v->AV.rel ρ1 t (Xo X ρ1 t) w x v:=fun z x v F G h=>by
  have:=mono x v h;cases x with
  |fn f x qs=>
   have F:x=z:=F.1;grind [aO]
  |sl x y B len=>
   have F:x=z:=F;grind [aO]
  |ptr x y i j=>
   have F:x=z:=F;grind [aO]
  |p x=>exact this
  |junk=>trivial
 refine⟨⟨l.keep,fun x y o D=>?_,fun x y r s o o' c n n' D aa hr ah=>?_,fun x y o c n D hr=>?_,l.bar,fun x y o D=>?_⟩,mono,fun B len v h=>?_⟩
 ·obtain⟨r,s,C,K,L⟩:=g x y o D;have R:=l.objs r s o C;obtain⟨q1,q2,q3⟩:=R;refine⟨q1,q2,?_⟩;rw[K];cases hr:ρ r s with
  |none=>grind
  |some bc=>
   obtain⟨b',c⟩:=bc;rw[hr]at q3;obtain⟨cells,p1,p2,p3,p4,p5⟩:=q3;refine⟨cells,p1,p2,p3,p4,fun i e j z Q G=>?_⟩;obtain⟨u,u1,u2,u3⟩:=p5 i e j z Q G;refine⟨u,u1,u2,?_⟩;have al:=l.self r s o C e (aai Q) z (aai G);rcases L with⟨rfl,rfl,m⟩|⟨rfl,rfl,rfl,rfl,rfl⟩
   ·grind
   have ab:=hp e (aai Q) z (aai G);cases z<;>first|exact M _ _ u3|cases ab
 ·obtain⟨x1,y1,C,K,L⟩:=g x y o D;obtain⟨x2,y2,k1,k2,k3⟩:=g r s o' aa;obtain⟨e1,e2⟩:=l.inj x1 y1 x2 y2 o o' c n n' C k1 (by grind) (by grind);omega
 ·obtain⟨x1,y1,C,K,L⟩:=g x y o D;exact l.old x1 y1 o c n C (by grind)
 ·obtain⟨r,s,C,K,L⟩:=g x y o D;rcases L with⟨rfl,rfl,m⟩|⟨rfl,rfl,rfl,rfl,rfl⟩
  ·exact l.self r s o C
  exact fun e Q z G=>cf (hp e Q z G)
 obtain⟨o,A,E,T⟩:=h;rw[Y]at A;injection A with A
 subst A;exact⟨q,by grind,E,tf Z T S⟩
end
end
end Go.Proofs.YtalmoejhjceflaaGreat
