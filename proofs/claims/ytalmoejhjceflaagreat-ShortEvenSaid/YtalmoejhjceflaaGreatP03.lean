/-
  Part 4 of a proof (walks and plain facts).
-/
import Derived.Test.YtalmoejhjceflaaGreatP02
set_option linter.all false
set_option maxRecDepth 100000
set_option maxHeartbeats 64000000
namespace Go.Proofs.YtalmoejhjceflaaGreat
open Go.RowKit
variable {n m:Nat} {b c:Nat->Prop} {e:Value} {f:TypeId} {g:List OObj} {h j:List AV} {l:TV} {s:AS} {o:Nat->Option (Nat×Nat)} {p:OObj} {q:List Value} {r:Oper} {t:Operand->Value} {u:OH} {v:List Nat} {w:Rho} {x:AV}
section
section
variable {P:Program} {ρ:Rho} {H:OH} {X:Nat->Prop} {w:World}
def lL (ρ:Rho) (H:OH) (X:Nat->Prop) (w:World) (b:List AV) (vs:Array Value):Prop:=
 vs.size=b.length/\ ∀(j:Nat) x,b[j]?=some x-> ∃u:Value,vs[j]?=some u/\u.oneCell'=true/\x.rel ρ H X w u
theorem eH (h:e.oneCell'=true):e.cells= #[e]:=by cases e<;>first|rfl|cases h
theorem iL (f:cellsOf l=some h) (n:l.rel ρ H X w e):lL ρ H X w h e.cells:=by
 unfold cellsOf at f;split at f
 ·rename_i x;injection f with f
  subst f;have g:e.oneCell'=true:=bO.one n;rw[eH g];refine⟨rfl,fun j y m=>?_⟩;cases j with
  |zero=>simp at m;subst m;exact⟨e,rfl,g,n⟩
  |succ j=>simp at m
 ·rename_i a r q len;injection f with f
  subst f;have g:e.oneCell'=true:=by
   obtain⟨o,_,_,f|⟨b,c,cap,_,f,_⟩⟩:=n
   ·rw[f.2.1];rfl
   rw[f];rfl
  rw[eH g];refine⟨rfl,fun j y m=>?_⟩;cases j with
  |zero=>simp at m;subst m;exact⟨e,rfl,g,n⟩
  |succ j=>simp at m
 ·injection f with f
  subst f;obtain⟨vs,rfl,g,p⟩:=n;exact⟨g,p⟩
 cases f
theorem CU (h:q.all (·.oneCell')=true):lL ρ H X w (q.map AV.raw) q.toArray:=by
 simp only[XO]at h;refine⟨by simp,fun j x b=>?_⟩;rw[XK]at b;cases c:q[j]? with
 |none=>rw[c]at b;cases b
 |some u=>
  rw[c]at b;simp at b;subst b;have e:=h u (XH c);exact⟨u,by simpa using c,e,bO.raw u e⟩
theorem rr (b:Nat): ∀(vs:List Value) (k:Nat) (cells:Array Value),b+k+vs.length<=cells.size->
  ((vs.zipIdx k).foldl (fun e (c,j)=>e.setIfInBounds (b+j) c) cells).size=cells.size/\
  ∀j:Nat,((vs.zipIdx k).foldl (fun e (c,j)=>e.setIfInBounds (b+j) c) cells)[j]?=if b+k<=j/\j<b+k+vs.length then vs[j-(b+k)]? else cells[j]?
 |[],k,cells,_=>⟨rfl,fun j=>by rw[if_neg (by simp)];rfl⟩
 |v::vs,k,cells,h=>by
  simp at h;obtain⟨g,l⟩:=rr b vs (k+1) (cells.setIfInBounds (b+k) v) (by simp;omega);simp only[ZA,List.foldl_cons];refine⟨by rw[g];simp,fun j=>?_⟩;rw[l];by_cases m:j=b+k
  ·subst m;rw[if_neg (by omega),if_pos (by simp)];rw[ZD (by omega)]
   simp
  by_cases f:b+(k+1)<=j/\j<b+(k+1)+vs.length
  ·rw[if_pos f,if_pos (by simp;omega)];rw[show j-(b+k)=(j-(b+(k+1)))+1 by omega,Ze]
  rw[if_neg f,if_neg (by simp;omega),Zw (by omega)]
theorem Az {g:Type} {l b:List g} (h:n+b.length<=l.length) (j:Nat):
  (l.take n++b++l.drop (n+b.length))[j]?=if n<=j/\j<n+b.length then b[j-n]? else l[j]?:=by
 have c:(l.take n).length=n:=by simp;omega
 by_cases e:j<n
 ·rw[if_neg (by omega),Ye,XS (by omega),Yl,if_pos e]
 by_cases f:j<n+b.length
 ·rw[if_pos ⟨by omega,f⟩,Ye,XW (by omega),c,XS (by omega)]
 rw[if_neg (by omega),XW (by simp;omega),Yr]
 congr 1
 simp;omega
theorem Lj {vs g:Array Value} (m:lL ρ H X w h vs) (o:lL ρ H X w j g) (b:n+j.length<=h.length):
  lL ρ H X w (h.take n++j++h.drop (n+j.length)) (g.zipIdx.foldl (fun h (c,f)=>h.setIfInBounds (n+f) c) vs):=by
 obtain⟨g⟩:=g;have t:g.length=j.length:=o.1;have p:=rr n g 0 vs (by rw[m.1];simp;omega);have e:(g.toArray.zipIdx.foldl (fun h (c,f)=>h.setIfInBounds (n+f) c) vs)=((g.zipIdx 0).foldl (fun h (c,f)=>h.setIfInBounds (n+f) c) vs):=by
  rw[<- abD];simp
 rw[e];refine⟨by rw[p.1,m.1];simp;omega,fun f x l=>?_⟩;rw[Az b]at l;rw[p.2 f];split at l
 ·rename_i s;rw[if_pos (by omega)];obtain⟨u,q,r⟩:=o.2 _ _ l;exact⟨u,by simpa using q,r⟩
 rename_i s;rw[if_neg (by omega)];exact m.2 _ _ l
theorem vg {r:List (Nat×Nat)} {ev:Operand->Option TV} {e:Operand->Value} (j:ii ρ H X w ev e): ∀(parts:List (Nat×Operand)) (m b:List AV) (vs:Array Value),
  lL ρ H X w m vs->iN r ev m parts=some b-> ∃g,Instr.fill (r.toArray[·]?) vs (parts.map fun(i,x)=>(i,e x))=some g/\lL ρ H X w b g
 |[],m,b,vs,h,c=>by simp only[iN]at c;injection c with c;subst c;exact⟨vs,rfl,h⟩
 |(f,x)::l,m,b,vs,h,c=>by
  simp only[iN]at c;split at c
  ·rename_i q n F C E;obtain⟨t,D,p⟩:=X4.1 E;split at c
   ·rename_i B;obtain⟨u,v⟩:=B;subst u;have s:=iL p (j x t D);have y:=Lj h s v;obtain⟨g,z,A⟩:=vg j l _ b _ y c;refine⟨g,?_,A⟩;simp only[X9,Instr.fill];have o:r.toArray[f]?=some (q,F.length):=by simpa using C
    rw[o];simp only;rw[if_neg]
    ·exact z
    simp only[ZJ,decide_eq_true_eq];have:=s.1;have:=h.1;omega
   cases c
  cases c
theorem Ey {ev:Operand->Option TV} (y:ii ρ H X w ev t) {parts:Array (Nat×Operand)} (J:r.op= .build f parts) (h:bN P ev H r.op=some l): ∃v,(execOp t r).run P w= .ok (.value v) w/\l.rel ρ H X w v:=by
 unfold execOp;rw[J]at h⊢;simp only[bN]at h;split at h
 ·rename_i z E g b;split at h
  ·rename_i q;cases s:iN E ev (z.map AV.raw) parts.toList with
   |none=>rw[s]at h;cases h
   |some F=>
    rw[s]at h;simp at h;subst h;obtain⟨vs,x,G,I⟩:=vg y parts.toList _ F _ (CU q) s;refine⟨.agg vs,dm (run_build w f _ vs ?_),vs,rfl,G,I⟩;unfold Program.built;unfold dt at g;cases B:P.info? f with
    |none=>rw[B]at g;cases g
    |some D=>
     rw[B]at g;unfold iC at b;cases C:P.underlying f with
     |none=>rw[C]at b;cases b
     |some d=>
      rw[C]at b;cases d<;>simp at b
      case array n el=>
       cases m:P.info? el with
       |none=>simp[m]at b
       |some M=>
       have u:E=[]:=by
        simp[m]at b;exact b
       subst u;have j:parts.toList=[]:=by
        cases K:parts.toList with
        |nil=>rfl
        |cons p N=>rw[K]at s;simp[iN]at s
       cases c:D.zero with
       |none=>simp[c]at g
       |some L=>
        simp[c]at g;subst g;rw[j]at x;have A:parts= #[]:=by simpa using j
        subst A;simp only[m,c];simpa[Instr.fill] using x
      case struct fs=>
      cases c:D.zero with
      |none=>simp[c]at g
      |some L=>
       simp[c]at g;subst g;simp only[b,c];rw[<- x]
       simp
  cases h
 cases h
theorem bU {ev:Operand->Option TV}: ∀{l:List Operand} {b:List TV},fd ev l=some b->b.length=l.length/\ ∀(j:Nat) t,b[j]?=some t-> ∃x,l[j]?=some x/\ev x=some t
 |[],b,h=>by simp only[fd]at h;injection h with h;subst h;exact⟨rfl,fun j t h=>by simp at h⟩
 |x::l,b,h=>by
  simp only[fd]at h;split at h
  ·rename_i t n g m;injection h with h
   subst h;obtain⟨e,f⟩:=bU m;refine⟨by simp[e],fun j u c=>?_⟩;cases j with
   |zero=>simp at c;subst c;exact⟨x,rfl,g⟩
   |succ j=>simp at c;obtain⟨y,o,p⟩:=f j u c;exact⟨y,by simpa using o,p⟩
  cases h
theorem oH: ∀{g:List TV} {b:List AV},iK g=some b->b.length=g.length/\ ∀(j:Nat) x,b[j]?=some x->g[j]?=some (.one x)/\x≠ .junk
 |[],b,h=>by simp only[iK]at h;injection h with h;subst h;exact⟨rfl,fun j x h=>by simp at h⟩
 |t::l,b,h=>by
  cases t with
  |one x=>
   by_cases n:x= .junk
   ·subst n;simp only[iK]at h;cases h
   have key:iK (.one x::l)=(match iK l with|some b=>some (x::b)|none=>none):=by
    cases x<;>first|rfl|exact absurd rfl n
   rw[key]at h;split at h
   ·rename_i c m;injection h with h
    subst h;obtain⟨o,p⟩:=oH m;refine⟨by simp[o],fun j y e=>?_⟩;cases j with
    |zero=>simp at e;subst e;exact⟨rfl,n⟩
    |succ j=>simp at e;obtain⟨q,r⟩:=p j y e;exact⟨by simpa using q,r⟩
   cases h
  |agg c=>simp only[iK]at h;cases h
  |tup g=>simp only[iK]at h;cases h
  |fn f c=>simp only[iK]at h;cases h
theorem Eb {x:AV} (g:x≠ .junk) (h:x.rel ρ H X w e):e.oneCell'=true:=by
 cases x with
 |p x=>exact bO.one h
 |sl a r l len=>
  obtain⟨o,_,_,h|⟨b,c,cap,_,h,_⟩⟩:=h
  ·rw[h.2.1];rfl
  rw[h];rfl
 |ptr a r i j=>obtain⟨o,b,c,_,_,_,h⟩:=h;rw[h];rfl
 |junk=>exact absurd rfl g
 |fn f a m=>obtain⟨vs,h,_⟩:=h;rw[h];rfl
theorem xb {ev:Operand->Option TV} (g:ii ρ H X w ev t) {n:Fn} {first b:Array Operand} (q:r.op= .makeFunc n first b) (h:bN P ev H r.op=some l): ∃v,(execOp t r).run P w= .ok (.value v) w/\l.rel ρ H X w v:=by
 rw[q]at h;cases n with
 |func f=>
  simp only[bN]at h;split at h
  ·rename_i p;obtain⟨I,c,rfl⟩:=XI.1 h;obtain⟨K,m,E⟩:=X4.1 c;obtain⟨z,A⟩:=bU m;obtain⟨J,B⟩:=oH E;refine⟨.func (.func f) #[] (b.map t),?_,.agg (b.map t),⟨b.map t,rfl,?_,fun j x F=>?_⟩,rfl⟩
   ·unfold execOp;rw[q];simp only;refine dm ?_;rw[aa0]at p;subst p;simp only[Instr.makeFunc,Array.map_empty,Yb]
   ·simp at z⊢;omega
   obtain⟨C,D⟩:=B j x F;obtain⟨y,u,G⟩:=A j _ C;have s:=g y _ G;refine⟨t y,?_,Eb D s,s⟩;rw[YC];simp at u;rw[u];rfl
  cases h
 |_=>simp only[bN]at h;cases h
theorem u5 {ev:Operand->Option TV} {e:Operand->Value} (j:ii ρ H X w ev e) (p: ∀(a g:Nat) (r:OObj),(H a)[g]?=some r->objRel ρ H X w a g r) (h:bN P ev H r.op=some l): ∃v,(execOp e r).run P w= .ok (.value v) w/\l.rel ρ H X w v:=by
 cases n:r.op
 case load t x=>exact IT j p n h
 case indexAddr t x i=>exact uZ j p n h
 case fieldAddr t x f=>exact uY j n h
 case field t x f=>exact Ez j n h
 case index t x i=>exact EA j n h
 case slice t x lo hi mx=>exact EB j p n h
 case build t parts=>exact Ey j n h
 case nilCheck x=>exact xc j n h
 case makeFunc fn first captured=>exact xb j n h
 case call c=>
  obtain⟨callee,args,argTypes⟩:=c;cases callee with
  |builtin b=>
   cases b
   case len=>exact LO j n h
   all_goals (rw[n]at h;simp only[bN]at h;cases h)
  |value f=>rw[n]at h;simp only[bN]at h;cases h
  |invoke g m=>rw[n]at h;simp only[bN]at h;cases h
 all_goals (rw[n]at h;simp only[bN]at h;cases h)
end
end
section
section
variable {P:Program} {w0 w w':World} {O X:Nat->Prop} {ρ:Rho} {H:OH}
theorem Ext.stays (h:Ext w w'):RY b w w':=⟨h.size,fun _ _ _ c=>h.cell c⟩
theorem Keep.ext (h:Keep O w0 w) (e:Ext w w'):Keep O w0 w':=
 ⟨e.os.trans h.os,e.tape.trans h.tape,e.output.trans h.output,XQ h.size e.size,fun k b c=>by
  rw[e.block k (XZ b h.size)];exact h.block k b c⟩
theorem Keep.refl (w:World):Keep O w w:=⟨rfl,rfl,rfl,XY _,fun _ _ _=>rfl⟩
theorem pL {f:FuncId} {a:Nat} {l:List (Nat×Nat×Nat)} (p: ∀j,H j=[]) (h:(AV.fn f a l).rel ρ H b w e):False:=by
 obtain⟨vs,_,_,m,n⟩:=h;obtain⟨u,_,o,j,c,g,_⟩:=n 0 l[0] (X0 m);rw[p]at g;simp at g
theorem AV.rel_ext (c:Ext w w') (h:x.rel ρ H b w e):x.rel ρ H b w' e:=by
 cases x with
 |fn f a l=>exact h
 |p x=>exact bO.stays c.stays h
 |sl a r g len=>exact h
 |ptr a r i j=>exact h
 |junk=>exact h
theorem oA {l:Rho} (f:bC ρ H b w h e) (k: ∀x e,x.rel ρ H b w e->AV.rel l u c w' x e):bC l u c w' h e:=by
 obtain⟨vs,m,n,o⟩:=f;exact⟨vs,m,n,fun j x p=>by obtain⟨g,m,n,o⟩:=o j x p;exact⟨g,m,n,k _ _ o⟩⟩
theorem TV.rel_map {q:Rho} (h:l.rel ρ H b w e) (k: ∀x e,x.rel ρ H b w e->AV.rel q u c w' x e):l.rel q u c w' e:=by
 cases l with
 |one x=>exact k _ _ h
 |agg r=>exact oA h k
 |fn f r=>obtain⟨m,o,n⟩:=h;exact⟨m,oA o k,n⟩
 |tup z=>
  obtain⟨vs,o,n,p⟩:=h;refine⟨vs,o,n,fun j g r y=>?_⟩;obtain⟨m,o,n⟩:=p j g r y;refine⟨m,o,?_⟩;rcases n with⟨n,p⟩|⟨n,x,p,s⟩
  ·exact .inl ⟨n,oA p k⟩
  exact .inr ⟨n,x,p,k _ _ s⟩
theorem dx {l:Rho} {a:Nat} (h:objRel ρ H b w a n p) (s:l a n=ρ a n) (F: ∀f g,ρ a n=some (f,g)->w'.heap[f]?=w.heap[f]?) (k: ∀x v,x.rel ρ H b w v->AV.rel l u c w' x v):objRel l u c w' a n p:=by
 obtain⟨D,E,m⟩:=h;refine⟨D,E,?_⟩;rw[s];cases q:ρ a n with
 |none=>rw[q]at m;exact m
 |some t=>
  obtain⟨f,g⟩:=t;rw[q]at m;obtain⟨cells,y,z,A,B,C⟩:=m;refine⟨cells,by rw[F f g q];exact y,z,A,B,fun i e j x G I=>?_⟩;obtain⟨v,J,K,L⟩:=C i e j x G I;exact⟨v,J,K,k _ _ L⟩
theorem bI {Y:Nat->Prop} {a:Nat} {b c:Nat} (h:objRel ρ H Y w a n p) (e:ρ a n=some (b,c)):b<w.heap.size:=by
 obtain⟨_,_,f⟩:=h;rw[e]at f;obtain⟨cells,g,_⟩:=f;exact(XV.1 g).1
def aT (X:Nat->Prop) (ρ:Rho) (s:AS) (a:Act) (w:World):Prop:= ∀(t:Nat) x,s.tmps[t]?=some x-> ∃v:Value,a.tmps[t]?=some v/\x.rel ρ s.H (Xo X ρ s.H) w v
theorem bf {a:Act} (h:aT X ρ s a w):ii ρ s.H (Xo X ρ s.H) w s.ev a.eval:=by
 intro x t b;cases x with
 |tmp k=>
  obtain⟨v,c,e⟩:=h k t b;simp only[Act.eval,Zc,c,Y4];exact e
 |const v=>simp only[AS.ev]at b;injection b with b;subst b;exact CI v
 |global g=>simp only[AS.ev]at b;injection b with b;subst b;exact bV rfl
 |func f=>simp only[AS.ev]at b;injection b with b;subst b;exact bV rfl
theorem jR (a:Act) (d:Option Tmp) (v:Value):(a.put d v).tmps.size=a.tmps.size:=by cases d<;>simp[Act.put]
theorem eY (s:AS) (d:Option Tmp) (t:TV):(s.put d t).tmps.length=s.tmps.length:=by cases d<;>simp[AS.put]
theorem fj (s:AS) (d:Option Tmp) (t:TV):(s.put d t).H=s.H:=by cases d<;>rfl
theorem gk (a:Act) (d:Option Tmp) (v:Value):(a.put d v).defers=a.defers:=by cases d<;>rfl
theorem oY {s:AS} {a:Act} {d:Option Tmp} (f:a.tmps.size=s.tmps.length) (h:aT X ρ s a w) (g:l.rel ρ s.H (Xo X ρ s.H) w e):aT X ρ (s.put d l) (a.put d e) w:=by
 intro k x b;rw[fj];cases d with
 |none=>exact h k x b
 |some d=>
  simp only[AS.put]at b;simp only[Act.put];by_cases c:d=k
  ·subst c;rw[Yz]at b;simp at b;obtain⟨j,b⟩:=b;subst b;exact⟨e,by rw[ZD (by omega)],g⟩
  rw[Yy c]at b;rw[Zw c];exact h k x b
theorem dY {s:AS} {a:Act} {d:Option Tmp} {t:TV} {v:Value} (e:a.defers=[]) (c:a.tmps.size=s.tmps.length) (b:Inv w0 O X s.H ρ w) (h:aT X ρ s a w) (f:t.rel ρ s.H (Xo X ρ s.H) w v):de w0 O X (s.put d t) (a.put d v) w:=by
 refine⟨by rw[gk];exact e,by rw[jR,eY];exact c,ρ,by rw[fj];exact b,?_⟩;exact oY c h f
theorem Inv.grow (h:Inv w0 O X H ρ w) (e:Ext w w'):Inv w0 O X H ρ w':=
 ⟨h.keep.ext e,fun a r o g=>dx (h.objs a r o g) rfl (fun b c f=>e.block b (bI (h.objs a r o g) f)) (fun _ _ j=>AV.rel_ext e j),h.inj,h.old,fun b f=>XZ (h.bar b f) e.size,h.self⟩
theorem aT.grow {a:Act} (h:aT X ρ s a w) (e:Ext w w'):aT X ρ s a w':=fun t x g=>by
 obtain⟨v,b,c⟩:=h t x g;exact⟨v,b,TV.rel_map c (fun _ _ f=>AV.rel_ext e f)⟩
def newρ (ρ:Rho) (d:Nat) (f:Nat->Option (Nat×Nat)):Rho:=fun a r=>if a=d then f r else ρ a r
theorem ay {d a:Nat} (h:a≠d):aw u d g a=u a:=if_neg h
theorem aI {d:Nat}:aw u d g d=g:=if_pos rfl
theorem newρ_ne {d a:Nat} (h:a≠d) (r:Nat):newρ ρ d o a r=ρ a r:=if_neg h
theorem newρ_eq {d:Nat} (r:Nat):newρ ρ d o d r=o r:=if_pos rfl
theorem iW (z:Inv w0 O X H ρ w) (l:Ext w w') {d:Nat} (B:H d=[]) {f:Nat->Option (Nat×Nat)} (t: ∀r b c,f r=some (b,c)->w.heap.size<=b) (h:x.rel ρ H (Xo X ρ H) w e):x.rel (newρ ρ d f) (aw H d g) (Xo X (newρ ρ d f) (aw H d g)) w' e:=by
 have s: ∀(a r:Nat) o,(H a)[r]?=some o->a≠d:=fun a r o A m=>by rw[m,B]at A;simp at A
 refine pC (fun x e C h=>?_) x e h;cases x with
 |fn=>cases C
 |p x=>
  refine bO.stays l.stays (bO.weaken (fun b E y=>?_) h);rcases y with y|⟨a,r,o,c,n,q⟩
  ·exact .inl y
  by_cases m:a=d
  ·subst m;rw[newρ_eq]at q;have:=t r b c q;omega
  rw[newρ_ne m]at q;rw[ay m]at n;exact .inr ⟨a,r,o,c,n,q⟩
 |sl a r D len=>
  obtain⟨o,n,q,u⟩:=h;have m:=s a r o n;refine⟨o,by rw[ay m];exact n,q,?_⟩;rw[newρ_ne m];exact u
 |ptr a r i j=>
  obtain⟨o,b,c,n,q,u⟩:=h;have m:=s a r o n;refine⟨o,b,c,by rw[ay m];exact n,by rw[newρ_ne m];exact q,u⟩
 |junk=>trivial
theorem Hb {a:Act} (g:Inv w0 O X s.H ρ w) (D:aT X ρ s a w) (e:Ext w w') {d:Nat} {F:List OObj} (E:s.H d=[]) (f:Nat->Option (Nat×Nat)) (h: ∀r b c,f r=some (b,c)->w.heap.size<=b) (u: ∀r y b c A,f r=some (b,c)->f y=some (b,A)->r=y) (t: ∀(r:Nat) o,F[r]?=some o->selfO d o) (C: ∀(r:Nat) o,F[r]?=some o->objRel (newρ ρ d f) (aw s.H d F) (Xo X (newρ ρ d f) (aw s.H d F)) w' d r o):Inv w0 O X (aw s.H d F) (newρ ρ d f) w'/\aT X (newρ ρ d f) ⟨s.tmps,aw s.H d F⟩ a w':=by
 refine⟨?_,?_⟩
 ·refine⟨g.keep.ext e,fun a r o j=>?_,fun a r z y o G b c A j q n l=>?_,fun a r o b c j n=>?_,fun b B=>XZ (g.bar b B) e.size,fun a r o j=>?_⟩
  ·by_cases p:a=d
   ·subst p;simp only[aI]at j;exact C r o j
   simp only[ay p]at j;exact dx (g.objs a r o j) (newρ_ne p r) (fun b c B=>e.block b (bI (g.objs a r o j) B)) (fun _ _ n=>iW g e E h n)
  ·by_cases p:a=d
   ·subst p;rw[newρ_eq]at n;by_cases m:z=a
    ·subst m;rw[newρ_eq]at l;exact⟨rfl,u _ _ _ _ _ n l⟩
    rw[newρ_ne m]at l;simp only[ay m]at q;have:=bI (g.objs z y G q) l;have:=h _ _ _ n;omega
   rw[newρ_ne p]at n;simp only[ay p]at j;by_cases m:z=d
   ·subst m;rw[newρ_eq]at l;have:=bI (g.objs a r o j) n;have:=h _ _ _ l;omega
   rw[newρ_ne m]at l;simp only[ay m]at q;exact g.inj a r z y o G b c A j q n l
  ·by_cases p:a=d
   ·subst p;rw[newρ_eq]at n;have:=h _ _ _ n;have M:=g.keep.size;exact⟨.inl (by omega),fun K=>by have:=g.bar b K;omega⟩
   rw[newρ_ne p]at n;simp only[ay p]at j;exact g.old a r o b c j n
  by_cases p:a=d
  ·subst p;simp only[aI]at j;exact t r o j
  simp only[ay p]at j;exact g.self a r o j
 intro k x L;obtain⟨v,I,J⟩:=D k x L;exact⟨v,I,TV.rel_map J (fun _ _ n=>iW g e E h n)⟩
theorem Ab {a:Act} (B:a.defers=[]) (x:a.tmps.size=s.tmps.length) (p:Inv w0 O X s.H ρ w) (y:aT X ρ s a w) (j:Ext w w') {d:Nat} (C:s.H d=[]) (f:Nat->Option (Nat×Nat)) (q: ∀r b c,f r=some (b,c)->w.heap.size<=b) (n: ∀r z b c A,f r=some (b,c)->f z=some (b,A)->r=z) (m: ∀(r:Nat) o,g[r]?=some o->selfO d o) (u: ∀(r:Nat) o,g[r]?=some o->objRel (newρ ρ d f) (aw s.H d g) (Xo X (newρ ρ d f) (aw s.H d g)) w' d r o) (D:l.rel (newρ ρ d f) (aw s.H d g) (Xo X (newρ ρ d f) (aw s.H d g)) w' e):de w0 O X (AS.put ⟨s.tmps,aw s.H d g⟩ (some d) l) (a.put (some d) e) w':=by
 have h:=Hb p y j C f q n m u;exact dY (ρ:=newρ ρ d f) B x h.1 h.2 D
theorem ck {a:Nat} (b:isPure x=true):bz a x:=by
 cases x<;>first|trivial|cases b
theorem kQ (w:World) (o:Obj):Ext w (w.alloc o):=(Ext.refl w).alloc o
theorem tH {a:Act} (N:a.defers=[]) (F:a.tmps.size=s.tmps.length) (g:Inv w0 O X s.H ρ w) (G:aT X ρ s a w) {d:Nat} {e:TypeId} {es c:Nat} {elems:List (List AV)} {cells:Array Value} (I:s.H d=[]) (E:0<es) (D: ∀x∈elems,x.length=es) (C:cells.size=c*es) (p:elems.length<=c) (Q:c<=9223372036854775807) (J: ∀x∈elems,∀y∈x,isPure y=true) (m: ∀(i:Nat) x (j:Nat) y,elems[i]?=some x->x[j]?=some y-> ∃v:Value,cells[i*es+j]?=some v/\v.oneCell'=true/\y.rel ρ s.H (Xo X ρ s.H) w v) {t:TV} {v:Value} (S:(t= .one (.ptr d 0 0 0)/\0<elems.length/\v= .pointer (some ⟨w.heap.size,0,none⟩))\/(t= .one (.sl d 0 0 elems.length)/\v= .slice (some ⟨w.heap.size,0,none⟩) elems.length c)):
  de w0 O X (AS.put ⟨s.tmps,aw s.H d [⟨e,es,elems⟩]⟩ (some d) t) (a.put (some d) v) (w.alloc (.cells cells e)):=by
 have l: ∀(r b A:Nat),(if r=0 then some (w.heap.size,c)else none)=some (b,A)->w.heap.size<=b:=fun r b A h=>by
  split at h
  ·injection h with h;injection h with h B;omega
  cases h
 have key: ∀y v,isPure y=true->AV.rel ρ s.H (Xo X ρ s.H) w y v->AV.rel (newρ ρ d fun r=>if r=0 then some (w.heap.size,c)else none) (aw s.H d [⟨e,es,elems⟩]) (Xo X (newρ ρ d fun r=>if r=0 then some (w.heap.size,c)else none) (aw s.H d [⟨e,es,elems⟩])) (w.alloc (.cells cells e)) y v:=fun y v _ h=>
  iW g (kQ w _) I (f:=fun r=>if r=0 then some (w.heap.size,c)else none) l h
 refine Ab N F g G (kQ w _) I (fun r=>if r=0 then some (w.heap.size,c)else none) l (fun r T b c A h B=>?_) (fun r o n=>?_) (fun r o n=>?_) ?_
 ·split at h
  ·split at B
   ·omega
   cases B
  cases h
 ·cases r with
  |succ r=>simp at n
  |zero=>
   simp at n;subst n;exact fun x q y z=>ck (J x q y z)
 ·cases r with
  |succ r=>simp at n
  |zero=>
   simp at n;subst n;refine⟨D,E,?_⟩;rw[newρ_eq];refine⟨cells,heap_alloc_new w _,C,p,Q,fun i x j y q z=>?_⟩;obtain⟨u,K,L,M⟩:=m i x j y q z;exact⟨u,K,L,key y u (J x (XH q) y (XH z)) M⟩
 rcases S with⟨rfl,R,rfl⟩|⟨rfl,rfl⟩
 ·exact⟨⟨e,es,elems⟩,w.heap.size,c,by simp[aI],by rw[newρ_eq];rfl,R,by simp⟩
 exact⟨⟨e,es,elems⟩,by simp[aI],by simp,.inr ⟨w.heap.size,c,c,by rw[newρ_eq];rfl,by simp,p,fun _=>rfl⟩⟩
end
end
section
section
variable {P:Program} {w0 w w':World} {O X:Nat->Prop} {ρ:Rho} {H:OH}
theorem jV (h:dt P f=some q): ∃i b,P.info? f=some i/\i.zero=some b/\b.cells.toList=q:=by
 unfold dt at h;cases e:P.info? f with
 |none=>rw[e]at h;cases h
 |some i=>
  rw[e]at h;cases c:i.zero with
  |none=>simp[c]at h
  |some b=>simp[c]at h;exact⟨i,b,rfl,c,h⟩
theorem uJ (h:IB P f=some n): ∃i,P.info? f=some i/\i.bytes=n:=by
 unfold IB at h;cases b:P.info? f with
 |none=>rw[b]at h;cases h
 |some i=>rw[b]at h;simp at h;exact⟨i,rfl,h⟩
theorem wu {i:TypeInfo} (h:P.info? f=some i) (b:i.zero=some e):(zeroValue f).run P w= .ok e w:=by
 unfold zeroValue;rw[XP,Aw h,XM,b];rfl
theorem wt (t:TypeId) (c:Array Value):(newRow t c).run P w= .ok ⟨w.heap.size,0,none⟩ (w.alloc (.cells c t)):=rfl
theorem Hk (t:TypeId) (v:Value):(Instr.box t v).run P w= .ok (.pointer (some ⟨w.heap.size,0,none⟩)) (w.alloc (.cells v.cells t)):=rfl
theorem Fl {i:TypeInfo} (h:P.info? f=some i) (b:i.zero=some e):
  (Instr.alloc f true (.tuple #[])).run P w= .ok (.pointer (some ⟨w.heap.size,0,none⟩)) (w.alloc (.cells e.cells f)):=by
 unfold Instr.alloc;rw[XP,wu h b,XM];rfl
theorem CY (n:Nat):(askRoom n).run P w= .ok () w:=by
 unfold askRoom;split<;>rfl
def kj (z:List Value) (n:Nat):Array Value:=(Array.range n).map fun k=>z.toArray[k%z.toArray.size]!
theorem oS (z:List Value) (n:Nat):(kj z n).size=n:=by simp[kj]
theorem Ja {i:Nat} (b:q[m]?=some e) (f:i*q.length+m<n):(kj q n)[i*q.length+m]?=some e:=by
 have c:m<q.length:=(XN.1 b).1;unfold kj;rw[YC,Array.getElem?_range,if_pos f];simp only[Yp,YW];rw[YQ,aaM,ZC c];rw[(XN.1 b).2.symm];simp[c]
theorem JO {b:TypeId} {i:TypeInfo} (r:P.underlying f=some (.slice b)) (h:P.info? b=some i) (s:i.zero=some e) (j:e.cells.toList=q) (g:q.length=i.size) (v u:IntKind) {n m:Int} (B:0<=n) (o:n<=m) (l:m<=9223372036854775807) (C:(i.bytes:Int)*m<=281474976710656):
  (Instr.makeSlice f (.int v n) (.int u m)).run P w= .ok (.slice (some ⟨w.heap.size,0,none⟩) n.toNat m.toNat) (w.alloc (.cells (kj q (m.toNat*q.length)) b)):=by
 have y:IntKind.i64.wrap n=n:=aaz _ (by omega);have A:IntKind.i64.wrap m=m:=aaz _ (by omega);have p:(sizeOf b).run P w= .ok i.size w:=by unfold sizeOf;rw[XP,Aw h];rfl
 have t1:decide (m<0)=false:=by simp;omega
 have t2:decide ((i.bytes:Int)*m>2^48)=false:=by simp;omega
 have t3:decide (n<0)=false:=by simp;omega
 have t4:decide (n>m)=false:=by simp;omega
 unfold Instr.makeSlice;simp only[XP,run_underlying r,XM,asInt,asIntOf,Yb,Aw h,y,A,t1,t2,t3,t4,abA,YD,if_false,CY,p];by_cases c:m.toNat*i.size=0
 ·rw[if_pos c,XP];show Result.andThen (.ok #[] w) _=_;simp only[XM,XP,wt,Yb];rw[g,c,show kj q 0= #[] by simp[kj],show(Array.map (fun x=>(#[]:Array Value)[x%(#[]:Array Value).size]!) (Array.range 0))= #[] by simp]
 rw[if_neg c];simp only[XP,wu h s,XM,Yb,wt];rw[g,<- j];rfl
theorem yc {ev:Operand->Option TV} {e:Operand->Value} {Y:Nat->Prop} (o:ii ρ H Y w ev e) {sz:Nat}: ∀(parts:List (Nat×Operand)) (n:Nat) (l:List (List AV)) (cells:Array Value),
  oQ ev sz n parts=some l->(n+l.length)*sz<=cells.size->
  ∃b,Instr.fill (fun i=>some (i*sz,sz)) cells (parts.map fun(i,x)=>(i,e x))=some b/\b.size=cells.size/\(∀j:Nat,j<n*sz->b[j]?=cells[j]?)/\
   (∀x∈l,x.length=sz/\ ∀y∈x,isPure y=true)/\
   ∀(i:Nat) x (j:Nat) y,l[i]?=some x->x[j]?=some y-> ∃u:Value,b[(n+i)*sz+j]?=some u/\u.oneCell'=true/\y.rel ρ H Y w u
 |[],n,l,cells,h,_=>by
  simp only[oQ]at h;injection h with h
  subst h;exact⟨cells,rfl,rfl,fun _ _=>rfl,fun x C=>(by simp at C),fun i x j y C=>(by simp at C)⟩
 |(k,x)::p,n,l,cells,h,s=>by
  simp only[oQ]at h;split at h
  ·rename_i f E q r;split at h
   ·rename_i T;obtain⟨K,L,I⟩:=T;injection h with h
    subst h;subst K;obtain⟨t,Z,D⟩:=X4.1 q;obtain⟨r1,r2⟩:=iL D (o x t Z);simp only[Ym]at s;have W:(k+(E.length+1))*sz=k*sz+(E.length*sz+sz):=by rw[YL,YL,ZH]
    generalize B:(e x).cells=m at*
    obtain⟨m⟩:=m;have aa:m.length=f.length:=r1;obtain⟨f1,f2⟩:=rr (k*sz) m 0 cells (by omega);have M:(m.toArray.zipIdx.foldl (fun f (c,j)=>f.setIfInBounds (k*sz+j) c) cells)=((m.zipIdx 0).foldl (fun f (c,j)=>f.setIfInBounds (k*sz+j) c) cells):=by
     rw[<- abD];simp
    have V:(k+1)*sz=k*sz+sz:=by rw[YL,ZH]
    obtain⟨b,N,Q,J,R,S⟩:=yc o p (k+1) E (cells:=(m.zipIdx 0).foldl (fun f (c,j)=>f.setIfInBounds (k*sz+j) c) cells) r (by rw[f1,YL];omega);refine⟨b,?_,by rw[Q,f1],fun j U=>?_,fun y g=>?_,fun i y j u g A=>?_⟩
    ·simp only[X9,Instr.fill,B];rw[if_neg (by simp;omega),M];exact N
    ·rw[J j (by omega),f2 j,if_neg (by omega)]
    ·rcases Yo.1 g with rfl|g
     ·exact⟨L,fun z hz=>by simp only[XO]at I;exact I z hz⟩
     exact R y g
    cases i with
    |zero=>
     simp at g;subst g;have U:j<f.length:=(XN.1 A).1;obtain⟨v,F,G⟩:=r2 j u A;refine⟨v,?_,G⟩;rw[YA,J _ (by omega),f2,if_pos (by omega)];rw[show k*sz+j-(k*sz+0)=j by omega];simpa using F
    |succ i=>
     simp at g;obtain⟨v,F,G⟩:=S i y j u g A;exact⟨v,by rw[show k+(i+1)=k+1+i by omega];exact F,G⟩
   cases h
  cases h
def ji (s:AS) (d:Nat) (t:TV) (F:List OObj):AS:=if F.isEmpty then s.put (some d) t else AS.put ⟨s.tmps,aw s.H d F⟩ (some d) t
theorem LK {m:List (dc P)} {i d:Nat} {a:Act} (G:a.defers=[]) (A:a.tmps.size=s.tmps.length) (p:Inv w0 O X s.H ρ w) (q:aT X ρ s a w) {x:Operand} (K:r.op= .box f x) (h:b8 P m v i d s.ev s.H r.op=some (l,g)) (J:s.H d=[]):
  ∃b w',(execOp a.eval r).run P w= .ok (.value b) w'/\de w0 O X (ji s d l g) (a.put (some d) b) w':=by
 unfold execOp;rw[K]at h⊢;simp only[b8]at h;split at h
 ·rename_i N u;split at h
  ·rename_i E;injection h with h
   injection h with B I
   subst B I;obtain⟨l,B,C⟩:=X4.1 u;obtain⟨L,M⟩:=iL C (bf q x l B);refine⟨_,_,dm (Hk f (a.eval x)),?_⟩;refine tH G A p q (c:=1) J E.2 (by simp) (by simp[L]) (by simp) (by omega) (fun y n z D=>?_) (fun k y j z n D=>?_) (.inl ⟨rfl,by simp,rfl⟩)
   ·simp at n;subst n;have:=E.1;simp only[XO]at this;exact this z D
   cases k with
   |succ k=>simp at n
   |zero=>
    simp at n;subst n;rw[aae,Yw];exact M j z D
  cases h
 cases h
theorem Es {n:List (dc P)} {i d:Nat} {a:Act} (J:a.defers=[]) (x:a.tmps.size=s.tmps.length) (q:Inv w0 O X s.H ρ w) (A:aT X ρ s a w) (N:r.op= .alloc f) (h:b8 P n v i d s.ev s.H r.op=some (l,g)) (L:s.H d=[]):
  ∃b w',(execOp a.eval r).run P w= .ok (.value b) w'/\de w0 O X (ji s d l g) (a.put (some d) b) w':=by
 unfold execOp;rw[N]at h⊢;simp only[b8]at h;split at h
 ·rename_i z R;split at h
  ·rename_i E;injection h with h
   injection h with Q K
   subst Q K;obtain⟨i,T,M,C,B⟩:=jV R;obtain⟨S,G⟩:=CU (ρ:=ρ) (H:=s.H) (X:=Xo X ρ s.H) (w:=w) E.1;refine⟨_,_,dm (Fl M C),?_⟩;have D:z.toArray=T.cells:=by rw[<- B]
   rw[D]at S G;refine tH J x q A (c:=1) L E.2 (by simp) (by rw[<- D];simp) (by simp) (by omega) (fun y p I m=>?_) (fun k y j I p m=>?_) (.inl ⟨rfl,by simp,rfl⟩)
   ·simp at p;subst p;simp at m;obtain⟨u,_,rfl⟩:=m;rfl
   cases k with
   |succ k=>simp at p
   |zero=>
    simp at p;subst p;rw[aae,Yw];exact G j I m
  cases h
 cases h
theorem IN {E:List (dc P)} {i d:Nat} {a:Act} (Q:a.defers=[]) (V:a.tmps.size=s.tmps.length) (J:Inv w0 O X s.H ρ w) (D:aT X ρ s a w) {b c:Operand} (ho:r.op= .makeSlice f b c) (h:b8 P E v i d s.ev s.H r.op=some (l,g)) (hd:s.H d=[]):
  ∃p w',(execOp a.eval r).run P w= .ok (.value p) w'/\de w0 O X (ji s d l g) (a.put (some d) p) w':=by
 unfold execOp;rw[ho]at h⊢;simp only[b8]at h;split at h
 ·rename_i k1 n k2 m e hl hc hs;split at h
  ·rename_i z sz ab hz N S;split at h
   ·rename_i C;obtain⟨c1,c2,c3,c4,Z,c6,c7⟩:=C;injection h with h
    injection h with ht hF
    subst ht hF;obtain⟨i,zv,T,Y,W⟩:=jV hz;obtain⟨i',A,aa⟩:=qG N;rw[T]at A;injection A with A;subst A
    obtain⟨i',A,I⟩:=uJ S;rw[T]at A;injection A with A;subst A
    have M:=JO (P:=P) (w:=w) (dr hs) T Y W (by omega) k1 k2 c1 c2 c3 (by rw[I];exact c4);have hn:=(aU (bf D b _ hl)).1;have hm:=(aU (bf D c _ hc)).1;refine⟨_,_,dm (by rw[hn,hm];exact M),?_⟩;simp only[XO]at c7;have L: ∀(k:Nat) x,(List.replicate n.toNat (z.map AV.raw))[k]?=some x->k<n.toNat/\x=z.map AV.raw:=fun k x G=>by
     rw[YF]at G;split at G
     ·injection G with G;exact⟨by assumption,G.symm⟩
     cases G
    have B:(List.replicate n.toNat (z.map AV.raw)).length=n.toNat:=by simp
    have:=tH Q V J D (c:=m.toNat) (e:=e) (es:=sz) (elems:=List.replicate n.toNat (z.map AV.raw)) (cells:=kj z (m.toNat*z.length)) hd c6 (by simp[Zz];omega) (by rw[oS,Z]) (by simp;omega) (by omega)
     (fun y R z' q=>by simp[Zz]at R;rw[R.2]at q;simp at q;obtain⟨u,_,rfl⟩:=q;rfl)
     (fun k y j z' R q=>by
      obtain⟨hk,rfl⟩:=L k y R;rw[XK]at q;cases K:z[j]? with
      |none=>rw[K]at q;cases q
      |some u=>
       rw[K]at q;simp at q;subst q;have Q:=c7 u (XH K);have ac:j<z.length:=(XN.1 K).1;have U:k*z.length+j<m.toNat*z.length:=by
        have:(k+1)*z.length<=m.toNat*z.length:=XX _ (by omega);rw[YL,ZH]at this;omega
       refine⟨u,?_,Q,bO.raw u Q⟩;rw[<- Z];exact Ja K U)
     (t:= .one (.sl d 0 0 n.toNat)) (v:= .slice (some ⟨w.heap.size,0,none⟩) n.toNat m.toNat) (.inr ⟨by rw[B],by rw[B]⟩)
    exact this
   cases h
  cases h
 cases h
theorem LN {N:List (dc P)} {i d:Nat} {a:Act} (h1:a.defers=[]) (R:a.tmps.size=s.tmps.length) (B:Inv w0 O X s.H ρ w) (M:aT X ρ s a w) {parts:Array (Nat×Operand)} (ho:r.op= .buildSlice f n parts) (h:b8 P N v i d s.ev s.H r.op=some (l,g)) (hd:g≠[]->s.H d=[]):
  ∃q w',(execOp a.eval r).run P w= .ok (.value q) w'/\de w0 O X (ji s d l g) (a.put (some d) q) w':=by
 unfold execOp;rw[ho]at h⊢;simp only[b8]at h;split at h
 ·rename_i e hs;split at h
  ·rename_i z sz hz S;split at h
   ·rename_i m Q;split at h
    ·rename_i L;obtain⟨U,c2,c3,Y⟩:=L;obtain⟨i,zv,hi,ad,ac⟩:=jV hz;have ab:((Array.range (n*sz)).map (zv.cells[· %zv.cells.size]!))=kj z (n*sz):=by unfold kj;rw[<- ac]
     obtain⟨cells,g1,g2,g3,V,g5⟩:=yc (bf M) parts.toList 0 m (kj z (n*sz)) Q (by rw[oS,U];simp);have I:(Instr.buildSlice f n (parts.map fun(i,x)=>(i,a.eval x))).run P w= .ok (.slice (some ⟨w.heap.size,0,none⟩) n n) (w.alloc (.cells cells e)):=by
      have J:Instr.fill (fun i=>some (i*sz,sz)) (kj z (n*sz)) (parts.map fun(i,x)=>(i,a.eval x)).toList=some cells:=by rw[<- g1];simp
      unfold Instr.buildSlice;simp only[XP,run_underlying (dr hs),XM,dC S];rw[if_neg (by omega)];by_cases E:n*sz=0
      ·rw[if_pos E];have aa:kj z (n*sz)= #[]:=by rw[E];simp[kj]
       rw[aa]at J;rw[XP];show Result.andThen (.ok #[] w) _=_;rw[XM];rw[show(Array.map (fun x=>(#[]:Array Value)[x%(#[]:Array Value).size]!) (Array.range (n*sz)))= #[] by rw[E];simp,J];rfl
      rw[if_neg E];simp only[XP,wu hi ad,Yb,XM];rw[ab,J];rfl
     split at h
     ·injection h with h
      injection h with ht Z
      subst ht Z;refine⟨_,_,dm I,?_⟩;have:=tH h1 R B M (c:=n) (e:=e) (es:=sz) (elems:=m) (cells:=cells) (hd (by simp)) Y (fun x A=>(V x A).1) (by rw[g2,oS]) (by omega)
       (by have:n*1<=n*sz:=XU _ Y;omega) (fun x A=>(V x A).2)
       (fun i x j y A C=>by have:=g5 i x j y A C;rwa[Yw]at this)
       (t:= .one (.sl d 0 0 n)) (v:= .slice (some ⟨w.heap.size,0,none⟩) n n) (.inr ⟨by rw[U],by rw[U]⟩)
      exact this
     injection h with h
     injection h with ht Z
     subst ht Z;refine⟨_,_,dm I,?_⟩;refine dY h1 R (B.grow (kQ w _)) (M.grow (kQ w _)) ?_;show bO _ _ _ _;have hl:(m.map (List.map tX)).length=n:=by simp[U]
     have K: ∀(i:Nat) x (j:Nat) y,(m.map (List.map tX))[i]?=some x->x[j]?=some y-> ∃u:Value,cells[i*sz+j]?=some u/\bO (Xo X ρ s.H) w y u:=fun i x j y A C=>by
      rw[XK]at A;cases D:m[i]? with
      |none=>rw[D]at A;cases A
      |some T=>
       rw[D]at A;simp at A;subst A;rw[XK]at C;cases G:T[j]? with
       |none=>rw[G]at C;cases C
       |some y'=>
        rw[G]at C;simp at C;subst C;obtain⟨u,u1,u2,u3⟩:=g5 i T j y' D G;have hp:=(V T (XH D)).2 y' (XH G);refine⟨u,by rwa[Yw]at u1,?_⟩;cases y'<;>first|exact u3|cases hp
     have W: ∃b:Nat->Nat->Value,∀(i:Nat) x (j:Nat) y,(m.map (List.map tX))[i]?=some x->x[j]?=some y->cells[i*sz+j]?=some (b i j)/\bO (Xo X ρ s.H) w y (b i j):=by
      refine⟨fun i j=>(cells[i*sz+j]?).getD undef,fun i x j y A C=>?_⟩;obtain⟨u,u1,u2⟩:=K i x j y A C;simp only[u1,Y4];exact⟨trivial,u2⟩
     obtain⟨b,W⟩:=W;have ae:n<=16777216:=by have:n*1<=n*sz:=XU _ Y;omega
     have:=bO.sl (X:=Xo X ρ s.H) (w:=w.alloc (.cells cells e)) w.heap.size 0 sz n (m.map (List.map tX)) b (fun hX=>by
      rcases hX with hX|⟨a',p,o',c,q1,q2⟩
      ·have:=B.bar _ hX;omega
      ·have:=bI (B.objs a' p o' q1) q2;omega) (by rw[World.size_alloc];omega) (fun x A=>by simp at A;obtain⟨T,D,rfl⟩:=A;simp;exact(V T D).1) (by omega) (by omega)
      (fun i x j y A C=>by
       rw[cell_of_row _ w.heap.size (0+i*sz+j) cells e (0,0) (heap_alloc_new w _),Yw];exact(W i x j y A C).1)
      (fun i x j y A C=>bO.stays (kQ w _).stays (W i x j y A C).2)
     rw[hl]at this;exact this
    cases h
   cases h
  cases h
 cases h
end
end
section
section
variable {P:Program} {w0 w w':World} {O X:Nat->Prop} {ρ:Rho} {H:OH}
structure But (b:Nat) (w w':World):Prop where
 os:w'.os=w.os
 tape:w'.tape=w.tape
 output:w'.output=w.output
 size:w.heap.size<=w'.heap.size
 block: ∀k,k<w.heap.size->k≠b->w'.heap[k]?=w.heap[k]?
theorem But.setRow (w:World) (b:Nat) (c:Array Value):But b w (w.setRow b c):=
 ⟨rfl,rfl,rfl,by simp[World.setRow],fun k f e=>by simp[World.setRow,Array.getElem?_modify,Zl e]⟩
theorem Keep.but (h:Keep O w0 w) (e:But n w w') (c:w0.heap.size<=n\/O n):Keep O w0 w':=
 ⟨e.os.trans h.os,e.tape.trans h.tape,e.output.trans h.output,XQ h.size e.size,fun k f g=>by
  rw[e.block k (XZ f h.size) (by rintro rfl;rcases c with c|c;omega;exact g c)];exact h.block k f g⟩
theorem mO {n:Rho} {b:Nat} (E:Xo X ρ H b) (f:But b w w') (l: ∀(a r:Nat) o,(H a)[r]?=some o-> ∃m,(u a)[r]?=some m/\m.es=o.es/\o.elems.length<=m.elems.length/\n a r=ρ a r) (t: ∀(a r:Nat) o q c,(u a)[r]?=some o->n a r=some (q,c)->q<w.heap.size->Xo X ρ H q) (h:x.rel ρ H (Xo X ρ H) w e):x.rel n u (Xo X n u) w' e:=by
 refine pC (fun x e M h=>?_) x e h;cases x with
 |fn=>cases M
 |p x=>
  refine bO.stays ⟨f.size,fun p g N I=>?_⟩ (bO.weaken (fun q F D=>?_) h)
  ·have G:=tu I;by_cases y:p.block=b
   ·exfalso;apply N;obtain E|⟨a,r,o,c,s,z⟩:=E
    ·exact .inl (y▸E)
    obtain⟨m,A,C,J,B⟩:=l a r o s;exact .inr ⟨a,r,m,c,A,by rw[B,y];exact z⟩
   unfold World.cell? at I⊢;rw[f.block _ G y];exact I
  rcases D with D|⟨a,r,o,c,s,z⟩
  ·exact .inl D
  exact t a r o q c s z F
 |sl a r Q len=>
  obtain⟨o,s,z,K⟩:=h;obtain⟨m,A,C,J,B⟩:=l a r o s;refine⟨m,A,by omega,?_⟩;rw[B,C];exact K
 |ptr a r i j=>
  obtain⟨o,q,c,s,z,K,L⟩:=h;obtain⟨m,A,C,J,B⟩:=l a r o s;exact⟨m,q,c,A,by rw[B];exact z,by omega,by rw[C];exact L⟩
 |junk=>trivial
theorem qr {c:OObj} (h:g[n]?=some p):(g.set n c)[m]?=if m=n then some c else g[m]?:=by
 by_cases b:m=n
 ·subst b;rw[if_pos rfl,Yz];simp[(XN.1 h).1]
 rw[if_neg b,Yy (Zl b)]
theorem Am (b:n+j.length<=h.length):(putCells h n j).length=h.length:=by
 simp[putCells];omega
theorem Al (b:n+j.length<=h.length) (k:Nat):(putCells h n j)[k]?=if n<=k/\k<n+j.length then j[k-n]? else h[k]?:=Az b k
theorem BH {i j c b:Nat} (h:n≠i) (f:j+b<=m) (e:c<m): ¬(i*m+j<=n*m+c/\n*m+c<i*m+j+b):=by
 rcases Nat.lt_or_gt_of_ne h with h|h
 ·have:(n+1)*m<=i*m:=XX _ h;rw[YL,ZH]at this;omega
 have:(i+1)*m<=n*m:=XX _ h;rw[YL,ZH]at this;omega
theorem yN {act:Act} (h1:act.defers=[]) (bb:act.tmps.size=s.tmps.length) (g:Inv w0 O X s.H ρ w) (a8:aT X ρ s act w) {a i j c:Nat} {Q:List AV} {vs:List Value} (L:(s.H a)[n]?=some p) (J:ρ a n=some (m,c)) (he:p.elems[i]?=some h) (hj:j+Q.length<=h.length) (a9:vs.length=Q.length) (ap: ∀(k:Nat) x,Q[k]?=some x-> ∃u:Value,vs[k]?=some u/\u.oneCell'=true/\x.rel ρ s.H (Xo X ρ s.H) w u) (ac: ∀x∈Q,bz a x):
  ∃cells,w.heap[m]?=some (.cells cells p.ty (0,0))/\i*p.es+j+vs.length<=cells.size/\
   Inv w0 O X (aw s.H a ((s.H a).set n {p with elems:=p.elems.set i (putCells h j Q)})) ρ (w.setRow m (cells.toList.take (i*p.es+j)++vs++cells.toList.drop (i*p.es+j+vs.length)).toArray)/\
   aT X ρ ⟨s.tmps,aw s.H a ((s.H a).set n {p with elems:=p.elems.set i (putCells h j Q)})⟩ act (w.setRow m (cells.toList.take (i*p.es+j)++vs++cells.toList.drop (i*p.es+j+vs.length)).toArray):=by
 have al:=g.objs a n p L;obtain⟨q1,q2,q3⟩:=al;rw[J]at q3;obtain⟨cells,p1,p2,p3,p4,p5⟩:=q3;have a4:h.length=p.es:=q1 h (XH he);have hi:i<p.elems.length:=(XN.1 he).1;have S:i*p.es+j+vs.length<=cells.size:=by
  have:(i+1)*p.es<=c*p.es:=XX _ (by omega);rw[YL,ZH]at this;omega
 refine⟨cells,p1,S,?_⟩;have av:Xo X ρ s.H m:= .inr ⟨a,n,p,c,L,J⟩;generalize ag:(cells.toList.take (i*p.es+j)++vs++cells.toList.drop (i*p.es+j+vs.length))=cl;have Y: ∀k:Nat,cl[k]?=if i*p.es+j<=k/\k<i*p.es+j+vs.length then vs[k-(i*p.es+j)]? else cells[k]?:=fun k=>by
  rw[<- ag,Az (by simpa using S)];simp
 have Z:cl.length=cells.size:=by rw[<- ag];simp;omega
 have e0:=But.setRow w m cl.toArray;generalize ae:aw s.H a ((s.H a).set n {p with elems:=p.elems.set i (putCells h j Q)})=H';have D: ∀A,(H' a)[A]?=if A=n then some {p with elems:=p.elems.set i (putCells h j Q)}else(s.H a)[A]?:=fun A=>by rw[<- ae,aI];exact qr L
 have R: ∀q,q≠a->H' q=s.H q:=fun q U=>by rw[<- ae,ay U]
 have ab: ∀(q A:Nat) z,(s.H q)[A]?=some z-> ∃o',(H' q)[A]?=some o'/\o'.es=z.es/\z.elems.length<=o'.elems.length/\ρ q A=ρ q A:=fun q A z f=>by
  by_cases U:q=a
  ·subst U;rw[D];by_cases hr:A=n
   ·subst hr;rw[L]at f;injection f with f
    subst f;rw[if_pos rfl];exact⟨_,rfl,rfl,by simp,rfl⟩
   rw[if_neg hr];exact⟨z,f,rfl,XY _,rfl⟩
  rw[R q U];exact⟨z,f,rfl,XY _,rfl⟩
 have l: ∀(q A:Nat) z,(H' q)[A]?=some z-> ∃N,(s.H q)[A]?=some N/\z.es=N.es/\(q=a/\A=n\/z=N):=fun q A z f=>by
  by_cases U:q=a
  ·subst U;rw[D]at f;by_cases hr:A=n
   ·subst hr;rw[if_pos rfl]at f;injection f with f
    exact⟨p,L,by rw[<- f],.inl ⟨rfl,rfl⟩⟩
   rw[if_neg hr]at f;exact⟨z,f,rfl,.inr rfl⟩
  rw[R q U]at f;exact⟨z,f,rfl,.inr rfl⟩
 have W: ∀(q A:Nat) z T c',(H' q)[A]?=some z->ρ q A=some (T,c')->T<w.heap.size->Xo X ρ s.H T:=fun q A z T c' f I _=>by
  obtain⟨N,G,_⟩:=l q A z f;exact .inr ⟨q,A,N,c',G,I⟩
 have B: ∀x v,AV.rel ρ s.H (Xo X ρ s.H) w x v->AV.rel ρ H' (Xo X ρ H') (w.setRow m cl.toArray) x v:=fun x v C=>mO av e0 ab W C
 refine⟨⟨g.keep.but e0 (g.old a n p m c L J).1,fun q A z f=>?_,fun F K a2 r2 z N b1 c1 c2 f a6 I a7=>?_,fun F K z b1 c1 f I=>?_,fun b1 a0=>XZ (g.bar b1 a0) e0.size,fun F K z f=>?_⟩,fun t x C=>?_⟩
 ·obtain⟨N,G,g2,M⟩:=l q A z f;by_cases V:q=a/\A=n
  ·obtain⟨rfl,rfl⟩:=V;rw[D,if_pos rfl]at f;injection f with f
   subst f;refine⟨fun y hy=>?_,q2,?_⟩
   ·rcases YO hy with hy|rfl
    ·exact q1 y hy
    rw[Am hj];exact a4
   rw[J];refine⟨cl.toArray,setRow_heap w m cells _ _ _ p1,by simp[Z,p2],by simpa using p3,p4,fun i' e' j' x E C=>?_⟩;simp only[List.getElem?_toArray];rw[Y];by_cases aa:i'=i
   ·subst aa;rw[Yz]at E;simp[hi]at E;subst E;rw[Al hj]at C;split at C
    ·rename_i a5;rw[if_pos (by omega)];obtain⟨u,u1,u2,u3⟩:=ap _ _ C;exact⟨u,by rw[show i'*p.es+j'-(i'*p.es+j)=j'-j by omega];exact u1,u2,B _ _ u3⟩
    rename_i a5;rw[if_neg (by omega)];obtain⟨u,u1,u2,u3⟩:=p5 i' h j' x he C;exact⟨u,u1,u2,B _ _ u3⟩
   rw[Yy (Zl aa)]at E;have ah:j'<e'.length:=(XN.1 C).1;rw[q1 e' (XH E)]at ah;rw[if_neg (by rw[a9];exact BH aa (by omega) ah)];obtain⟨u,u1,u2,u3⟩:=p5 i' e' j' x E C;exact⟨u,u1,u2,B _ _ u3⟩
  rcases M with M|M
  ·exact absurd M V
  subst M;refine dx (g.objs q A z G) rfl (fun T c' af=>e0.block T (bI (g.objs q A z G) af) (fun a3=>?_)) B;subst a3;exact V (g.inj q A a n z p T c' c G L af J)
 ·obtain⟨ad,G,_⟩:=l F K z f;obtain⟨ba,g2,_⟩:=l a2 r2 N a6;exact g.inj F K a2 r2 ad ba b1 c1 c2 G g2 I a7
 ·obtain⟨ad,G,_⟩:=l F K z f;exact g.old F K ad b1 c1 G I
 ·obtain⟨N,G,g2,M⟩:=l F K z f;rcases M with⟨rfl,rfl⟩|M
  ·rw[D,if_pos rfl]at f;injection f with f
   subst f;intro y hy x C;rcases YO hy with hy|rfl
   ·exact g.self F K p L y hy x C
   unfold putCells at C;simp only[YK]at C;rcases C with(C|C)|C
   ·exact g.self F K p L h (XH he) x (YT C)
   ·exact ac x C
   exact g.self F K p L h (XH he) x (YS C)
  subst M;exact g.self F K z G
 obtain⟨v,v1,v2⟩:=a8 t x C;exact⟨v,v1,TV.rel_map v2 B⟩
theorem sO {t:TypeId} {v:Value} {cells:Array Value} (j:gK P t=some v.cells.size) (e:w.heap[n]?=some (.cells cells f (0,0))) (g:m+v.cells.size<=cells.size) (c: ∀u∈v.cells,u.oneCell'=true):
  (Instr.storeAt t (.pointer (some ⟨n,m,none⟩)) v).run P w= .ok () (w.setRow n (cells.toList.take m++v.cells.toList++cells.toList.drop (m+v.cells.size)).toArray):=by
 unfold Instr.storeAt storeVar;simp only[Instr.sureAddr,XP,Yb,XM,dC j];rw[if_neg (fun h=>h rfl)];have:=run_storeCells_at P n m f v.cells.toList 0 cells w e (by simpa using g) (fun u l=>c u (by simpa using l));simpa using this
end
end
section
section
variable {P:Program} {w0 w w':World} {O X:Nat->Prop} {ρ:Rho} {H:OH}
theorem vq {r:Rho} {k:Nat->Nat->Bool} (h:l.rel ρ H b w e) (C: ∀x e,x.rel ρ H b w e->AV.rel r u c w' (aL k x) e):(aM k l).rel r u c w' e:=by
 have agg: ∀o e,bC ρ H b w o e->bC r u c w' (o.map (aL k)) e:=fun o e h=>by
  obtain⟨vs,s,z,B⟩:=h;refine⟨vs,s,by simpa using z,fun j x n=>?_⟩;rw[XK]at n;cases p:o[j]? with
  |none=>rw[p]at n;cases n
  |some y=>
   rw[p]at n;simp at n;subst n;obtain⟨m,D,q,E⟩:=B j y p;exact⟨m,D,q,C _ _ E⟩
 cases l with
 |one x=>exact C _ _ h
 |agg o=>exact agg o e h
 |fn f o=>obtain⟨m,s,z⟩:=h;exact⟨m,agg o m s,z⟩
 |tup G=>
  obtain⟨vs,s,z,B⟩:=h;refine⟨vs,s,by simpa using z,fun j g o n=>?_⟩;rw[XK]at n;cases p:G[j]? with
  |none=>rw[p]at n;cases n
  |some y=>
   obtain⟨F,A⟩:=y;rw[p]at n;simp at n;obtain⟨rfl,rfl⟩:=n;obtain⟨m,D,q⟩:=B j F A p;refine⟨m,D,?_⟩;rcases q with⟨q,E⟩|⟨q,x,rfl,I⟩
   ·exact .inl ⟨q,agg _ _ E⟩
   exact .inr ⟨q,_,rfl,C _ _ I⟩
theorem zM {b:Rho} {k:Nat->Nat->Bool} {s:AS} {a:Act} (h:aT X ρ s a w) (f: ∀x v,x.rel ρ s.H (Xo X ρ s.H) w v->AV.rel b u (Xo X b u) w' (aL k x) v):aT X b ⟨s.tmps.map (aM k),u⟩ a w':=by
 intro t x c;simp only[XK]at c;cases e:s.tmps[t]? with
 |none=>rw[e]at c;cases c
 |some y=>
  rw[e]at c;simp at c;subst c;obtain⟨v,g,j⟩:=h t y e;exact⟨v,g,vq j f⟩
theorem yf (q:Inv w0 O X H ρ w) {a b:Nat} {D:OObj} (af:b<=4999) (ae:b≠a) (hb:H b=[D]) (hp: ∀e∈D.elems,∀x∈e,isPure x=true):
  Inv w0 O X (aw (aw H a (H a++[D])) b []) (fun x y=>if x=a/\y=(H a).length then ρ b 0 else ρ x y) w/\
  (∀x v,AV.rel ρ H (Xo X ρ H) w x v->AV.rel (fun x y=>if x=a/\y=(H a).length then ρ b 0 else ρ x y) (aw (aw H a (H a++[D])) b []) (Xo X (fun x y=>if x=a/\y=(H a).length then ρ b 0 else ρ x y) (aw (aw H a (H a++[D])) b [])) w (aL (fun x _=>x==b) x) v)/\
  (∀E len v,AV.rel ρ H (Xo X ρ H) w (.sl b 0 E len) v->AV.rel (fun x y=>if x=a/\y=(H a).length then ρ b 0 else ρ x y) (aw (aw H a (H a++[D])) b []) (Xo X (fun x y=>if x=a/\y=(H a).length then ρ b 0 else ρ x y) (aw (aw H a (H a++[D])) b [])) w (.sl a (H a).length E len) v):=by
 generalize hH:aw (aw H a (H a++[D])) b []=B;generalize K:(fun x y=>if x=a/\y=(H a).length then ρ b 0 else ρ x y:Rho)=ρ1;have ac:B b=[]:=by rw[<- hH];exact aI
 have M:B a=H a++[D]:=by rw[<- hH,ay (Zl ae),aI]
 have Y: ∀x,x≠a->x≠b->B x=H x:=fun x C G=>by rw[<- hH,ay G,ay C]
 have t: ∀x y,¬(x=a/\y=(H a).length)->ρ1 x y=ρ x y:=fun x y h=>by rw[<- K];exact if_neg h
 have L:ρ1 a (H a).length=ρ b 0:=by rw[<- K];exact if_pos ⟨rfl,rfl⟩
 have aa:(H b)[0]?=some D:=by rw[hb];rfl
 -- U: a live row of H that is not of b is the same in B
 have V: ∀(x y:Nat) o,(H x)[y]?=some o->x≠b->(B x)[y]?=some o/\ρ1 x y=ρ x y:=fun x y o l N=>by
  by_cases r:x=a
  ·subst r;have ag:y<(H x).length:=(XN.1 l).1;exact⟨by rw[M,XS ag];exact l,t _ _ (by omega)⟩
  rw[Y x r N];exact⟨l,t _ _ (fun h=>r h.1)⟩
 -- m: a live row of B is one of H
 have m: ∀(x y:Nat) o,(B x)[y]?=some o-> ∃s A,(H s)[A]?=some o/\ρ1 x y=ρ s A/\((s=x/\A=y/\x≠b)\/(x=a/\y=(H a).length/\s=b/\A=0/\o=D)):=fun x y o l=>by
  by_cases g:x=b
  ·subst g;rw[ac]at l;simp at l
  by_cases r:x=a
  ·subst r;rw[M]at l;rcases Y5 y (H x).length with hy|hy|hy
   ·rw[XS hy]at l;exact⟨x,y,l,t _ _ (by omega),.inl ⟨rfl,rfl,g⟩⟩
   ·subst hy;rw[XW (XY _),Zj]at l;simp at l;subst l;exact⟨b,0,aa,L,.inr ⟨rfl,rfl,rfl,rfl,rfl⟩⟩
   rw[aag (by simp;omega)]at l;cases l
  rw[Y x r g]at l;exact⟨x,y,l,t _ _ (fun h=>r h.1),.inl ⟨rfl,rfl,g⟩⟩
 have ad: ∀c,Xo X ρ1 B c->Xo X ρ H c:=fun c hc=>by
  rcases hc with hc|⟨x,y,o,n,C,G⟩
  ·exact .inl hc
  obtain⟨s,A,F,I,_⟩:=m x y o C;exact .inr ⟨s,A,o,n,F,by rw[<- I];exact G⟩
 have Z: ∀x v,bO (Xo X ρ H) w x v->bO (Xo X ρ1 B) w x v:=fun x v h=>bO.weaken (fun c _ hc=>ad c hc) h
 have mono: ∀x v,AV.rel ρ H (Xo X ρ H) w x v->AV.rel ρ1 B (Xo X ρ1 B) w (aL (fun x _=>x==b) x) v:=fP (oT _) fun x v hn h=>by
  cases x with
  |fn=>cases hn
  |p x=>exact Z x v h
  |sl x y E len=>
   simp only[aL];by_cases g:x=b
   ·subst g;simp;trivial
   simp only[beq_iff_eq,g,if_false];obtain⟨o,C,G,W⟩:=h;obtain⟨f1,f2⟩:=V x y o C g;exact⟨o,f1,G,by rw[f2];exact W⟩
  |ptr x y i j=>
   simp only[aL];by_cases g:x=b
   ·subst g;simp;trivial
   simp only[beq_iff_eq,g,if_false];obtain⟨o,b',c,C,G,W⟩:=h;obtain⟨f1,f2⟩:=V x y o C g;exact⟨o,b',c,f1,by rw[f2];exact G,W⟩
  |junk=>trivial
 have same: ∀z x v,bz z x->z≠b->AV.rel ρ H (Xo X ρ H) w x v->AV.rel ρ1 B (Xo X ρ1 B) w x v:=fun z x v R S h=>by
  have:=mono x v h;cases x with
  |fn f x qs=>
   have R:x=z:=R.1;have N:x≠b:=by omega
   simpa[aL,N] using this
  |sl x y E len=>
   have R:x=z:=R;have N:x≠b:=by omega
   simpa[aL,N] using this
  |ptr x y i j=>
   have R:x=z:=R;have N:x≠b:=by omega
   simpa[aL,N] using this
  |p x=>exact this
  |junk=>trivial
 refine⟨⟨q.keep,fun x y o l=>?_,fun x y s A o o' c n n' l ah Q ap=>?_,fun x y o c n l Q=>?_,q.bar,fun x y o l=>?_⟩,mono,fun E len v h=>?_⟩
 ·obtain⟨s,A,F,I,J⟩:=m x y o l;have ab:=q.objs s A o F;obtain⟨q1,q2,q3⟩:=ab;refine⟨q1,q2,?_⟩;rw[I];cases Q:ρ s A with
  |none=>rw[Q]at q3;exact q3
  |some bc=>
   obtain⟨b',c⟩:=bc;rw[Q]at q3;obtain⟨cells,p1,p2,p3,p4,p5⟩:=q3;refine⟨cells,p1,p2,p3,p4,fun i e j z he S=>?_⟩;obtain⟨u,u1,u2,u3⟩:=p5 i e j z he S;refine⟨u,u1,u2,?_⟩;have av:=q.self s A o F e (XH he) z (XH S);rcases J with⟨rfl,rfl,g⟩|⟨rfl,rfl,rfl,rfl,rfl⟩
   ·exact same s z u av g u3
   have al:=hp e (XH he) z (XH S);cases z<;>first|exact Z _ _ u3|cases al
 ·obtain⟨x1,y1,F,I,J⟩:=m x y o l;obtain⟨x2,y2,k1,k2,T⟩:=m s A o' ah;obtain⟨e1,e2⟩:=q.inj x1 y1 x2 y2 o o' c n n' F k1 (by rw[<- I];exact Q) (by rw[<- k2];exact ap);rcases J with⟨J,g4,g5⟩|⟨J,g4,g5,g6,_⟩
  ·rcases T with⟨T,k4,k5⟩|⟨T,k4,k5,k6,_⟩
   ·omega
   omega
  rcases T with⟨T,k4,k5⟩|⟨T,k4,k5,k6,_⟩
  ·omega
  omega
 ·obtain⟨x1,y1,F,I,J⟩:=m x y o l;exact q.old x1 y1 o c n F (by rw[<- I];exact Q)
 ·obtain⟨s,A,F,I,J⟩:=m x y o l;rcases J with⟨rfl,rfl,g⟩|⟨rfl,rfl,rfl,rfl,rfl⟩
  ·exact q.self s A o F
  exact fun e he z S=>ck (hp e he z S)
 obtain⟨o,C,G,W⟩:=h;rw[aa]at C;injection C with C
 subst C;exact⟨D,by rw[M,XW (XY _),Zj];rfl,G,rW af W L⟩
end
end
section
section
variable {P:Program} {w0 w w':World} {O X:Nat->Prop} {ρ:Rho} {H:OH}
theorem zD {i j sz:Nat} (b:j<sz):(i*sz+j)/sz=i/\(i*sz+j)%sz=j:=by
 constructor
 ·rw[YQ,aaL (by omega),Z9 b,YA]
 rw[YQ,aaM,ZC b]
def Gd (ρ:Rho) (H:OH) (Y:Nat->Prop) (w:World) (v:Value) (b:List (List AV)) (sz:Nat) (f:List Value):Prop:=
 (∃A c,v= .slice A b.length c/\Rd w A f)/\f.length=b.length*sz/\(∀u∈f,u.oneCell'=true)/\(∀e∈b,∀x∈e,isPure x=true)/\
  ∀(i:Nat) e (j:Nat) y,b[i]?=some e->e[j]?=some y-> ∃u:Value,f[i*sz+j]?=some u/\u.oneCell'=true/\y.rel ρ H Y w u
theorem qz (sz:Nat) (A:Option Addr) (c:Nat):Gd ρ H b w (.slice A 0 c) [] sz []:=
 ⟨⟨A,c,rfl,Rd.nil _ _⟩,by simp,by simp,by simp,fun i e j y h=>by simp at h⟩
theorem vG (ag: ∀(a r:Nat) (o:OObj),(H a)[r]?=some o->objRel ρ H b w a r o) {t:TV} {K:List (List AV)} {sz:Nat} (h:gf H t=some K) (hr:t.rel ρ H b w e) (ac: ∀m∈K,m.length=sz) (ab:0<sz):
  ∃us,Gd ρ H b w e K sz us:=by
 unfold gf at h;split at h
 ·rename_i B;injection h with h
  subst h;have hr:bO b w (.sl B) e:=hr;cases hr with
  |nil a c=>exact⟨[],qz sz a c⟩
  |sl g n s cap B f hX hb E ah hm hc I=>
   by_cases aa:B=[]
   ·subst aa;exact⟨[],qz sz _ cap⟩
   have U:s=sz:=by
    cases R:B with
    |nil=>exact absurd R aa
    |cons y ys=>
     have h1:=E y (by rw[R];simp);have h2:=ac (y.map AV.p) (by rw[R];simp);simp at h2;omega
   subst U;have key: ∀k,k<B.length*s-> ∃m y,B[k/s]?=some m/\m[k%s]?=some y:=fun k z=>by
    have L:k/s<B.length:=Z4 (by rw[YQ];exact z);refine⟨B[k/s],B[k/s][k%s]'(by rw[E _ (List.getElem_mem L)];exact Yk _ ab),X0 L,X0 _⟩
   have Z:((List.range (B.length*s)).map fun k=>f (k/s) (k%s)).length=B.length*s:=by simp
   refine⟨(List.range (B.length*s)).map fun k=>f (k/s) (k%s),⟨some ⟨g,n,none⟩,cap,by simp,fun _=>⟨g,n,rfl,fun k x D=>?_⟩⟩,by simp,fun u hu=>?_,?_,?_⟩
   ·have z:k<B.length*s:=by have:=(XN.1 D).1;rwa[Z]at this
    rw[XK,abw z]at D;simp at D;subst D;obtain⟨m,y,q,C⟩:=key k z;have:=hc _ m _ y q C;rw[<- this]
    congr 2
    have:=Zv k s;rw[YQ]at this;omega
   ·obtain⟨k,z,rfl⟩:=XR.1 hu;obtain⟨m,y,q,C⟩:=key k (by simpa using z);exact(I _ m _ y q C).one
   ·intro m q x D;simp at q;obtain⟨T,_,rfl⟩:=q;simp at D;obtain⟨x',_,rfl⟩:=D;rfl
   intro i m j y q C;rw[XK]at q;cases A:B[i]? with
   |none=>rw[A]at q;cases q
   |some T=>
    rw[A]at q;simp at q;subst q;rw[XK]at C;cases J:T[j]? with
    |none=>rw[J]at C;cases C
    |some y'=>
     rw[J]at C;simp at C;subst C;have hj:j<s:=by have:=(XN.1 J).1;rwa[E T (XH A)]at this
     have L:i<B.length:=(XN.1 A).1;have z:i*s+j<B.length*s:=by
      have:(i+1)*s<=B.length*s:=XX _ L;rw[YL,ZH]at this;omega
     refine⟨f i j,?_,(I i T j y' A J).one,I i T j y' A J⟩;rw[XK,abw z];simp[(zD (i:=i) hj).1,(zD (i:=i) hj).2]
 ·injection h with h
  subst h;have:=(aU hr).1;subst this;exact⟨[],qz sz _ _⟩
 ·rename_i a r n len;split at h
  ·rename_i o ho;split at h
   ·rename_i G;injection h with h
    subst h;simp only[XO]at G;obtain⟨o',g1,g2,g3⟩:=hr;rw[ho]at g1;injection g1 with g1
    subst g1;obtain⟨q1,q2,q3⟩:=ag a r o ho;rcases g3 with⟨gr,gv,gl,go⟩|⟨g,c,cap,gr,gv,_⟩
    ·subst gl go;rw[gr]at q3;simp only[q3,List.take_nil,List.drop_nil];rw[gv];exact⟨[],qz sz _ _⟩
    rw[gr]at q3;obtain⟨cells,p1,p2,p3,p4,p5⟩:=q3;have N:((o.elems.take (n+len)).drop n).length=len:=by simp;omega
    by_cases af:len=0
    ·subst af;have:(o.elems.take (n+0)).drop n=[]:=Y2.1 N;rw[this,gv];exact⟨[],qz sz _ _⟩
    have M: ∀(i:Nat) m,((o.elems.take (n+len)).drop n)[i]?=some m->i<len/\o.elems[n+i]?=some m:=fun i m q=>by
     have L:=(XN.1 q).1;rw[Yr,Yl]at q;split at q
     ·exact⟨by omega,q⟩
     cases q
    have E:o.es=sz:=by
     obtain⟨m,q⟩:=getElem?_of_lt (l:=(o.elems.take (n+len)).drop n) (k:=0) (by omega);have h1:=ac m (XH q);have h2:=q1 m (XH (M 0 m q).2);omega
    subst E;have ae:(n+len)*o.es<=cells.size:=by rw[p2];exact XX _ (by omega)
    rw[YL]at ae;have F: ∀k,k<len*o.es->((cells.toList.drop (n*o.es)).take (len*o.es))[k]?=cells[n*o.es+k]?:=fun k z=>by
     rw[Yl,if_pos z,Yr];simp
    have Q:((cells.toList.drop (n*o.es)).take (len*o.es)).length=len*o.es:=by simp;omega
    have key: ∀k,k<len*o.es-> ∃(m:List AV) (y:AV),o.elems[n+k/o.es]?=some m/\m[k%o.es]?=some y:=fun k z=>by
     have L:k/o.es<len:=Z4 (by rw[YQ];exact z);have V:n+k/o.es<o.elems.length:=by omega
     refine⟨o.elems[n+k/o.es],o.elems[n+k/o.es][k%o.es]'(by rw[q1 _ (List.getElem_mem V)];exact Yk _ q2),X0 V,X0 _⟩
    refine⟨(cells.toList.drop (n*o.es)).take (len*o.es),⟨some ⟨g,n*o.es,none⟩,cap,by rw[gv,N],fun _=>⟨g,n*o.es,rfl,fun k x D=>?_⟩⟩,by rw[Q,N],fun u hu=>?_,fun m q x D=>?_,fun i m j y q C=>?_⟩
    ·have z:k<len*o.es:=by have:=(XN.1 D).1;rwa[Q]at this
     rw[F k z]at D;rw[cell_of_row _ g _ cells o.ty (0,0) p1];exact D
    ·obtain⟨k,z,hu⟩:=YZ hu;have ad:=XN.2 ⟨z,hu⟩;rw[Q]at z;rw[F k z]at ad;obtain⟨m,y,q,C⟩:=key k z;obtain⟨u',S,u2,u3⟩:=p5 _ m _ y q C;have W:(n+k/o.es)*o.es+k%o.es=n*o.es+k:=by
      rw[YL];have:=Zv k o.es;rw[YQ]at this;omega
     rw[W,ad]at S;injection S with S
     rw[S];exact u2
    ·exact G m (YT (YS q)) x D
    obtain⟨L,A⟩:=M i m q;have hj:j<o.es:=by have:=(XN.1 C).1;rwa[q1 m (XH A)]at this
    obtain⟨u,S,u2,u3⟩:=p5 _ m j y A C;refine⟨u,?_,u2,u3⟩;have z:i*o.es+j<len*o.es:=by
     have:(i+1)*o.es<=len*o.es:=XX _ L;rw[YL,ZH]at this;omega
    rw[F _ z,<- S]
    congr 1
    rw[YL];omega
   cases h
  cases h
 cases h
theorem Qy {a:Nat} (E:a<=4999) (t:objRel ρ H b w a n p) (I:(H a)[n]?=some p) (J:AV.rel ρ H b w (.sl a n 0 p.elems.length) e):
  ∃A,w.ownsRow 0 p.ty p.es e p.elems.length A/\(∀(i:Nat) g (j:Nat) x,p.elems[i]?=some g->g[j]?=some x-> ∃u:Value,A[i*p.es+j]?=some u/\u.oneCell'=true/\x.rel ρ H b w u)/\e.ownBlock=(ρ a n).map (·.1):=by
 obtain⟨Q,Z,s⟩:=t;obtain⟨W,m,U,B⟩:=J;rw[I]at m;injection m with m
 subst m;rcases B with⟨l,q,D,_⟩|⟨f,c,cap,l,q,_,C⟩
 ·rw[l]at s;rw[q,l,D];refine⟨[],aah _ _ _ _,fun i g j x h=>?_,rfl⟩;rw[s]at h;simp at h
 rw[l]at s;obtain⟨cells,K,L,z,M,N⟩:=s;have G:(cells.toList.take (p.elems.length*p.es)).length=p.elems.length*p.es:=by
  have:p.elems.length*p.es<=c*p.es:=XX _ z;simp;omega
 refine⟨cells.toList.take (p.elems.length*p.es),⟨G,.inr ⟨f,c,cells,?_,Yt _,K,z,M,L,rfl⟩⟩,fun i g j x h y=>?_,?_⟩
 ·rw[q,aae,C E,Nat.sub_zero]
 ·obtain⟨u,R,S,T⟩:=N i g j x h y;refine⟨u,?_,S,T⟩;have F:i<p.elems.length:=(XN.1 h).1;have V:j<p.es:=by have:=(XN.1 y).1;rwa[Q g (XH h)]at this
  have:(i+1)*p.es<=p.elems.length*p.es:=XX _ F;rw[YL,ZH]at this;rw[Yl,if_pos (by omega)];simpa using R
 rw[q,l];rfl
end
end
end Go.Proofs.YtalmoejhjceflaaGreat
