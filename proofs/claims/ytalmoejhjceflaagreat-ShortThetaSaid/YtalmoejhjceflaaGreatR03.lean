/-
  Part 4 of a proof (walks and plain facts).
-/
import Derived.Test.YtalmoejhjceflaaGreatR02
set_option linter.all false
set_option maxRecDepth 100000
set_option maxHeartbeats 64000000
namespace Go.Proofs.YtalmoejhjceflaaGreat
open Go.RowKit
variable {n m:Nat} {b c:Nat->Prop} {e:Value} {f:TypeId} {g:List OObj} {h j:List AV} {l:TV} {s:AS} {o:Nat->Option (Nat×Nat)} {p:List Value} {q:OObj} {r:Oper} {t:Operand->Value} {u:OH} {v:List Nat} {w:Rho} {x:AV}
section
section
variable {P:Program} {ρ:Rho} {H:OH} {X:Nat->Prop} {w:World}
def mD (ρ:Rho) (H:OH) (X:Nat->Prop) (w:World) (b:List AV) (vs:Array Value):Prop:=
 vs.size=b.length/\ ∀(j:Nat) x,b[j]?=some x-> ∃u:Value,vs[j]?=some u/\u.oneCell'=true/\x.rel ρ H X w u
theorem fw (h:e.oneCell'=true):e.cells= #[e]:=by cases e<;>first|rfl|cases h
theorem jw (f:cellsOf l=some h) (n:l.rel ρ H X w e):mD ρ H X w h e.cells:=by
 unfold cellsOf at f;split at f
 ·rename_i x;injection f with f
  subst f;have g:e.oneCell'=true:=bQ.one n;rw[fw g];refine⟨rfl,fun j y m=>?_⟩;cases j with
  |zero=>simp at m;subst m;exact⟨e,rfl,g,n⟩
  |succ j=>simp at m
 ·rename_i a r q len;injection f with f
  subst f;have g:e.oneCell'=true:=by
   obtain⟨o,_,_,f|⟨b,c,cap,_,f,_⟩⟩:=n
   ·rw[f.2.1];rfl
   rw[f];rfl
  rw[fw g];refine⟨rfl,fun j y m=>?_⟩;cases j with
  |zero=>simp at m;subst m;exact⟨e,rfl,g,n⟩
  |succ j=>simp at m
 ·injection f with f
  subst f;obtain⟨vs,rfl,g,p⟩:=n;exact⟨g,p⟩
 cases f
theorem Eh (h:p.all (·.oneCell')=true):mD ρ H X w (p.map AV.raw) p.toArray:=by
 simp only[aah]at h;refine⟨by simp,fun j x b=>?_⟩;rw[u9]at b;cases c:p[j]? with
 |none=>rw[c]at b;cases b
 |some u=>
  rw[c]at b;simp at b;subst b;have e:=h u (u5 c);exact⟨u,by simpa using c,e,bQ.raw u e⟩
theorem s9 (b:Nat): ∀(vs:List Value) (k:Nat) (cells:Array Value),b+k+vs.length<=cells.size->
  ((vs.zipIdx k).foldl (fun e (c,j)=>e.setIfInBounds (b+j) c) cells).size=cells.size/\
  ∀j:Nat,((vs.zipIdx k).foldl (fun e (c,j)=>e.setIfInBounds (b+j) c) cells)[j]?=if b+k<=j/\j<b+k+vs.length then vs[j-(b+k)]? else cells[j]?
 |[],k,cells,_=>⟨rfl,fun j=>by rw[if_neg (by simp)];rfl⟩
 |v::vs,k,cells,h=>by
  simp at h;obtain⟨g,l⟩:=s9 b vs (k+1) (cells.setIfInBounds (b+k) v) (by simp;omega);simp only[abO,List.foldl_cons];refine⟨by rw[g];simp,fun j=>?_⟩;rw[l];by_cases m:j=b+k
  ·subst m;rw[if_neg (by omega),if_pos (by simp)];rw[acb (by omega)]
   simp
  by_cases f:b+(k+1)<=j/\j<b+(k+1)+vs.length
  ·rw[if_pos f,if_pos (by simp;omega)];rw[show j-(b+k)=(j-(b+(k+1)))+1 by omega,abJ]
  rw[if_neg f,if_neg (by simp;omega),ab6 (by omega)]
theorem B9 {g:Type} {l b:List g} (h:n+b.length<=l.length) (j:Nat):
  (l.take n++b++l.drop (n+b.length))[j]?=if n<=j/\j<n+b.length then b[j-n]? else l[j]?:=by
 have c:(l.take n).length=n:=by simp;omega
 by_cases e:j<n
 ·rw[if_neg (by omega),aaL,aal (by omega),aaH,if_pos e]
 by_cases f:j<n+b.length
 ·rw[if_pos ⟨by omega,f⟩,aaL,aap (by omega),c,aal (by omega)]
 rw[if_neg (by omega),aap (by simp;omega),aaN]
 congr 1
 simp;omega
theorem Ns {vs g:Array Value} (m:mD ρ H X w h vs) (o:mD ρ H X w j g) (b:n+j.length<=h.length):
  mD ρ H X w (h.take n++j++h.drop (n+j.length)) (g.zipIdx.foldl (fun h (c,f)=>h.setIfInBounds (n+f) c) vs):=by
 obtain⟨g⟩:=g;have t:g.length=j.length:=o.1;have p:=s9 n g 0 vs (by rw[m.1];simp;omega);have e:(g.toArray.zipIdx.foldl (fun h (c,f)=>h.setIfInBounds (n+f) c) vs)=((g.zipIdx 0).foldl (fun h (c,f)=>h.setIfInBounds (n+f) c) vs):=by
  rw[<- aeo];simp
 rw[e];refine⟨by rw[p.1,m.1];simp;omega,fun f x l=>?_⟩;rw[B9 b]at l;rw[p.2 f];split at l
 ·rename_i s;rw[if_pos (by omega)];obtain⟨u,q,r⟩:=o.2 _ _ l;exact⟨u,by simpa using q,r⟩
 rename_i s;rw[if_neg (by omega)];exact m.2 _ _ l
theorem xe {r:List (Nat×Nat)} {ev:Operand->Option TV} {e:Operand->Value} (j:iU ρ H X w ev e): ∀(parts:List (Nat×Operand)) (m b:List AV) (vs:Array Value),
  mD ρ H X w m vs->jy r ev m parts=some b-> ∃g,Instr.fill (r.toArray[·]?) vs (parts.map fun(i,x)=>(i,e x))=some g/\mD ρ H X w b g
 |[],m,b,vs,h,c=>by simp only[jy]at c;injection c with c;subst c;exact⟨vs,rfl,h⟩
 |(f,x)::l,m,b,vs,h,c=>by
  simp only[jy]at c;split at c
  ·rename_i q n F C E;obtain⟨t,D,p⟩:=aaw.1 E;split at c
   ·rename_i B;obtain⟨u,v⟩:=B;subst u;have s:=jw p (j x t D);have y:=Ns h s v;obtain⟨g,z,A⟩:=xe j l _ b _ y c;refine⟨g,?_,A⟩;simp only[aaC,Instr.fill];have o:r.toArray[f]?=some (q,F.length):=by simpa using C
    rw[o];simp only;rw[if_neg]
    ·exact z
    simp only[abV,decide_eq_true_eq];have:=s.1;have:=h.1;omega
   cases c
  cases c
theorem Gf {ev:Operand->Option TV} (y:iU ρ H X w ev t) {parts:Array (Nat×Operand)} (J:r.op= .build f parts) (h:bU P ev H r.op=some l): ∃v,(execOp t r).run P w= .ok (.value v) w/\l.rel ρ H X w v:=by
 unfold execOp;rw[J]at h⊢;simp only[bU]at h;split at h
 ·rename_i z E g b;split at h
  ·rename_i q;cases s:jy E ev (z.map AV.raw) parts.toList with
   |none=>rw[s]at h;cases h
   |some F=>
    rw[s]at h;simp at h;subst h;obtain⟨vs,x,G,I⟩:=xe y parts.toList _ F _ (Eh q) s;refine⟨.agg vs,dD (run_build w f _ vs ?_),vs,rfl,G,I⟩;unfold Program.built;unfold dy at g;cases B:P.info? f with
    |none=>rw[B]at g;cases g
    |some D=>
     rw[B]at g;unfold gS at b;cases C:P.underlying f with
     |none=>rw[C]at b;cases b
     |some d=>
      rw[C]at b;cases d<;>simp at b
      case array n el=>
       cases m:P.info? el with
       |none=>simp[m]at b
       |some M=>
       have u:E=[]:=by
        simp[m]at b;exact b
       subst u;have j:parts.toList=[]:=by
        cases K:parts.toList with
        |nil=>rfl
        |cons p N=>rw[K]at s;simp[jy]at s
       cases c:D.zero with
       |none=>simp[c]at g
       |some L=>
        simp[c]at g;subst g;rw[j]at x;have A:parts= #[]:=by simpa using j
        subst A;simp only[m,c];simpa[Instr.fill] using x
      case struct fs=>
      cases c:D.zero with
      |none=>simp[c]at g
      |some L=>
       simp[c]at g;subst g;simp only[b,c];rw[<- x]
       simp
  cases h
 cases h
theorem bP {ev:Operand->Option TV}: ∀{l:List Operand} {b:List TV},eK ev l=some b->b.length=l.length/\ ∀(j:Nat) t,b[j]?=some t-> ∃x,l[j]?=some x/\ev x=some t
 |[],b,h=>by simp only[eK]at h;injection h with h;subst h;exact⟨rfl,fun j t h=>by simp at h⟩
 |x::l,b,h=>by
  simp only[eK]at h;split at h
  ·rename_i t n g m;injection h with h
   subst h;obtain⟨e,f⟩:=bP m;refine⟨by simp[e],fun j u c=>?_⟩;cases j with
   |zero=>simp at c;subst c;exact⟨x,rfl,g⟩
   |succ j=>simp at c;obtain⟨y,o,p⟩:=f j u c;exact⟨y,by simpa using o,p⟩
  cases h
theorem pK: ∀{g:List TV} {b:List AV},jv g=some b->b.length=g.length/\ ∀(j:Nat) x,b[j]?=some x->g[j]?=some (.one x)/\x≠ .junk
 |[],b,h=>by simp only[jv]at h;injection h with h;subst h;exact⟨rfl,fun j x h=>by simp at h⟩
 |t::l,b,h=>by
  cases t with
  |one x=>
   by_cases n:x= .junk
   ·subst n;simp only[jv]at h;cases h
   have key:jv (.one x::l)=(match jv l with|some b=>some (x::b)|none=>none):=by
    cases x<;>first|rfl|exact absurd rfl n
   rw[key]at h;split at h
   ·rename_i c m;injection h with h
    subst h;obtain⟨o,p⟩:=pK m;refine⟨by simp[o],fun j y e=>?_⟩;cases j with
    |zero=>simp at e;subst e;exact⟨rfl,n⟩
    |succ j=>simp at e;obtain⟨q,r⟩:=p j y e;exact⟨by simpa using q,r⟩
   cases h
  |agg c=>simp only[jv]at h;cases h
  |tup g=>simp only[jv]at h;cases h
  |fn f c=>simp only[jv]at h;cases h
theorem FQ {x:AV} (g:x≠ .junk) (h:x.rel ρ H X w e):e.oneCell'=true:=by
 cases x with
 |p x=>exact bQ.one h
 |sl a r l len=>
  obtain⟨o,_,_,h|⟨b,c,cap,_,h,_⟩⟩:=h
  ·rw[h.2.1];rfl
  rw[h];rfl
 |ptr a r i j=>obtain⟨o,b,c,_,_,_,h⟩:=h;rw[h];rfl
 |junk=>exact absurd rfl g
 |fn f a m=>obtain⟨vs,h,_⟩:=h;rw[h];rfl
theorem yM {ev:Operand->Option TV} (g:iU ρ H X w ev t) {n:Fn} {first b:Array Operand} (q:r.op= .makeFunc n first b) (h:bU P ev H r.op=some l): ∃v,(execOp t r).run P w= .ok (.value v) w/\l.rel ρ H X w v:=by
 rw[q]at h;cases n with
 |func f=>
  simp only[bU]at h;split at h
  ·rename_i p;obtain⟨I,c,rfl⟩:=u6.1 h;obtain⟨K,m,E⟩:=aaw.1 c;obtain⟨z,A⟩:=bP m;obtain⟨J,B⟩:=pK E;refine⟨.func (.func f) #[] (b.map t),?_,.agg (b.map t),⟨b.map t,rfl,?_,fun j x F=>?_⟩,rfl⟩
   ·unfold execOp;rw[q];simp only;refine dD ?_;rw[adE]at p;subst p;simp only[Instr.makeFunc,Array.map_empty,aaJ]
   ·simp at z⊢;omega
   obtain⟨C,D⟩:=B j x F;obtain⟨y,u,G⟩:=A j _ C;have s:=g y _ G;refine⟨t y,?_,FQ D s,s⟩;rw[aaS];simp at u;rw[u];rfl
  cases h
 |_=>simp only[bU]at h;cases h
theorem xa {ev:Operand->Option TV} {e:Operand->Value} (j:iU ρ H X w ev e) (p: ∀(a g:Nat) (r:OObj),(H a)[g]?=some r->objRel ρ H X w a g r) (h:bU P ev H r.op=some l): ∃v,(execOp e r).run P w= .ok (.value v) w/\l.rel ρ H X w v:=by
 cases n:r.op
 case load t x=>exact KV j p n h
 case indexAddr t x i=>exact w9 j p n h
 case fieldAddr t x f=>exact w8 j n h
 case field t x f=>exact Gg j n h
 case index t x i=>exact Gh j n h
 case slice t x lo hi mx=>exact Gi j p n h
 case build t parts=>exact Gf j n h
 case nilCheck x=>exact yN j n h
 case makeFunc fn first captured=>exact yM j n h
 case call c=>
  obtain⟨callee,args,argTypes⟩:=c;cases callee with
  |builtin b=>
   cases b
   case len=>exact N4 j n h
   all_goals (rw[n]at h;simp only[bU]at h;cases h)
  |value f=>rw[n]at h;simp only[bU]at h;cases h
  |invoke g m=>rw[n]at h;simp only[bU]at h;cases h
 all_goals (rw[n]at h;simp only[bU]at h;cases h)
end
end
section
section
variable {P:Program} {w0 w w':World} {O X:Nat->Prop} {ρ:Rho} {H:OH}
theorem Ext.stays (h:Ext w w'):UP b w w':=⟨h.size,fun _ _ _ c=>h.cell c⟩
theorem Keep.ext (h:Keep O w0 w) (e:Ext w w'):Keep O w0 w':=
 ⟨e.os.trans h.os,e.tape.trans h.tape,e.output.trans h.output,aaj h.size e.size,fun k b c=>by
  rw[e.block k (aas b h.size)];exact h.block k b c⟩
theorem Keep.refl (w:World):Keep O w w:=⟨rfl,rfl,rfl,aaq _,fun _ _ _=>rfl⟩
theorem oQ {f:FuncId} {a:Nat} {l:List (Nat×Nat×Nat)} (p: ∀j,H j=[]) (h:(AV.fn f a l).rel ρ H b w e):False:=by
 obtain⟨vs,_,_,m,n⟩:=h;obtain⟨u,_,o,j,c,g,_⟩:=n 0 l[0] (aau m);rw[p]at g;simp at g
theorem AV.rel_ext (c:Ext w w') (h:x.rel ρ H b w e):x.rel ρ H b w' e:=by
 cases x with
 |fn f a l=>exact h
 |p x=>exact bQ.stays c.stays h
 |sl a r g len=>exact h
 |ptr a r i j=>exact h
 |junk=>exact h
theorem pE {l:Rho} (f:bI ρ H b w h e) (k: ∀x e,x.rel ρ H b w e->AV.rel l u c w' x e):bI l u c w' h e:=by
 obtain⟨vs,m,n,o⟩:=f;exact⟨vs,m,n,fun j x p=>by obtain⟨g,m,n,o⟩:=o j x p;exact⟨g,m,n,k _ _ o⟩⟩
theorem TV.rel_map {q:Rho} (h:l.rel ρ H b w e) (k: ∀x e,x.rel ρ H b w e->AV.rel q u c w' x e):l.rel q u c w' e:=by
 cases l with
 |one x=>exact k _ _ h
 |agg r=>exact pE h k
 |fn f r=>obtain⟨m,o,n⟩:=h;exact⟨m,pE o k,n⟩
 |tup z=>
  obtain⟨vs,o,n,p⟩:=h;refine⟨vs,o,n,fun j g r y=>?_⟩;obtain⟨m,o,n⟩:=p j g r y;refine⟨m,o,?_⟩;rcases n with⟨n,p⟩|⟨n,x,p,s⟩
  ·exact .inl ⟨n,pE p k⟩
  exact .inr ⟨n,x,p,k _ _ s⟩
theorem dO {l:Rho} {a:Nat} (h:objRel ρ H b w a n q) (s:l a n=ρ a n) (F: ∀f g,ρ a n=some (f,g)->w'.heap[f]?=w.heap[f]?) (k: ∀x v,x.rel ρ H b w v->AV.rel l u c w' x v):objRel l u c w' a n q:=by
 obtain⟨D,E,m⟩:=h;refine⟨D,E,?_⟩;rw[s];cases p:ρ a n with
 |none=>rw[p]at m;exact m
 |some t=>
  obtain⟨f,g⟩:=t;rw[p]at m;obtain⟨cells,y,z,A,B,C⟩:=m;refine⟨cells,by rw[F f g p];exact y,z,A,B,fun i e j x G I=>?_⟩;obtain⟨v,J,K,L⟩:=C i e j x G I;exact⟨v,J,K,k _ _ L⟩
theorem bf {Y:Nat->Prop} {a:Nat} {b c:Nat} (h:objRel ρ H Y w a n q) (e:ρ a n=some (b,c)):b<w.heap.size:=by
 obtain⟨_,_,f⟩:=h;rw[e]at f;obtain⟨cells,g,_⟩:=f;exact(aan.1 g).1
def aX (X:Nat->Prop) (ρ:Rho) (s:AS) (a:Act) (w:World):Prop:= ∀(t:Nat) x,s.tmps[t]?=some x-> ∃v:Value,a.tmps[t]?=some v/\x.rel ρ s.H (Xo X ρ s.H) w v
theorem be {a:Act} (h:aX X ρ s a w):iU ρ s.H (Xo X ρ s.H) w s.ev a.eval:=by
 intro x t b;cases x with
 |tmp k=>
  obtain⟨v,c,e⟩:=h k t b;simp only[Act.eval,abI,c,abh];exact e
 |const v=>simp only[AS.ev]at b;injection b with b;subst b;exact D4 v
 |global g=>simp only[AS.ev]at b;injection b with b;subst b;exact bZ rfl
 |func f=>simp only[AS.ev]at b;injection b with b;subst b;exact bZ rfl
theorem jL (a:Act) (d:Option Tmp) (v:Value):(a.put d v).tmps.size=a.tmps.size:=by cases d<;>simp[Act.put]
theorem fg (s:AS) (d:Option Tmp) (t:TV):(s.put d t).tmps.length=s.tmps.length:=by cases d<;>simp[AS.put]
theorem fK (s:AS) (d:Option Tmp) (t:TV):(s.put d t).H=s.H:=by cases d<;>rfl
theorem f5 (a:Act) (d:Option Tmp) (v:Value):(a.put d v).defers=a.defers:=by cases d<;>rfl
theorem oy {s:AS} {a:Act} {d:Option Tmp} (f:a.tmps.size=s.tmps.length) (h:aX X ρ s a w) (g:l.rel ρ s.H (Xo X ρ s.H) w e):aX X ρ (s.put d l) (a.put d e) w:=by
 intro k x b;rw[fK];cases d with
 |none=>exact h k x b
 |some d=>
  simp only[AS.put]at b;simp only[Act.put];by_cases c:d=k
  ·subst c;rw[aa7]at b;simp at b;obtain⟨j,b⟩:=b;subst b;exact⟨e,by rw[acb (by omega)],g⟩
  rw[aaI c]at b;rw[ab6 c];exact h k x b
theorem eJ {s:AS} {a:Act} {d:Option Tmp} {t:TV} {v:Value} (e:a.defers=[]) (c:a.tmps.size=s.tmps.length) (b:Inv w0 O X s.H ρ w) (h:aX X ρ s a w) (f:t.rel ρ s.H (Xo X ρ s.H) w v):da w0 O X (s.put d t) (a.put d v) w:=by
 refine⟨by rw[f5];exact e,by rw[jL,fg];exact c,ρ,by rw[fK];exact b,?_⟩;exact oy c h f
theorem Inv.grow (h:Inv w0 O X H ρ w) (e:Ext w w'):Inv w0 O X H ρ w':=
 ⟨h.keep.ext e,fun a r o g=>dO (h.objs a r o g) rfl (fun b c f=>e.block b (bf (h.objs a r o g) f)) (fun _ _ j=>AV.rel_ext e j),h.inj,h.old,fun b f=>aas (h.bar b f) e.size,h.self⟩
theorem aX.grow {a:Act} (h:aX X ρ s a w) (e:Ext w w'):aX X ρ s a w':=fun t x g=>by
 obtain⟨v,b,c⟩:=h t x g;exact⟨v,b,TV.rel_map c (fun _ _ f=>AV.rel_ext e f)⟩
def newρ (ρ:Rho) (d:Nat) (f:Nat->Option (Nat×Nat)):Rho:=fun a r=>if a=d then f r else ρ a r
theorem aD {d a:Nat} (h:a≠d):aw u d g a=u a:=if_neg h
theorem aM {d:Nat}:aw u d g d=g:=if_pos rfl
theorem newρ_ne {d a:Nat} (h:a≠d) (r:Nat):newρ ρ d o a r=ρ a r:=if_neg h
theorem newρ_eq {d:Nat} (r:Nat):newρ ρ d o d r=o r:=if_pos rfl
theorem jH (z:Inv w0 O X H ρ w) (l:Ext w w') {d:Nat} (B:H d=[]) {f:Nat->Option (Nat×Nat)} (t: ∀r b c,f r=some (b,c)->w.heap.size<=b) (h:x.rel ρ H (Xo X ρ H) w e):x.rel (newρ ρ d f) (aw H d g) (Xo X (newρ ρ d f) (aw H d g)) w' e:=by
 have s: ∀(a r:Nat) o,(H a)[r]?=some o->a≠d:=fun a r o A m=>by rw[m,B]at A;simp at A
 refine qH (fun x e C h=>?_) x e h;cases x with
 |fn=>cases C
 |p x=>
  refine bQ.stays l.stays (bQ.weaken (fun b E y=>?_) h);rcases y with y|⟨a,r,o,c,n,q⟩
  ·exact .inl y
  by_cases m:a=d
  ·subst m;rw[newρ_eq]at q;have:=t r b c q;omega
  rw[newρ_ne m]at q;rw[aD m]at n;exact .inr ⟨a,r,o,c,n,q⟩
 |sl a r D len=>
  obtain⟨o,n,q,u⟩:=h;have m:=s a r o n;refine⟨o,by rw[aD m];exact n,q,?_⟩;rw[newρ_ne m];exact u
 |ptr a r i j=>
  obtain⟨o,b,c,n,q,u⟩:=h;have m:=s a r o n;refine⟨o,b,c,by rw[aD m];exact n,by rw[newρ_ne m];exact q,u⟩
 |junk=>trivial
theorem Jw {a:Act} (g:Inv w0 O X s.H ρ w) (D:aX X ρ s a w) (e:Ext w w') {d:Nat} {F:List OObj} (E:s.H d=[]) (f:Nat->Option (Nat×Nat)) (h: ∀r b c,f r=some (b,c)->w.heap.size<=b) (u: ∀r y b c A,f r=some (b,c)->f y=some (b,A)->r=y) (t: ∀(r:Nat) o,F[r]?=some o->selfO d o) (C: ∀(r:Nat) o,F[r]?=some o->objRel (newρ ρ d f) (aw s.H d F) (Xo X (newρ ρ d f) (aw s.H d F)) w' d r o):Inv w0 O X (aw s.H d F) (newρ ρ d f) w'/\aX X (newρ ρ d f) ⟨s.tmps,aw s.H d F⟩ a w':=by
 refine⟨?_,?_⟩
 ·refine⟨g.keep.ext e,fun a r o j=>?_,fun a r z y o G b c A j q n l=>?_,fun a r o b c j n=>?_,fun b B=>aas (g.bar b B) e.size,fun a r o j=>?_⟩
  ·by_cases p:a=d
   ·subst p;simp only[aM]at j;exact C r o j
   simp only[aD p]at j;exact dO (g.objs a r o j) (newρ_ne p r) (fun b c B=>e.block b (bf (g.objs a r o j) B)) (fun _ _ n=>jH g e E h n)
  ·by_cases p:a=d
   ·subst p;rw[newρ_eq]at n;by_cases m:z=a
    ·subst m;rw[newρ_eq]at l;exact⟨rfl,u _ _ _ _ _ n l⟩
    rw[newρ_ne m]at l;simp only[aD m]at q;have:=bf (g.objs z y G q) l;have:=h _ _ _ n;omega
   rw[newρ_ne p]at n;simp only[aD p]at j;by_cases m:z=d
   ·subst m;rw[newρ_eq]at l;have:=bf (g.objs a r o j) n;have:=h _ _ _ l;omega
   rw[newρ_ne m]at l;simp only[aD m]at q;exact g.inj a r z y o G b c A j q n l
  ·by_cases p:a=d
   ·subst p;rw[newρ_eq]at n;have:=h _ _ _ n;have M:=g.keep.size;exact⟨.inl (by omega),fun K=>by have:=g.bar b K;omega⟩
   rw[newρ_ne p]at n;simp only[aD p]at j;exact g.old a r o b c j n
  by_cases p:a=d
  ·subst p;simp only[aM]at j;exact t r o j
  simp only[aD p]at j;exact g.self a r o j
 intro k x L;obtain⟨v,I,J⟩:=D k x L;exact⟨v,I,TV.rel_map J (fun _ _ n=>jH g e E h n)⟩
theorem BG {a:Act} (B:a.defers=[]) (x:a.tmps.size=s.tmps.length) (p:Inv w0 O X s.H ρ w) (y:aX X ρ s a w) (j:Ext w w') {d:Nat} (C:s.H d=[]) (f:Nat->Option (Nat×Nat)) (q: ∀r b c,f r=some (b,c)->w.heap.size<=b) (n: ∀r z b c A,f r=some (b,c)->f z=some (b,A)->r=z) (m: ∀(r:Nat) o,g[r]?=some o->selfO d o) (u: ∀(r:Nat) o,g[r]?=some o->objRel (newρ ρ d f) (aw s.H d g) (Xo X (newρ ρ d f) (aw s.H d g)) w' d r o) (D:l.rel (newρ ρ d f) (aw s.H d g) (Xo X (newρ ρ d f) (aw s.H d g)) w' e):da w0 O X (AS.put ⟨s.tmps,aw s.H d g⟩ (some d) l) (a.put (some d) e) w':=by
 have h:=Jw p y j C f q n m u;exact eJ (ρ:=newρ ρ d f) B x h.1 h.2 D
theorem cG {a:Nat} (b:isPure x=true):bs a x:=by
 cases x<;>first|trivial|cases b
theorem lY (w:World) (o:Obj):Ext w (w.alloc o):=(Ext.refl w).alloc o
theorem vp {a:Act} (N:a.defers=[]) (F:a.tmps.size=s.tmps.length) (g:Inv w0 O X s.H ρ w) (G:aX X ρ s a w) {d:Nat} {e:TypeId} {es c:Nat} {elems:List (List AV)} {cells:Array Value} (I:s.H d=[]) (E:0<es) (D: ∀x∈elems,x.length=es) (C:cells.size=c*es) (p:elems.length<=c) (Q:c<=9223372036854775807) (J: ∀x∈elems,∀y∈x,isPure y=true) (m: ∀(i:Nat) x (j:Nat) y,elems[i]?=some x->x[j]?=some y-> ∃v:Value,cells[i*es+j]?=some v/\v.oneCell'=true/\y.rel ρ s.H (Xo X ρ s.H) w v) {t:TV} {v:Value} (S:(t= .one (.ptr d 0 0 0)/\0<elems.length/\v= .pointer (some ⟨w.heap.size,0,none⟩))\/(t= .one (.sl d 0 0 elems.length)/\v= .slice (some ⟨w.heap.size,0,none⟩) elems.length c)):
  da w0 O X (AS.put ⟨s.tmps,aw s.H d [⟨e,es,elems⟩]⟩ (some d) t) (a.put (some d) v) (w.alloc (.cells cells e)):=by
 have l: ∀(r b A:Nat),(if r=0 then some (w.heap.size,c)else none)=some (b,A)->w.heap.size<=b:=fun r b A h=>by
  split at h
  ·injection h with h;injection h with h B;omega
  cases h
 have key: ∀y v,isPure y=true->AV.rel ρ s.H (Xo X ρ s.H) w y v->AV.rel (newρ ρ d fun r=>if r=0 then some (w.heap.size,c)else none) (aw s.H d [⟨e,es,elems⟩]) (Xo X (newρ ρ d fun r=>if r=0 then some (w.heap.size,c)else none) (aw s.H d [⟨e,es,elems⟩])) (w.alloc (.cells cells e)) y v:=fun y v _ h=>
  jH g (lY w _) I (f:=fun r=>if r=0 then some (w.heap.size,c)else none) l h
 refine BG N F g G (lY w _) I (fun r=>if r=0 then some (w.heap.size,c)else none) l (fun r T b c A h B=>?_) (fun r o n=>?_) (fun r o n=>?_) ?_
 ·split at h
  ·split at B
   ·omega
   cases B
  cases h
 ·cases r with
  |succ r=>simp at n
  |zero=>
   simp at n;subst n;exact fun x q y z=>cG (J x q y z)
 ·cases r with
  |succ r=>simp at n
  |zero=>
   simp at n;subst n;refine⟨D,E,?_⟩;rw[newρ_eq];refine⟨cells,heap_alloc_new w _,C,p,Q,fun i x j y q z=>?_⟩;obtain⟨u,K,L,M⟩:=m i x j y q z;exact⟨u,K,L,key y u (J x (u5 q) y (u5 z)) M⟩
 rcases S with⟨rfl,R,rfl⟩|⟨rfl,rfl⟩
 ·exact⟨⟨e,es,elems⟩,w.heap.size,c,by simp[aM],by rw[newρ_eq];rfl,R,by simp⟩
 exact⟨⟨e,es,elems⟩,by simp[aM],by simp,.inr ⟨w.heap.size,c,c,by rw[newρ_eq];rfl,by simp,p,fun _=>rfl⟩⟩
end
end
section
section
variable {P:Program} {w0 w w':World} {O X:Nat->Prop} {ρ:Rho} {H:OH}
theorem kK (h:dy P f=some p): ∃i b,P.info? f=some i/\i.zero=some b/\b.cells.toList=p:=by
 unfold dy at h;cases e:P.info? f with
 |none=>rw[e]at h;cases h
 |some i=>
  rw[e]at h;cases c:i.zero with
  |none=>simp[c]at h
  |some b=>simp[c]at h;exact⟨i,b,rfl,c,h⟩
theorem wH (h:IH P f=some n): ∃i,P.info? f=some i/\i.bytes=n:=by
 unfold IH at h;cases b:P.info? f with
 |none=>rw[b]at h;cases h
 |some i=>rw[b]at h;simp at h;exact⟨i,rfl,h⟩
theorem x8 {i:TypeInfo} (h:P.info? f=some i) (b:i.zero=some e):(zeroValue f).run P w= .ok e w:=by
 unfold zeroValue;rw[aak,B6 h,aag,b];rfl
theorem x7 (t:TypeId) (c:Array Value):(newRow t c).run P w= .ok ⟨w.heap.size,0,none⟩ (w.alloc (.cells c t)):=rfl
theorem JH (t:TypeId) (v:Value):(Instr.box t v).run P w= .ok (.pointer (some ⟨w.heap.size,0,none⟩)) (w.alloc (.cells v.cells t)):=rfl
theorem G6 {i:TypeInfo} (h:P.info? f=some i) (b:i.zero=some e):
  (Instr.alloc f true (.tuple #[])).run P w= .ok (.pointer (some ⟨w.heap.size,0,none⟩)) (w.alloc (.cells e.cells f)):=by
 unfold Instr.alloc;rw[aak,x8 h b,aag];rfl
theorem En (n:Nat):(askRoom n).run P w= .ok () w:=by
 unfold askRoom;split<;>rfl
def kY (z:List Value) (n:Nat):Array Value:=(Array.range n).map fun k=>z.toArray[k%z.toArray.size]!
theorem pZ (z:List Value) (n:Nat):(kY z n).size=n:=by simp[kY]
theorem Lc {i:Nat} (b:p[m]?=some e) (f:i*p.length+m<n):(kY p n)[i*p.length+m]?=some e:=by
 have c:m<p.length:=(aaf.1 b).1;unfold kY;rw[aaS,Array.getElem?_range,if_pos f];simp only[aaT,abw];rw[abj,adl,abP c];rw[(aaf.1 b).2.symm];simp[c]
theorem LS {b:TypeId} {i:TypeInfo} (r:P.underlying f=some (.slice b)) (h:P.info? b=some i) (s:i.zero=some e) (j:e.cells.toList=p) (g:p.length=i.size) (v u:IntKind) {n m:Int} (B:0<=n) (o:n<=m) (l:m<=9223372036854775807) (C:(i.bytes:Int)*m<=281474976710656):
  (Instr.makeSlice f (.int v n) (.int u m)).run P w= .ok (.slice (some ⟨w.heap.size,0,none⟩) n.toNat m.toNat) (w.alloc (.cells (kY p (m.toNat*p.length)) b)):=by
 have y:IntKind.i64.wrap n=n:=ac8 _ (by omega);have A:IntKind.i64.wrap m=m:=ac8 _ (by omega);have q:(sizeOf b).run P w= .ok i.size w:=by unfold sizeOf;rw[aak,B6 h];rfl
 have t1:decide (m<0)=false:=by simp;omega
 have t2:decide ((i.bytes:Int)*m>2^48)=false:=by simp;omega
 have t3:decide (n<0)=false:=by simp;omega
 have t4:decide (n>m)=false:=by simp;omega
 unfold Instr.makeSlice;simp only[aak,run_underlying r,aag,asInt,asIntOf,aaJ,B6 h,y,A,t1,t2,t3,t4,ael,aa5,if_false,En,q];by_cases c:m.toNat*i.size=0
 ·rw[if_pos c,aak];show Result.andThen (.ok #[] w) _=_;simp only[aag,aak,x7,aaJ];rw[g,c,show kY p 0= #[] by simp[kY],show(Array.map (fun x=>(#[]:Array Value)[x%(#[]:Array Value).size]!) (Array.range 0))= #[] by simp]
 rw[if_neg c];simp only[aak,x8 h s,aag,aaJ,x7];rw[g,<- j];rfl
theorem zT {ev:Operand->Option TV} {e:Operand->Value} {Y:Nat->Prop} (o:iU ρ H Y w ev e) {sz:Nat}: ∀(parts:List (Nat×Operand)) (n:Nat) (l:List (List AV)) (cells:Array Value),
  pW ev sz n parts=some l->(n+l.length)*sz<=cells.size->
  ∃b,Instr.fill (fun i=>some (i*sz,sz)) cells (parts.map fun(i,x)=>(i,e x))=some b/\b.size=cells.size/\(∀j:Nat,j<n*sz->b[j]?=cells[j]?)/\
   (∀x∈l,x.length=sz/\ ∀y∈x,isPure y=true)/\
   ∀(i:Nat) x (j:Nat) y,l[i]?=some x->x[j]?=some y-> ∃u:Value,b[(n+i)*sz+j]?=some u/\u.oneCell'=true/\y.rel ρ H Y w u
 |[],n,l,cells,h,_=>by
  simp only[pW]at h;injection h with h
  subst h;exact⟨cells,rfl,rfl,fun _ _=>rfl,fun x C=>(by simp at C),fun i x j y C=>(by simp at C)⟩
 |(k,x)::p,n,l,cells,h,s=>by
  simp only[pW]at h;split at h
  ·rename_i f E q r;split at h
   ·rename_i T;obtain⟨K,L,I⟩:=T;injection h with h
    subst h;subst K;obtain⟨t,Z,D⟩:=aaw.1 q;obtain⟨r1,r2⟩:=jw D (o x t Z);simp only[aaG]at s;have W:(k+(E.length+1))*sz=k*sz+(E.length*sz+sz):=by rw[abg,abg,ach]
    generalize B:(e x).cells=m at*
    obtain⟨m⟩:=m;have aa:m.length=f.length:=r1;obtain⟨f1,f2⟩:=s9 (k*sz) m 0 cells (by omega);have M:(m.toArray.zipIdx.foldl (fun f (c,j)=>f.setIfInBounds (k*sz+j) c) cells)=((m.zipIdx 0).foldl (fun f (c,j)=>f.setIfInBounds (k*sz+j) c) cells):=by
     rw[<- aeo];simp
    have V:(k+1)*sz=k*sz+sz:=by rw[abg,ach]
    obtain⟨b,N,Q,J,R,S⟩:=zT o p (k+1) E (cells:=(m.zipIdx 0).foldl (fun f (c,j)=>f.setIfInBounds (k*sz+j) c) cells) r (by rw[f1,abg];omega);refine⟨b,?_,by rw[Q,f1],fun j U=>?_,fun y g=>?_,fun i y j u g A=>?_⟩
    ·simp only[aaC,Instr.fill,B];rw[if_neg (by simp;omega),M];exact N
    ·rw[J j (by omega),f2 j,if_neg (by omega)]
    ·rcases aaV.1 g with rfl|g
     ·exact⟨L,fun z hz=>by simp only[aah]at I;exact I z hz⟩
     exact R y g
    cases i with
    |zero=>
     simp at g;subst g;have U:j<f.length:=(aaf.1 A).1;obtain⟨v,F,G⟩:=r2 j u A;refine⟨v,?_,G⟩;rw[aa3,J _ (by omega),f2,if_pos (by omega)];rw[show k*sz+j-(k*sz+0)=j by omega];simpa using F
    |succ i=>
     simp at g;obtain⟨v,F,G⟩:=S i y j u g A;exact⟨v,by rw[show k+(i+1)=k+1+i by omega];exact F,G⟩
   cases h
  cases h
def iW (s:AS) (d:Nat) (t:TV) (F:List OObj):AS:=if F.isEmpty then s.put (some d) t else AS.put ⟨s.tmps,aw s.H d F⟩ (some d) t
theorem N1 {m:List (cB P)} {i d:Nat} {a:Act} (G:a.defers=[]) (A:a.tmps.size=s.tmps.length) (p:Inv w0 O X s.H ρ w) (q:aX X ρ s a w) {x:Operand} (K:r.op= .box f x) (h:b9 P m v i d s.ev s.H r.op=some (l,g)) (J:s.H d=[]):
  ∃b w',(execOp a.eval r).run P w= .ok (.value b) w'/\da w0 O X (iW s d l g) (a.put (some d) b) w':=by
 unfold execOp;rw[K]at h⊢;simp only[b9]at h;split at h
 ·rename_i N u;split at h
  ·rename_i E;injection h with h
   injection h with B I
   subst B I;obtain⟨l,B,C⟩:=aaw.1 u;obtain⟨L,M⟩:=jw C (be q x l B);refine⟨_,_,dD (JH f (a.eval x)),?_⟩;refine vp G A p q (c:=1) J E.2 (by simp) (by simp[L]) (by simp) (by omega) (fun y n z D=>?_) (fun k y j z n D=>?_) (.inl ⟨rfl,by simp,rfl⟩)
   ·simp at n;subst n;have:=E.1;simp only[aah]at this;exact this z D
   cases k with
   |succ k=>simp at n
   |zero=>
    simp at n;subst n;rw[ab2,aaO];exact M j z D
  cases h
 cases h
theorem F9 {n:List (cB P)} {i d:Nat} {a:Act} (J:a.defers=[]) (x:a.tmps.size=s.tmps.length) (q:Inv w0 O X s.H ρ w) (A:aX X ρ s a w) (N:r.op= .alloc f) (h:b9 P n v i d s.ev s.H r.op=some (l,g)) (L:s.H d=[]):
  ∃b w',(execOp a.eval r).run P w= .ok (.value b) w'/\da w0 O X (iW s d l g) (a.put (some d) b) w':=by
 unfold execOp;rw[N]at h⊢;simp only[b9]at h;split at h
 ·rename_i z R;split at h
  ·rename_i E;injection h with h
   injection h with Q K
   subst Q K;obtain⟨i,T,M,C,B⟩:=kK R;obtain⟨S,G⟩:=Eh (ρ:=ρ) (H:=s.H) (X:=Xo X ρ s.H) (w:=w) E.1;refine⟨_,_,dD (G6 M C),?_⟩;have D:z.toArray=T.cells:=by rw[<- B]
   rw[D]at S G;refine vp J x q A (c:=1) L E.2 (by simp) (by rw[<- D];simp) (by simp) (by omega) (fun y p I m=>?_) (fun k y j I p m=>?_) (.inl ⟨rfl,by simp,rfl⟩)
   ·simp at p;subst p;simp at m;obtain⟨u,_,rfl⟩:=m;rfl
   cases k with
   |succ k=>simp at p
   |zero=>
    simp at p;subst p;rw[ab2,aaO];exact G j I m
  cases h
 cases h
theorem KQ {E:List (cB P)} {i d:Nat} {a:Act} (Q:a.defers=[]) (V:a.tmps.size=s.tmps.length) (J:Inv w0 O X s.H ρ w) (D:aX X ρ s a w) {b c:Operand} (ho:r.op= .makeSlice f b c) (h:b9 P E v i d s.ev s.H r.op=some (l,g)) (hd:s.H d=[]):
  ∃p w',(execOp a.eval r).run P w= .ok (.value p) w'/\da w0 O X (iW s d l g) (a.put (some d) p) w':=by
 unfold execOp;rw[ho]at h⊢;simp only[b9]at h;split at h
 ·rename_i k1 n k2 m e hl hc hs;split at h
  ·rename_i z sz ab hz N S;split at h
   ·rename_i C;obtain⟨c1,c2,c3,c4,Z,c6,c7⟩:=C;injection h with h
    injection h with ht hF
    subst ht hF;obtain⟨i,zv,T,Y,W⟩:=kK hz;obtain⟨i',A,aa⟩:=r7 N;rw[T]at A;injection A with A;subst A
    obtain⟨i',A,I⟩:=wH S;rw[T]at A;injection A with A;subst A
    have M:=LS (P:=P) (w:=w) (dH hs) T Y W (by omega) k1 k2 c1 c2 c3 (by rw[I];exact c4);have hn:=(aV (be D b _ hl)).1;have hm:=(aV (be D c _ hc)).1;refine⟨_,_,dD (by rw[hn,hm];exact M),?_⟩;simp only[aah]at c7;have L: ∀(k:Nat) x,(List.replicate n.toNat (z.map AV.raw))[k]?=some x->k<n.toNat/\x=z.map AV.raw:=fun k x G=>by
     rw[aaY]at G;split at G
     ·injection G with G;exact⟨by assumption,G.symm⟩
     cases G
    have B:(List.replicate n.toNat (z.map AV.raw)).length=n.toNat:=by simp
    have:=vp Q V J D (c:=m.toNat) (e:=e) (es:=sz) (elems:=List.replicate n.toNat (z.map AV.raw)) (cells:=kY z (m.toNat*z.length)) hd c6 (by simp[aca];omega) (by rw[pZ,Z]) (by simp;omega) (by omega)
     (fun y R z' q=>by simp[aca]at R;rw[R.2]at q;simp at q;obtain⟨u,_,rfl⟩:=q;rfl)
     (fun k y j z' R q=>by
      obtain⟨hk,rfl⟩:=L k y R;rw[u9]at q;cases K:z[j]? with
      |none=>rw[K]at q;cases q
      |some u=>
       rw[K]at q;simp at q;subst q;have Q:=c7 u (u5 K);have ac:j<z.length:=(aaf.1 K).1;have U:k*z.length+j<m.toNat*z.length:=by
        have:(k+1)*z.length<=m.toNat*z.length:=aat _ (by omega);rw[abg,ach]at this;omega
       refine⟨u,?_,Q,bQ.raw u Q⟩;rw[<- Z];exact Lc K U)
     (t:= .one (.sl d 0 0 n.toNat)) (v:= .slice (some ⟨w.heap.size,0,none⟩) n.toNat m.toNat) (.inr ⟨by rw[B],by rw[B]⟩)
    exact this
   cases h
  cases h
 cases h
theorem N3 {N:List (cB P)} {i d:Nat} {a:Act} (h1:a.defers=[]) (R:a.tmps.size=s.tmps.length) (B:Inv w0 O X s.H ρ w) (M:aX X ρ s a w) {parts:Array (Nat×Operand)} (ho:r.op= .buildSlice f n parts) (h:b9 P N v i d s.ev s.H r.op=some (l,g)) (hd:g≠[]->s.H d=[]):
  ∃q w',(execOp a.eval r).run P w= .ok (.value q) w'/\da w0 O X (iW s d l g) (a.put (some d) q) w':=by
 unfold execOp;rw[ho]at h⊢;simp only[b9]at h;split at h
 ·rename_i e hs;split at h
  ·rename_i z sz hz S;split at h
   ·rename_i m Q;split at h
    ·rename_i L;obtain⟨U,c2,c3,Y⟩:=L;obtain⟨i,zv,hi,ad,ac⟩:=kK hz;have ab:((Array.range (n*sz)).map (zv.cells[· %zv.cells.size]!))=kY z (n*sz):=by unfold kY;rw[<- ac]
     obtain⟨cells,g1,g2,g3,V,g5⟩:=zT (be M) parts.toList 0 m (kY z (n*sz)) Q (by rw[pZ,U];simp);have I:(Instr.buildSlice f n (parts.map fun(i,x)=>(i,a.eval x))).run P w= .ok (.slice (some ⟨w.heap.size,0,none⟩) n n) (w.alloc (.cells cells e)):=by
      have J:Instr.fill (fun i=>some (i*sz,sz)) (kY z (n*sz)) (parts.map fun(i,x)=>(i,a.eval x)).toList=some cells:=by rw[<- g1];simp
      unfold Instr.buildSlice;simp only[aak,run_underlying (dH hs),aag,dT S];rw[if_neg (by omega)];by_cases E:n*sz=0
      ·rw[if_pos E];have aa:kY z (n*sz)= #[]:=by rw[E];simp[kY]
       rw[aa]at J;rw[aak];show Result.andThen (.ok #[] w) _=_;rw[aag];rw[show(Array.map (fun x=>(#[]:Array Value)[x%(#[]:Array Value).size]!) (Array.range (n*sz)))= #[] by rw[E];simp,J];rfl
      rw[if_neg E];simp only[aak,x8 hi ad,aaJ,aag];rw[ab,J];rfl
     split at h
     ·injection h with h
      injection h with ht Z
      subst ht Z;refine⟨_,_,dD I,?_⟩;have:=vp h1 R B M (c:=n) (e:=e) (es:=sz) (elems:=m) (cells:=cells) (hd (by simp)) Y (fun x A=>(V x A).1) (by rw[g2,pZ]) (by omega)
       (by have:n*1<=n*sz:=aao _ Y;omega) (fun x A=>(V x A).2)
       (fun i x j y A C=>by have:=g5 i x j y A C;rwa[aaO]at this)
       (t:= .one (.sl d 0 0 n)) (v:= .slice (some ⟨w.heap.size,0,none⟩) n n) (.inr ⟨by rw[U],by rw[U]⟩)
      exact this
     injection h with h
     injection h with ht Z
     subst ht Z;refine⟨_,_,dD I,?_⟩;refine eJ h1 R (B.grow (lY w _)) (M.grow (lY w _)) ?_;show bQ _ _ _ _;have hl:(m.map (List.map vO)).length=n:=by simp[U]
     have K: ∀(i:Nat) x (j:Nat) y,(m.map (List.map vO))[i]?=some x->x[j]?=some y-> ∃u:Value,cells[i*sz+j]?=some u/\bQ (Xo X ρ s.H) w y u:=fun i x j y A C=>by
      rw[u9]at A;cases D:m[i]? with
      |none=>rw[D]at A;cases A
      |some T=>
       rw[D]at A;simp at A;subst A;rw[u9]at C;cases G:T[j]? with
       |none=>rw[G]at C;cases C
       |some y'=>
        rw[G]at C;simp at C;subst C;obtain⟨u,u1,u2,u3⟩:=g5 i T j y' D G;have hp:=(V T (u5 D)).2 y' (u5 G);refine⟨u,by rwa[aaO]at u1,?_⟩;cases y'<;>first|exact u3|cases hp
     have W: ∃b:Nat->Nat->Value,∀(i:Nat) x (j:Nat) y,(m.map (List.map vO))[i]?=some x->x[j]?=some y->cells[i*sz+j]?=some (b i j)/\bQ (Xo X ρ s.H) w y (b i j):=by
      refine⟨fun i j=>(cells[i*sz+j]?).getD undef,fun i x j y A C=>?_⟩;obtain⟨u,u1,u2⟩:=K i x j y A C;simp only[u1,abh];exact⟨trivial,u2⟩
     obtain⟨b,W⟩:=W;have ae:n<=16777216:=by have:n*1<=n*sz:=aao _ Y;omega
     have:=bQ.sl (X:=Xo X ρ s.H) (w:=w.alloc (.cells cells e)) w.heap.size 0 sz n (m.map (List.map vO)) b (fun hX=>by
      rcases hX with hX|⟨a',p,o',c,q1,q2⟩
      ·have:=B.bar _ hX;omega
      ·have:=bf (B.objs a' p o' q1) q2;omega) (by rw[World.size_alloc];omega) (fun x A=>by simp at A;obtain⟨T,D,rfl⟩:=A;simp;exact(V T D).1) (by omega) (by omega)
      (fun i x j y A C=>by
       rw[cell_of_row _ w.heap.size (0+i*sz+j) cells e (0,0) (heap_alloc_new w _),aaO];exact(W i x j y A C).1)
      (fun i x j y A C=>bQ.stays (lY w _).stays (W i x j y A C).2)
     rw[hl]at this;exact this
    cases h
   cases h
  cases h
 cases h
end
end
section
section
variable {P:Program} {w0 w w':World} {O X:Nat->Prop} {ρ:Rho} {H:OH}
structure But (b:Nat) (w w':World):Prop where
 os:w'.os=w.os
 tape:w'.tape=w.tape
 output:w'.output=w.output
 size:w.heap.size<=w'.heap.size
 block: ∀k,k<w.heap.size->k≠b->w'.heap[k]?=w.heap[k]?
theorem But.setRow (w:World) (b:Nat) (c:Array Value):But b w (w.setRow b c):=
 ⟨rfl,rfl,rfl,by simp[World.setRow],fun k f e=>by simp[World.setRow,Array.getElem?_modify,abD e]⟩
theorem Keep.but (h:Keep O w0 w) (e:But n w w') (c:w0.heap.size<=n\/O n):Keep O w0 w':=
 ⟨e.os.trans h.os,e.tape.trans h.tape,e.output.trans h.output,aaj h.size e.size,fun k f g=>by
  rw[e.block k (aas f h.size) (by rintro rfl;rcases c with c|c;omega;exact g c)];exact h.block k f g⟩
theorem nT {n:Rho} {b:Nat} (E:Xo X ρ H b) (f:But b w w') (l: ∀(a r:Nat) o,(H a)[r]?=some o-> ∃m,(u a)[r]?=some m/\m.es=o.es/\o.elems.length<=m.elems.length/\n a r=ρ a r) (t: ∀(a r:Nat) o q c,(u a)[r]?=some o->n a r=some (q,c)->q<w.heap.size->Xo X ρ H q) (h:x.rel ρ H (Xo X ρ H) w e):x.rel n u (Xo X n u) w' e:=by
 refine qH (fun x e M h=>?_) x e h;cases x with
 |fn=>cases M
 |p x=>
  refine bQ.stays ⟨f.size,fun p g N I=>?_⟩ (bQ.weaken (fun q F D=>?_) h)
  ·have G:=vg I;by_cases y:p.block=b
   ·exfalso;apply N;obtain E|⟨a,r,o,c,s,z⟩:=E
    ·exact .inl (y▸E)
    obtain⟨m,A,C,J,B⟩:=l a r o s;exact .inr ⟨a,r,m,c,A,by rw[B,y];exact z⟩
   unfold World.cell? at I⊢;rw[f.block _ G y];exact I
  rcases D with D|⟨a,r,o,c,s,z⟩
  ·exact .inl D
  exact t a r o q c s z F
 |sl a r Q len=>
  obtain⟨o,s,z,K⟩:=h;obtain⟨m,A,C,J,B⟩:=l a r o s;refine⟨m,A,by omega,?_⟩;rw[B,C];exact K
 |ptr a r i j=>
  obtain⟨o,q,c,s,z,K,L⟩:=h;obtain⟨m,A,C,J,B⟩:=l a r o s;exact⟨m,q,c,A,by rw[B];exact z,by omega,by rw[C];exact L⟩
 |junk=>trivial
theorem rO {c:OObj} (h:g[n]?=some q):(g.set n c)[m]?=if m=n then some c else g[m]?:=by
 by_cases b:m=n
 ·subst b;rw[if_pos rfl,aa7];simp[(aaf.1 h).1]
 rw[if_neg b,aaI (abD b)]
theorem BQ (b:n+j.length<=h.length):(putCells h n j).length=h.length:=by
 simp[putCells];omega
theorem BP (b:n+j.length<=h.length) (k:Nat):(putCells h n j)[k]?=if n<=k/\k<n+j.length then j[k-n]? else h[k]?:=B9 b k
theorem C7 {i j c b:Nat} (h:n≠i) (f:j+b<=m) (e:c<m): ¬(i*m+j<=n*m+c/\n*m+c<i*m+j+b):=by
 rcases Nat.lt_or_gt_of_ne h with h|h
 ·have:(n+1)*m<=i*m:=aat _ h;rw[abg,ach]at this;omega
 have:(i+1)*m<=n*m:=aat _ h;rw[abg,ach]at this;omega
theorem Az {act:Act} (h1:act.defers=[]) (ba:act.tmps.size=s.tmps.length) (g:Inv w0 O X s.H ρ w) (a7:aX X ρ s act w) {a i j c:Nat} {Q:List AV} {vs:List Value} (L:(s.H a)[n]?=some q) (J:ρ a n=some (m,c)) (he:q.elems[i]?=some h) (hj:j+Q.length<=h.length) (a8:vs.length=Q.length) (an: ∀(k:Nat) x,Q[k]?=some x-> ∃u:Value,vs[k]?=some u/\u.oneCell'=true/\x.rel ρ s.H (Xo X ρ s.H) w u) (ac: ∀x∈Q,bs a x):
  ∃cells,w.heap[m]?=some (.cells cells q.ty (0,0))/\i*q.es+j+vs.length<=cells.size/\
   Inv w0 O X (aw s.H a ((s.H a).set n {q with elems:=q.elems.set i (putCells h j Q)})) ρ (w.setRow m (cells.toList.take (i*q.es+j)++vs++cells.toList.drop (i*q.es+j+vs.length)).toArray)/\
   aX X ρ ⟨s.tmps,aw s.H a ((s.H a).set n {q with elems:=q.elems.set i (putCells h j Q)})⟩ act (w.setRow m (cells.toList.take (i*q.es+j)++vs++cells.toList.drop (i*q.es+j+vs.length)).toArray):=by
 have al:=g.objs a n q L;obtain⟨q1,q2,q3⟩:=al;rw[J]at q3;obtain⟨cells,p1,p2,p3,p4,p5⟩:=q3;have a3:h.length=q.es:=q1 h (u5 he);have hi:i<q.elems.length:=(aaf.1 he).1;have S:i*q.es+j+vs.length<=cells.size:=by
  have:(i+1)*q.es<=c*q.es:=aat _ (by omega);rw[abg,ach]at this;omega
 refine⟨cells,p1,S,?_⟩;have ap:Xo X ρ s.H m:= .inr ⟨a,n,q,c,L,J⟩;generalize ag:(cells.toList.take (i*q.es+j)++vs++cells.toList.drop (i*q.es+j+vs.length))=cl;have Y: ∀k:Nat,cl[k]?=if i*q.es+j<=k/\k<i*q.es+j+vs.length then vs[k-(i*q.es+j)]? else cells[k]?:=fun k=>by
  rw[<- ag,B9 (by simpa using S)];simp
 have Z:cl.length=cells.size:=by rw[<- ag];simp;omega
 have e0:=But.setRow w m cl.toArray;generalize ae:aw s.H a ((s.H a).set n {q with elems:=q.elems.set i (putCells h j Q)})=H';have D: ∀A,(H' a)[A]?=if A=n then some {q with elems:=q.elems.set i (putCells h j Q)}else(s.H a)[A]?:=fun A=>by rw[<- ae,aM];exact rO L
 have R: ∀p,p≠a->H' p=s.H p:=fun p U=>by rw[<- ae,aD U]
 have ab: ∀(p A:Nat) z,(s.H p)[A]?=some z-> ∃o',(H' p)[A]?=some o'/\o'.es=z.es/\z.elems.length<=o'.elems.length/\ρ p A=ρ p A:=fun p A z f=>by
  by_cases U:p=a
  ·subst U;rw[D];by_cases hr:A=n
   ·subst hr;rw[L]at f;injection f with f
    subst f;rw[if_pos rfl];exact⟨_,rfl,rfl,by simp,rfl⟩
   rw[if_neg hr];exact⟨z,f,rfl,aaq _,rfl⟩
  rw[R p U];exact⟨z,f,rfl,aaq _,rfl⟩
 have l: ∀(p A:Nat) z,(H' p)[A]?=some z-> ∃N,(s.H p)[A]?=some N/\z.es=N.es/\(p=a/\A=n\/z=N):=fun p A z f=>by
  by_cases U:p=a
  ·subst U;rw[D]at f;by_cases hr:A=n
   ·subst hr;rw[if_pos rfl]at f;injection f with f
    exact⟨q,L,by rw[<- f],.inl ⟨rfl,rfl⟩⟩
   rw[if_neg hr]at f;exact⟨z,f,rfl,.inr rfl⟩
  rw[R p U]at f;exact⟨z,f,rfl,.inr rfl⟩
 have W: ∀(p A:Nat) z T c',(H' p)[A]?=some z->ρ p A=some (T,c')->T<w.heap.size->Xo X ρ s.H T:=fun p A z T c' f I _=>by
  obtain⟨N,G,_⟩:=l p A z f;exact .inr ⟨p,A,N,c',G,I⟩
 have B: ∀x v,AV.rel ρ s.H (Xo X ρ s.H) w x v->AV.rel ρ H' (Xo X ρ H') (w.setRow m cl.toArray) x v:=fun x v C=>nT ap e0 ab W C
 refine⟨⟨g.keep.but e0 (g.old a n q m c L J).1,fun p A z f=>?_,fun F K a2 r2 z N b1 c1 c2 f a5 I a6=>?_,fun F K z b1 c1 f I=>?_,fun b1 av=>aas (g.bar b1 av) e0.size,fun F K z f=>?_⟩,fun t x C=>?_⟩
 ·obtain⟨N,G,g2,M⟩:=l p A z f;by_cases V:p=a/\A=n
  ·obtain⟨rfl,rfl⟩:=V;rw[D,if_pos rfl]at f;injection f with f
   subst f;refine⟨fun y hy=>?_,q2,?_⟩
   ·rcases abm hy with hy|rfl
    ·exact q1 y hy
    rw[BQ hj];exact a3
   rw[J];refine⟨cl.toArray,setRow_heap w m cells _ _ _ p1,by simp[Z,p2],by simpa using p3,p4,fun i' e' j' x E C=>?_⟩;simp only[List.getElem?_toArray];rw[Y];by_cases aa:i'=i
   ·subst aa;rw[aa7]at E;simp[hi]at E;subst E;rw[BP hj]at C;split at C
    ·rename_i a4;rw[if_pos (by omega)];obtain⟨u,u1,u2,u3⟩:=an _ _ C;exact⟨u,by rw[show i'*q.es+j'-(i'*q.es+j)=j'-j by omega];exact u1,u2,B _ _ u3⟩
    rename_i a4;rw[if_neg (by omega)];obtain⟨u,u1,u2,u3⟩:=p5 i' h j' x he C;exact⟨u,u1,u2,B _ _ u3⟩
   rw[aaI (abD aa)]at E;have ah:j'<e'.length:=(aaf.1 C).1;rw[q1 e' (u5 E)]at ah;rw[if_neg (by rw[a8];exact C7 aa (by omega) ah)];obtain⟨u,u1,u2,u3⟩:=p5 i' e' j' x E C;exact⟨u,u1,u2,B _ _ u3⟩
  rcases M with M|M
  ·exact absurd M V
  subst M;refine dO (g.objs p A z G) rfl (fun T c' af=>e0.block T (bf (g.objs p A z G) af) (fun a0=>?_)) B;subst a0;exact V (g.inj p A a n z q T c' c G L af J)
 ·obtain⟨ad,G,_⟩:=l F K z f;obtain⟨a9,g2,_⟩:=l a2 r2 N a5;exact g.inj F K a2 r2 ad a9 b1 c1 c2 G g2 I a6
 ·obtain⟨ad,G,_⟩:=l F K z f;exact g.old F K ad b1 c1 G I
 ·obtain⟨N,G,g2,M⟩:=l F K z f;rcases M with⟨rfl,rfl⟩|M
  ·rw[D,if_pos rfl]at f;injection f with f
   subst f;intro y hy x C;rcases abm hy with hy|rfl
   ·exact g.self F K q L y hy x C
   unfold putCells at C;simp only[abe]at C;rcases C with(C|C)|C
   ·exact g.self F K q L h (u5 he) x (abr C)
   ·exact ac x C
   exact g.self F K q L h (u5 he) x (abq C)
  subst M;exact g.self F K z G
 obtain⟨v,v1,v2⟩:=a7 t x C;exact⟨v,v1,TV.rel_map v2 B⟩
theorem uD {t:TypeId} {v:Value} {cells:Array Value} (j:ir P t=some v.cells.size) (e:w.heap[n]?=some (.cells cells f (0,0))) (g:m+v.cells.size<=cells.size) (c: ∀u∈v.cells,u.oneCell'=true):
  (Instr.storeAt t (.pointer (some ⟨n,m,none⟩)) v).run P w= .ok () (w.setRow n (cells.toList.take m++v.cells.toList++cells.toList.drop (m+v.cells.size)).toArray):=by
 unfold Instr.storeAt storeVar;simp only[Instr.sureAddr,aak,aaJ,aag,dT j];rw[if_neg (fun h=>h rfl)];have:=run_storeCells_at P n m f v.cells.toList 0 cells w e (by simpa using g) (fun u l=>c u (by simpa using l));simpa using this
end
end
section
section
variable {P:Program} {w0 w w':World} {O X:Nat->Prop} {ρ:Rho} {H:OH}
theorem pT {r:Rho} {k:Nat->Nat->Bool} (h:l.rel ρ H b w e) (C: ∀x e,x.rel ρ H b w e->AV.rel r u c w' (aN k x) e):(aP k l).rel r u c w' e:=by
 have agg: ∀o e,bI ρ H b w o e->bI r u c w' (o.map (aN k)) e:=fun o e h=>by
  obtain⟨vs,s,z,B⟩:=h;refine⟨vs,s,by simpa using z,fun j x n=>?_⟩;rw[u9]at n;cases p:o[j]? with
  |none=>rw[p]at n;cases n
  |some y=>
   rw[p]at n;simp at n;subst n;obtain⟨m,D,q,E⟩:=B j y p;exact⟨m,D,q,C _ _ E⟩
 cases l with
 |one x=>exact C _ _ h
 |agg o=>exact agg o e h
 |fn f o=>obtain⟨m,s,z⟩:=h;exact⟨m,agg o m s,z⟩
 |tup G=>
  obtain⟨vs,s,z,B⟩:=h;refine⟨vs,s,by simpa using z,fun j g o n=>?_⟩;rw[u9]at n;cases p:G[j]? with
  |none=>rw[p]at n;cases n
  |some y=>
   obtain⟨F,A⟩:=y;rw[p]at n;simp at n;obtain⟨rfl,rfl⟩:=n;obtain⟨m,D,q⟩:=B j F A p;refine⟨m,D,?_⟩;rcases q with⟨q,E⟩|⟨q,x,rfl,I⟩
   ·exact .inl ⟨q,agg _ _ E⟩
   exact .inr ⟨q,_,rfl,C _ _ I⟩
theorem Bq {b:Rho} {k:Nat->Nat->Bool} {s:AS} {a:Act} (h:aX X ρ s a w) (f: ∀x v,x.rel ρ s.H (Xo X ρ s.H) w v->AV.rel b u (Xo X b u) w' (aN k x) v):aX X b ⟨s.tmps.map (aP k),u⟩ a w':=by
 intro t x c;simp only[u9]at c;cases e:s.tmps[t]? with
 |none=>rw[e]at c;cases c
 |some y=>
  rw[e]at c;simp at c;subst c;obtain⟨v,g,j⟩:=h t y e;exact⟨v,g,pT j f⟩
theorem zV (r:Inv w0 O X H ρ w) {a b:Nat} (af:b<=4999) (ae:b≠a) (hb:H b=[q]) (hp: ∀e∈q.elems,∀x∈e,isPure x=true):
  Inv w0 O X (aw (aw H a (H a++[q])) b []) (fun x y=>if x=a/\y=(H a).length then ρ b 0 else ρ x y) w/\
  (∀x v,AV.rel ρ H (Xo X ρ H) w x v->AV.rel (fun x y=>if x=a/\y=(H a).length then ρ b 0 else ρ x y) (aw (aw H a (H a++[q])) b []) (Xo X (fun x y=>if x=a/\y=(H a).length then ρ b 0 else ρ x y) (aw (aw H a (H a++[q])) b [])) w (aN (fun x _=>x==b) x) v)/\
  (∀E len v,AV.rel ρ H (Xo X ρ H) w (.sl b 0 E len) v->AV.rel (fun x y=>if x=a/\y=(H a).length then ρ b 0 else ρ x y) (aw (aw H a (H a++[q])) b []) (Xo X (fun x y=>if x=a/\y=(H a).length then ρ b 0 else ρ x y) (aw (aw H a (H a++[q])) b [])) w (.sl a (H a).length E len) v):=by
 generalize hH:aw (aw H a (H a++[q])) b []=C;generalize K:(fun x y=>if x=a/\y=(H a).length then ρ b 0 else ρ x y:Rho)=ρ1;have ac:C b=[]:=by rw[<- hH];exact aM
 have M:C a=H a++[q]:=by rw[<- hH,aD (abD ae),aM]
 have Y: ∀x,x≠a->x≠b->C x=H x:=fun x D G=>by rw[<- hH,aD G,aD D]
 have A: ∀x y,¬(x=a/\y=(H a).length)->ρ1 x y=ρ x y:=fun x y h=>by rw[<- K];exact if_neg h
 have L:ρ1 a (H a).length=ρ b 0:=by rw[<- K];exact if_pos ⟨rfl,rfl⟩
 have aa:(H b)[0]?=some q:=by rw[hb];rfl
 -- U: a live row of H that is not of b is the same in C
 have V: ∀(x y:Nat) o,(H x)[y]?=some o->x≠b->(C x)[y]?=some o/\ρ1 x y=ρ x y:=fun x y o l N=>by
  by_cases s:x=a
  ·subst s;have ag:y<(H x).length:=(aaf.1 l).1;exact⟨by rw[M,aal ag];exact l,A _ _ (by omega)⟩
  rw[Y x s N];exact⟨l,A _ _ (fun h=>s h.1)⟩
 -- m: a live row of C is one of H
 have m: ∀(x y:Nat) o,(C x)[y]?=some o-> ∃t B,(H t)[B]?=some o/\ρ1 x y=ρ t B/\((t=x/\B=y/\x≠b)\/(x=a/\y=(H a).length/\t=b/\B=0/\o=q)):=fun x y o l=>by
  by_cases g:x=b
  ·subst g;rw[ac]at l;simp at l
  by_cases s:x=a
  ·subst s;rw[M]at l;rcases abx y (H x).length with hy|hy|hy
   ·rw[aal hy]at l;exact⟨x,y,l,A _ _ (by omega),.inl ⟨rfl,rfl,g⟩⟩
   ·subst hy;rw[aap (aaq _),abQ]at l;simp at l;subst l;exact⟨b,0,aa,L,.inr ⟨rfl,rfl,rfl,rfl,rfl⟩⟩
   rw[acP (by simp;omega)]at l;cases l
  rw[Y x s g]at l;exact⟨x,y,l,A _ _ (fun h=>s h.1),.inl ⟨rfl,rfl,g⟩⟩
 have ad: ∀c,Xo X ρ1 C c->Xo X ρ H c:=fun c hc=>by
  rcases hc with hc|⟨x,y,o,n,D,G⟩
  ·exact .inl hc
  obtain⟨t,B,F,I,_⟩:=m x y o D;exact .inr ⟨t,B,o,n,F,by rw[<- I];exact G⟩
 have Z: ∀x v,bQ (Xo X ρ H) w x v->bQ (Xo X ρ1 C) w x v:=fun x v h=>bQ.weaken (fun c _ hc=>ad c hc) h
 have mono: ∀x v,AV.rel ρ H (Xo X ρ H) w x v->AV.rel ρ1 C (Xo X ρ1 C) w (aN (fun x _=>x==b) x) v:=gk (mO _) fun x v hn h=>by
  cases x with
  |fn=>cases hn
  |p x=>exact Z x v h
  |sl x y E len=>
   simp only[aN];by_cases g:x=b
   ·subst g;simp;trivial
   simp only[beq_iff_eq,g,if_false];obtain⟨o,D,G,W⟩:=h;obtain⟨f1,f2⟩:=V x y o D g;exact⟨o,f1,G,by rw[f2];exact W⟩
  |ptr x y i j=>
   simp only[aN];by_cases g:x=b
   ·subst g;simp;trivial
   simp only[beq_iff_eq,g,if_false];obtain⟨o,b',c,D,G,W⟩:=h;obtain⟨f1,f2⟩:=V x y o D g;exact⟨o,b',c,f1,by rw[f2];exact G,W⟩
  |junk=>trivial
 have same: ∀z x v,bs z x->z≠b->AV.rel ρ H (Xo X ρ H) w x v->AV.rel ρ1 C (Xo X ρ1 C) w x v:=fun z x v R S h=>by
  have:=mono x v h;cases x with
  |fn f x qs=>
   have R:x=z:=R.1;have N:x≠b:=by omega
   simpa[aN,N] using this
  |sl x y E len=>
   have R:x=z:=R;have N:x≠b:=by omega
   simpa[aN,N] using this
  |ptr x y i j=>
   have R:x=z:=R;have N:x≠b:=by omega
   simpa[aN,N] using this
  |p x=>exact this
  |junk=>trivial
 refine⟨⟨r.keep,fun x y o l=>?_,fun x y t B o o' c n n' l ah Q an=>?_,fun x y o c n l Q=>?_,r.bar,fun x y o l=>?_⟩,mono,fun E len v h=>?_⟩
 ·obtain⟨t,B,F,I,J⟩:=m x y o l;have ab:=r.objs t B o F;obtain⟨q1,q2,q3⟩:=ab;refine⟨q1,q2,?_⟩;rw[I];cases Q:ρ t B with
  |none=>rw[Q]at q3;exact q3
  |some bc=>
   obtain⟨b',c⟩:=bc;rw[Q]at q3;obtain⟨cells,p1,p2,p3,p4,p5⟩:=q3;refine⟨cells,p1,p2,p3,p4,fun i e j z he S=>?_⟩;obtain⟨u,u1,u2,u3⟩:=p5 i e j z he S;refine⟨u,u1,u2,?_⟩;have ap:=r.self t B o F e (u5 he) z (u5 S);rcases J with⟨rfl,rfl,g⟩|⟨rfl,rfl,rfl,rfl,rfl⟩
   ·exact same t z u ap g u3
   have al:=hp e (u5 he) z (u5 S);cases z<;>first|exact Z _ _ u3|cases al
 ·obtain⟨x1,y1,F,I,J⟩:=m x y o l;obtain⟨x2,y2,k1,k2,T⟩:=m t B o' ah;obtain⟨e1,e2⟩:=r.inj x1 y1 x2 y2 o o' c n n' F k1 (by rw[<- I];exact Q) (by rw[<- k2];exact an);rcases J with⟨J,g4,g5⟩|⟨J,g4,g5,g6,_⟩
  ·rcases T with⟨T,k4,k5⟩|⟨T,k4,k5,k6,_⟩
   ·omega
   omega
  rcases T with⟨T,k4,k5⟩|⟨T,k4,k5,k6,_⟩
  ·omega
  omega
 ·obtain⟨x1,y1,F,I,J⟩:=m x y o l;exact r.old x1 y1 o c n F (by rw[<- I];exact Q)
 ·obtain⟨t,B,F,I,J⟩:=m x y o l;rcases J with⟨rfl,rfl,g⟩|⟨rfl,rfl,rfl,rfl,rfl⟩
  ·exact r.self t B o F
  exact fun e he z S=>cG (hp e he z S)
 obtain⟨o,D,G,W⟩:=h;rw[aa]at D;injection D with D
 subst D;exact⟨q,by rw[M,aap (aaq _),abQ];rfl,G,nf af W L⟩
end
end
section
section
variable {P:Program} {w0 w w':World} {O X:Nat->Prop} {ρ:Rho} {H:OH}
theorem Be {i j sz:Nat} (b:j<sz):(i*sz+j)/sz=i/\(i*sz+j)%sz=j:=by
 constructor
 ·rw[abj,adk (by omega),acK b,aa3]
 rw[abj,adl,abP b]
def Is (ρ:Rho) (H:OH) (Y:Nat->Prop) (w:World) (v:Value) (b:List (List AV)) (sz:Nat) (f:List Value):Prop:=
 (∃A c,v= .slice A b.length c/\Rd w A f)/\f.length=b.length*sz/\(∀u∈f,u.oneCell'=true)/\(∀e∈b,∀x∈e,isPure x=true)/\
  ∀(i:Nat) e (j:Nat) y,b[i]?=some e->e[j]?=some y-> ∃u:Value,f[i*sz+j]?=some u/\u.oneCell'=true/\y.rel ρ H Y w u
theorem rV (sz:Nat) (A:Option Addr) (c:Nat):Is ρ H b w (.slice A 0 c) [] sz []:=
 ⟨⟨A,c,rfl,Rd.nil _ _⟩,by simp,by simp,by simp,fun i e j y h=>by simp at h⟩
theorem xz (ag: ∀(a r:Nat) (o:OObj),(H a)[r]?=some o->objRel ρ H b w a r o) {t:TV} {K:List (List AV)} {sz:Nat} (h:gZ H t=some K) (hr:t.rel ρ H b w e) (ac: ∀m∈K,m.length=sz) (ab:0<sz):
  ∃us,Is ρ H b w e K sz us:=by
 unfold gZ at h;split at h
 ·rename_i B;injection h with h
  subst h;have hr:bQ b w (.sl B) e:=hr;cases hr with
  |nil a c=>exact⟨[],rV sz a c⟩
  |sl g n s cap B f hX hb E ah hm hc I=>
   by_cases aa:B=[]
   ·subst aa;exact⟨[],rV sz _ cap⟩
   have U:s=sz:=by
    cases R:B with
    |nil=>exact absurd R aa
    |cons y ys=>
     have h1:=E y (by rw[R];simp);have h2:=ac (y.map AV.p) (by rw[R];simp);simp at h2;omega
   subst U;have key: ∀k,k<B.length*s-> ∃m y,B[k/s]?=some m/\m[k%s]?=some y:=fun k z=>by
    have L:k/s<B.length:=acD (by rw[abj];exact z);refine⟨B[k/s],B[k/s][k%s]'(by rw[E _ (List.getElem_mem L)];exact aaQ _ ab),aau L,aau _⟩
   have Z:((List.range (B.length*s)).map fun k=>f (k/s) (k%s)).length=B.length*s:=by simp
   refine⟨(List.range (B.length*s)).map fun k=>f (k/s) (k%s),⟨some ⟨g,n,none⟩,cap,by simp,fun _=>⟨g,n,rfl,fun k x D=>?_⟩⟩,by simp,fun u hu=>?_,?_,?_⟩
   ·have z:k<B.length*s:=by have:=(aaf.1 D).1;rwa[Z]at this
    rw[u9,ado z]at D;simp at D;subst D;obtain⟨m,y,q,C⟩:=key k z;have:=hc _ m _ y q C;rw[<- this]
    congr 2
    have:=ab5 k s;rw[abj]at this;omega
   ·obtain⟨k,z,rfl⟩:=aai.1 hu;obtain⟨m,y,q,C⟩:=key k (by simpa using z);exact(I _ m _ y q C).one
   ·intro m q x D;simp at q;obtain⟨T,_,rfl⟩:=q;simp at D;obtain⟨x',_,rfl⟩:=D;rfl
   intro i m j y q C;rw[u9]at q;cases A:B[i]? with
   |none=>rw[A]at q;cases q
   |some T=>
    rw[A]at q;simp at q;subst q;rw[u9]at C;cases J:T[j]? with
    |none=>rw[J]at C;cases C
    |some y'=>
     rw[J]at C;simp at C;subst C;have hj:j<s:=by have:=(aaf.1 J).1;rwa[E T (u5 A)]at this
     have L:i<B.length:=(aaf.1 A).1;have z:i*s+j<B.length*s:=by
      have:(i+1)*s<=B.length*s:=aat _ L;rw[abg,ach]at this;omega
     refine⟨f i j,?_,(I i T j y' A J).one,I i T j y' A J⟩;rw[u9,ado z];simp[(Be (i:=i) hj).1,(Be (i:=i) hj).2]
 ·injection h with h
  subst h;have:=(aV hr).1;subst this;exact⟨[],rV sz _ _⟩
 ·rename_i a r n len;split at h
  ·rename_i o ho;split at h
   ·rename_i G;injection h with h
    subst h;simp only[aah]at G;obtain⟨o',g1,g2,g3⟩:=hr;rw[ho]at g1;injection g1 with g1
    subst g1;obtain⟨q1,q2,q3⟩:=ag a r o ho;rcases g3 with⟨gr,gv,gl,go⟩|⟨g,c,cap,gr,gv,_⟩
    ·subst gl go;rw[gr]at q3;simp only[q3,List.take_nil,List.drop_nil];rw[gv];exact⟨[],rV sz _ _⟩
    rw[gr]at q3;obtain⟨cells,p1,p2,p3,p4,p5⟩:=q3;have N:((o.elems.take (n+len)).drop n).length=len:=by simp;omega
    by_cases af:len=0
    ·subst af;have:(o.elems.take (n+0)).drop n=[]:=abC.1 N;rw[this,gv];exact⟨[],rV sz _ _⟩
    have M: ∀(i:Nat) m,((o.elems.take (n+len)).drop n)[i]?=some m->i<len/\o.elems[n+i]?=some m:=fun i m q=>by
     have L:=(aaf.1 q).1;rw[aaN,aaH]at q;split at q
     ·exact⟨by omega,q⟩
     cases q
    have E:o.es=sz:=by
     obtain⟨m,q⟩:=getElem?_of_lt (l:=(o.elems.take (n+len)).drop n) (k:=0) (by omega);have h1:=ac m (u5 q);have h2:=q1 m (u5 (M 0 m q).2);omega
    subst E;have ae:(n+len)*o.es<=cells.size:=by rw[p2];exact aat _ (by omega)
    rw[abg]at ae;have F: ∀k,k<len*o.es->((cells.toList.drop (n*o.es)).take (len*o.es))[k]?=cells[n*o.es+k]?:=fun k z=>by
     rw[aaH,if_pos z,aaN];simp
    have Q:((cells.toList.drop (n*o.es)).take (len*o.es)).length=len*o.es:=by simp;omega
    have key: ∀k,k<len*o.es-> ∃(m:List AV) (y:AV),o.elems[n+k/o.es]?=some m/\m[k%o.es]?=some y:=fun k z=>by
     have L:k/o.es<len:=acD (by rw[abj];exact z);have V:n+k/o.es<o.elems.length:=by omega
     refine⟨o.elems[n+k/o.es],o.elems[n+k/o.es][k%o.es]'(by rw[q1 _ (List.getElem_mem V)];exact aaQ _ q2),aau V,aau _⟩
    refine⟨(cells.toList.drop (n*o.es)).take (len*o.es),⟨some ⟨g,n*o.es,none⟩,cap,by rw[gv,N],fun _=>⟨g,n*o.es,rfl,fun k x D=>?_⟩⟩,by rw[Q,N],fun u hu=>?_,fun m q x D=>?_,fun i m j y q C=>?_⟩
    ·have z:k<len*o.es:=by have:=(aaf.1 D).1;rwa[Q]at this
     rw[F k z]at D;rw[cell_of_row _ g _ cells o.ty (0,0) p1];exact D
    ·obtain⟨k,z,hu⟩:=abA hu;have ad:=aaf.2 ⟨z,hu⟩;rw[Q]at z;rw[F k z]at ad;obtain⟨m,y,q,C⟩:=key k z;obtain⟨u',S,u2,u3⟩:=p5 _ m _ y q C;have W:(n+k/o.es)*o.es+k%o.es=n*o.es+k:=by
      rw[abg];have:=ab5 k o.es;rw[abj]at this;omega
     rw[W,ad]at S;injection S with S
     rw[S];exact u2
    ·exact G m (abr (abq q)) x D
    obtain⟨L,A⟩:=M i m q;have hj:j<o.es:=by have:=(aaf.1 C).1;rwa[q1 m (u5 A)]at this
    obtain⟨u,S,u2,u3⟩:=p5 _ m j y A C;refine⟨u,?_,u2,u3⟩;have z:i*o.es+j<len*o.es:=by
     have:(i+1)*o.es<=len*o.es:=aat _ L;rw[abg,ach]at this;omega
    rw[F _ z,<- S]
    congr 1
    rw[abg];omega
   cases h
  cases h
 cases h
theorem Tq {a:Nat} (E:a<=4999) (t:objRel ρ H b w a n q) (I:(H a)[n]?=some q) (J:AV.rel ρ H b w (.sl a n 0 q.elems.length) e):
  ∃A,w.ownsRow 0 q.ty q.es e q.elems.length A/\(∀(i:Nat) g (j:Nat) x,q.elems[i]?=some g->g[j]?=some x-> ∃u:Value,A[i*q.es+j]?=some u/\u.oneCell'=true/\x.rel ρ H b w u)/\e.ownBlock=(ρ a n).map (·.1):=by
 obtain⟨Q,Z,s⟩:=t;obtain⟨W,m,U,B⟩:=J;rw[I]at m;injection m with m
 subst m;rcases B with⟨l,p,D,_⟩|⟨f,c,cap,l,p,_,C⟩
 ·rw[l]at s;rw[p,l,D];refine⟨[],acT _ _ _ _,fun i g j x h=>?_,rfl⟩;rw[s]at h;simp at h
 rw[l]at s;obtain⟨cells,K,L,z,M,N⟩:=s;have G:(cells.toList.take (q.elems.length*q.es)).length=q.elems.length*q.es:=by
  have:q.elems.length*q.es<=c*q.es:=aat _ z;simp;omega
 refine⟨cells.toList.take (q.elems.length*q.es),⟨G,.inr ⟨f,c,cells,?_,aaW _,K,z,M,L,rfl⟩⟩,fun i g j x h y=>?_,?_⟩
 ·rw[p,ab2,C E,aeD]
 ·obtain⟨u,R,S,T⟩:=N i g j x h y;refine⟨u,?_,S,T⟩;have F:i<q.elems.length:=(aaf.1 h).1;have V:j<q.es:=by have:=(aaf.1 y).1;rwa[Q g (u5 h)]at this
  have:(i+1)*q.es<=q.elems.length*q.es:=aat _ F;rw[abg,ach]at this;rw[aaH,if_pos (by omega)];simpa using R
 rw[p,l];rfl
end
end
end Go.Proofs.YtalmoejhjceflaaGreat
