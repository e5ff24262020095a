/-
  Part 19 of a proof (walks and plain facts).
-/
import Derived.Test.YtfgeomlagfomgaaGreatDoorP17
set_option linter.all false
set_option maxRecDepth 100000
set_option maxHeartbeats 64000000
open Nat renaming reduceAdd → aa
open Go.Value renaming oneCell' → ab
open List renaming find?_cons → ac
open Go.Proofs.YtfgeomlagfomgaaGreatDoor.CallRes renaming plain → ae
open Nat renaming reduceEqDiff → af
open List renaming getElem?_cons_zero → ag
open List renaming getElem?_cons_succ → ah
open Nat renaming le_refl → ai
open List renaming replicate → aj
open Nat renaming le_trans → aI
namespace Go.Proofs.YtfgeomlagfomgaaGreatDoor
open Go.RowKit
section
def KI (k:Nat) (f:List Nat->Int):Prop:= ∀xs c d ys,xs.length+ys.length+2=k->f (xs++c::d::ys)= - f (xs++d::c::ys)
theorem KI.cons {k:Nat} {f:List Nat->Int} (h:KI (k+1) f) (c:Nat):KI k (fun l=>f (c::l)):=fun xs a b ys hl=>h (c::xs) a b ys (by simp;omega)
theorem A6 {r:Nat->Int}: ∀(cs:List Nat) {f g:List Nat->Int},(∀l,l.length+1=cs.length->f l= - g l)->fk r f cs= - fk r g cs
 |[],_,_,_=>rfl
 |c::cs,f,g,h=>by
  rw[fk,fk,h cs rfl,A6 cs (f:=fun l=>f (c::l)) (g:=fun l=>g (c::l)) (fun l hl=>h (c::l) (by simp;omega))]
  grind
theorem Au {r:Nat->Int}: ∀(xs:List Nat) (k:Nat) (f:List Nat->Int),KI k f-> ∀c d ys,xs.length+ys.length+2=k+1->fk r f (xs++c::d::ys)= - fk r f (xs++d::c::ys)
 |[],k,f,h,c,d,ys,hl=>by
  have e:=A6 (r:=r) ys (f:=fun l=>f (c::d::l)) (g:=fun l=>f (d::c::l)) (fun l hl'=>h [] c d l (by simp at hl⊢;omega))
  simp only[List.nil_append,fk]
  rw[e]
  grind
 |x::xs,k,f,h,c,d,ys,hl=>by
  obtain⟨k,rfl⟩: ∃k',k=k'+1:=⟨k-1,by simp at hl;omega⟩
  simp only[List.cons_append,fk]
  rw[Au xs k _ (h.cons x) c d ys (by simp at hl;omega),h xs c d ys (by simp at hl;omega)]
  grind
theorem zI (R:Nat->Nat->Int): ∀k,KI k (om R k)
 |0=>fun xs c d ys h=>by omega
 |k+1=>fun xs c d ys h=>Au xs k _ (zI R k) c d ys h
theorem vf {k:Nat} {f:List Nat->Int} (h:KI k f) (c:Nat) (ys:List Nat): ∀(xs zs:List Nat),zs.length+xs.length+ys.length+2=k->f (zs++c::(xs++c::ys))=0
 |[],zs,hl=>by
  have:=h zs c c ys (by simp at hl;omega)
  simp only[List.nil_append]
  omega
 |x::xs,zs,hl=>by
  have h1:=h zs c x (xs++c::ys) (by simp at hl⊢;omega)
  have h2:=vf h c ys xs (zs++[x]) (by simp at hl⊢;omega)
  rw[List.append_assoc]at h2
  simp only[List.cons_append,List.nil_append]at h1 h2⊢
  rw[h1,h2];rfl
/-! Columns. -/
theorem lX {r s:Nat->Int}: ∀(cs:List Nat) {f g:List Nat->Int},cs.Nodup->(∀c∈cs,r c=s c)->(∀l,l.length+1=cs.length->(∀c∈l,c∈cs)->l.Nodup->f l=g l)->fk r f cs=fk s g cs
 |[],_,_,_,_,_=>rfl
 |c::cs,f,g,hn,h,hf=>by
  obtain⟨hc,hn'⟩:=List.nodup_cons.1 hn
  rw[fk,fk,h c List.mem_cons_self,hf cs rfl (fun d hd=>List.mem_cons_of_mem _ hd) hn',lX cs hn' (fun d hd=>h d (List.mem_cons_of_mem _ hd)) (fun l hl hs hl2=>hf (c::l) (by simp;omega) (fun d hd=>by
   rcases List.mem_cons.1 hd with rfl|hd
   ·exact List.mem_cons_self
   exact List.mem_cons_of_mem _ (hs d hd)) (List.nodup_cons.2 ⟨fun h=>hc (hs c h),hl2⟩))]
def fb (R:Nat->Nat->Int) (a:Nat) (S:Nat->Int):Nat->Nat->Int:=fun i c=>if c=a then S i else R i c
theorem m9 (R:Nat->Nat->Int) (a:Nat):fb R a (fun i=>R i a)=R:=by
 funext i c
 unfold fb
 split
 ·rename_i h;rw[h]
 rfl
theorem A5 {a:Nat} {u t s s':Int} {r:Nat->Int}: ∀(cs:List Nat) (f fS fT:List Nat->Int),cs.Nodup->a∈cs->
  (∀l,l.length+1=cs.length->(∀c∈l,c∈cs)->l.Nodup->(a∈l->f l=u*fS l+t*fT l)/\(a∉l->fS l=f l/\fT l=f l))->
  fk (fun c=>if c=a then u*s+t*s' else r c) f cs=u*fk (fun c=>if c=a then s else r c) fS cs+t*fk (fun c=>if c=a then s' else r c) fT cs
 |[],_,_,_,_,h,_=>by simp at h
 |c::cs,f,fS,fT,hn,ha,h=>by
  obtain⟨hc,hn'⟩:=List.nodup_cons.1 hn
  have hsub: ∀l:List Nat,(∀c∈l,c∈cs)-> ∀d∈c::l,d∈c::cs:=fun l hs d hd=>by
   rcases List.mem_cons.1 hd with rfl|hd
   ·exact List.mem_cons_self
   exact List.mem_cons_of_mem _ (hs d hd)
  obtain⟨h1,h2⟩:=h cs rfl (fun d hd=>List.mem_cons_of_mem _ hd) hn'
  rw[fk,fk,fk]
  by_cases e:c=a
  ·subst e
   obtain⟨h3,h4⟩:=h2 hc
   have e0: ∀d∈cs,d≠c:=fun d hd e=>hc (e▸hd)
   have e1:fk (fun d=>if d=c then u*s+t*s' else r d) (fun l=>f (c::l)) cs=fk r (fun l=>u*fS (c::l)+t*fT (c::l)) cs:=
    lX cs hn' (fun d hd=>by simp[e0 d hd]) (fun l hl hs hl2=>(h (c::l) (by simp;omega) (hsub l hs) (List.nodup_cons.2 ⟨fun h=>hc (hs c h),hl2⟩)).1 List.mem_cons_self)
   have e2:fk (fun d=>if d=c then s else r d) (fun l=>fS (c::l)) cs=fk r (fun l=>fS (c::l)) cs:=lX cs hn' (fun d hd=>by simp[e0 d hd]) (fun _ _ _ _=>rfl)
   have e3:fk (fun d=>if d=c then s' else r d) (fun l=>fT (c::l)) cs=fk r (fun l=>fT (c::l)) cs:=lX cs hn' (fun d hd=>by simp[e0 d hd]) (fun _ _ _ _=>rfl)
   rw[e1,e2,e3,rY,h3,h4]
   simp only[if_pos]
   grind
  have ha':a∈cs:=by
   rcases List.mem_cons.1 ha with h|h
   ·exact absurd h.symm e
   exact h
  have ih:=A5 (u:=u) (t:=t) (s:=s) (s':=s') (r:=r) cs (fun l=>f (c::l)) (fun l=>fS (c::l)) (fun l=>fT (c::l)) hn' ha' (fun l hl hs hl2=>by
   obtain⟨q1,q2⟩:=h (c::l) (by simp;omega) (hsub l hs) (List.nodup_cons.2 ⟨fun h=>hc (hs c h),hl2⟩)
   exact⟨fun hal=>q1 (List.mem_cons_of_mem _ hal),fun hal=>q2 (fun h=>by
    rcases List.mem_cons.1 h with h|h
    ·exact e h.symm
    exact hal h)⟩)
  rw[ih,h1 ha']
  simp only[if_neg e]
  grind
theorem E4 {R:Nat->Nat->Int} {a:Nat} {u t:Int} {S T:Nat->Int}: ∀(k:Nat) (cs:List Nat),cs.Nodup->cs.length=k->a∈cs->
  om (fb R a (fun i=>u*S i+t*T i)) k cs=u*om (fb R a S) k cs+t*om (fb R a T) k cs
 |0,cs,_,hl,ha=>by rw[List.length_eq_zero_iff.1 hl]at ha;simp at ha
 |k+1,cs,hn,hl,ha=>by
  refine A5 (r:=R k) (s:=S k) (s':=T k) cs _ _ _ hn ha (fun l hl' hs hl2=>⟨fun hal=>E4 k l hl2 (by omega) hal,fun hal=>?_⟩)
  have hne: ∀c∈l,c≠a:=fun c hc e=>hal (e▸hc)
  exact⟨nt fun i _ c hc=>by simp[fb,hne c hc],nt fun i _ c hc=>by simp[fb,hne c hc]⟩
theorem A7 {r:Nat->Int} (p:Nat->Nat): ∀(cs:List Nat) (f:List Nat->Int),fk (fun c=>r (p c)) (fun l=>f (l.map p)) cs=fk r f (cs.map p)
 |[],_=>rfl
 |c::cs,f=>by
  rw[fk,List.map_cons,fk]
  have:=A7 (r:=r) p cs (fun l=>f (p c::l))
  rw[<- this]
  rfl
theorem E5 {R:Nat->Nat->Int} (p:Nat->Nat): ∀(k:Nat) (cs:List Nat),om (fun i c=>R i (p c)) k cs=om R k (cs.map p)
 |0,_=>rfl
 |k+1,cs=>by
  have e:om (fun i c=>R i (p c)) k=fun l=>om R k (l.map p):=funext (E5 p k)
  show fk (fun c=>R k (p c)) (om (fun i c=>R i (p c)) k) cs=_
  rw[e,A7 p cs (om R k)]
  rfl
theorem E6 {R:Nat->Nat->Int} {a b k:Nat} {cs:List Nat} (hn:cs.Nodup) (hl:cs.length=k) (ha:a∈cs) (hb:b∈cs) (hab:a≠b):om (fb R a (fun i=>R i b)) k cs=0:=by
 have e:fb R a (fun i=>R i b)=fun i c=>R i (if c=a then b else c):=by
  funext i c
  unfold fb
  split<;>rfl
 rw[e,E5 (R:=R) (fun c=>if c=a then b else c)]
 obtain⟨s,t,rfl⟩:=List.append_of_mem ha
 have hb':b∈s\/b∈t:=by
  rcases List.mem_append.1 hb with h|h
  ·exact .inl h
  rcases List.mem_cons.1 h with h|h
  ·exact absurd h.symm hab
  exact .inr h
 rcases hb' with h|h
 ·obtain⟨x,y,rfl⟩:=List.append_of_mem h
  simp only[List.map_append,List.map_cons,if_pos,if_neg (Ne.symm hab),List.append_assoc,List.cons_append]
  exact vf (zI R k) b _ _ _ (by simp at hl⊢;omega)
 obtain⟨x,y,rfl⟩:=List.append_of_mem h
 simp only[List.map_append,List.map_cons,if_pos,if_neg (Ne.symm hab)]
 exact vf (zI R k) b _ _ _ (by simp at hl⊢;omega)
theorem rB: ∀n,(mt n).length=n
 |0=>rfl
 |n+1=>by rw[mt,List.length_cons,rB n]
theorem pH: ∀n,(mt n).Nodup
 |0=>List.nodup_nil
 |n+1=>List.nodup_cons.2 ⟨fun h=>by have:=kJ h;omega,pH n⟩
theorem vt {n c:Nat} (h:c<n):c∈mt n:=by
 induction n with
 |zero=>omega
 |succ n ih=>
  by_cases e:c=n
  ·rw[e];exact List.mem_cons_self
  exact List.mem_cons_of_mem _ (ih (by omega))
section
variable {R:Nat->Nat->Int} {n a b:Nat} (ha:a<n)
include ha
theorem pI (u t:Int) (S T:Nat->Int):dk (fb R a (fun i=>u*S i+t*T i)) n=u*dk (fb R a S) n+t*dk (fb R a T) n:=E4 n _ (pH n) (rB n) (vt ha)
theorem rD (hb:b<n) (hab:a≠b):dk (fb R a (fun i=>R i b)) n=0:=E6 (pH n) (rB n) (vt ha) (vt hb) hab
theorem AO {S:Nat->Int} (h: ∀i,i<n->S i=0):dk (fb R a S) n=0:=by
 have h1:=pI (R:=R) (n:=n) ha 0 0 S S
 have h2:dk (fb R a S) n=dk (fb R a (fun i=>0*S i+0*S i)) n:=lf fun i j hi _=>by
  unfold fb
  split
  ·show S i=0*S i+0*S i
   rw[h i hi];rfl
  rfl
 rw[h2,h1];omega
theorem nd (hb:b<n) (hab:a≠b) (t:Int):dk (fb R a (fun i=>R i a+t*R i b)) n=dk R n:=by
 have h1:=pI (R:=R) (n:=n) ha 1 t (fun i=>R i a) (fun i=>R i b)
 rw[m9,rD ha hb hab]at h1
 simp only[Int.one_mul,Int.mul_zero,Int.add_zero]at h1
 exact h1
theorem uc:dk (fb R a (fun i=> - R i a)) n= - dk R n:=by
 have h1:=pI (R:=R) (n:=n) ha (-1) 0 (fun i=>R i a) (fun i=>R i a)
 rw[m9]at h1
 have e:(fun i=> -1*R i a+0*R i a)=fun i=> - R i a:=by funext i;omega
 rw[e]at h1
 rw[h1];omega
end
theorem rC {R:Nat->Nat->Int} {n a b:Nat} (ha:a<n) (hb:b<n) (hab:a≠b):dk (fun i c=>if c=a then R i b else if c=b then R i a else R i c) n= - dk R n:=by
 have h1:=nd (R:=R) ha hb hab 1
 generalize hR1:fb R a (fun i=>R i a+1*R i b)=R1 at h1
 have h2:=nd (R:=R1) hb ha (Ne.symm hab) (-1)
 generalize hR2:fb R1 b (fun i=>R1 i b+ -1*R1 i a)=R2 at h2
 have h3:=nd (R:=R2) ha hb hab 1
 generalize hR3:fb R2 a (fun i=>R2 i a+1*R2 i b)=R3 at h3
 have h4:=uc (R:=R3) hb
 rw[h3,h2,h1]at h4
 rw[<- h4]
 congr 1
 funext i c
 subst hR3 hR2 hR1
 unfold fb
 by_cases e1:c=a
 ·subst e1;simp[hab];omega
 by_cases e2:c=b
 ·subst e2;simp[Ne.symm hab];omega
 simp[e1,e2]
/-! Rows exchanged. -/
theorem JW (n:Nat):dk (fun i j=>if i=j then 1 else 0) n=1:=by
 induction n with
 |zero=>rfl
 |succ n ih=>
  rw[dS,bk,fk,nf (mt n) _ (fun c hc=>by have:=kJ hc;simp;omega)]
  unfold dk at ih
  rw[ih];simp
end
section
def PD (f:Nat->Nat->Int) (n:Nat):Prop:=SymF f n/\ ∀k,k<n->0<dk f (k+1)
theorem iY.pd {f:Nat->Nat->Int} {n:Nat} (h:iY f n):PD f n:=⟨h.1,h.2.1⟩
theorem PD.det {f:Nat->Nat->Int} {n:Nat} (h:PD f n):0<dk f n:=by
 cases n with
 |zero=>rw[gg];omega
 |succ n=>exact h.2 n (by omega)
variable {n:Nat}
theorem m5 {f:Nat->Nat->Int} {x y:Nat->Int} (h0: ∀i,i<n->x i=0):BF n f x y=0:=by
 unfold BF
 rw[bZ n (G:=fun _=>0) (fun i hi=>by rw[h0 i hi,Int.zero_mul]),fQ]
theorem PD.pos {f:Nat->Nat->Int} (hr:PD f n) (x:Nat->Int):0<=BF n f x x/\(BF n f x x=0↔ ∀i,i<n->x i=0):=by
 have h:=qc hr.1 hr.2 x n 0 rfl
 have e:BF n (bk f 0) x x=BF n f x x:=iy (fun i j _ _=>fX f i j) (fun _ _=>rfl) (fun _ _=>rfl)
 rw[e]at h
 exact⟨h.1,fun hz i hi=>h.2 hz i (by omega) hi,fun h0=>m5 h0⟩
theorem PD.schwarz {f:Nat->Nat->Int} (hr:PD f n) (x y:Nat->Int):BF n f x y*BF n f x y<=BF n f x x*BF n f y y:=by
 have hs:=nM hr.1 x y
 obtain⟨h1,h2⟩:=hr.pos y
 obtain⟨q,hq⟩: ∃q,q=BF n f x y:=⟨_,rfl⟩
 obtain⟨o,ho⟩: ∃o,o=BF n f y y:=⟨_,rfl⟩
 obtain⟨N,hN⟩: ∃N,N=BF n f x x:=⟨_,rfl⟩
 have hpos:=(hr.pos (fun i=>(0+o*x i)+(-q)*y i)).1
 have e:BF n f (fun i=>(0+o*x i)+(-q)*y i) (fun i=>(0+o*x i)+(-q)*y i)=o*(o*N-q*q):=by
  have ez: ∀u,BF n f (fun _=>0) u=0:=fun u=>m5 fun _ _=>rfl
  have ez': ∀u,BF n f u (fun _=>0)=0:=fun u=>by rw[nM hr.1,ez]
  rw[jc f (fun i=>0+o*x i) y,iE f (fun i=>0+o*x i) (fun i=>0+o*x i) y,iE f y (fun i=>0+o*x i) y,
   jc f (fun _=>0) x,jc f (fun _=>0) x,iE f x (fun _=>0) x,iE f y (fun _=>0) x,ez,ez,ez',ez',<- hs,<- hq,<- ho,<- hN]
  grind
 rw[e]at hpos
 rw[<- hq,<- ho,<- hN]
 rw[<- ho]at h1 h2
 rcases Int.lt_or_le 0 o with h|h
 ·rcases Int.lt_or_le (o*N-q*q) 0 with hl|hl
  ·have:=Int.mul_neg_of_pos_of_neg h hl
   omega
  have e2:N*o=o*N:=Int.mul_comm _ _
  omega
 have ho0:o=0:=by omega
 have hy:=h2.1 ho0
 have hq0:q=0:=by rw[hq,hs];exact m5 hy
 rw[hq0,ho0];simp
/-! The column of cofactors. -/
def eC (i:Nat):Nat->Int:=fun r=>if r=i then 1 else 0
def jj (f:Nat->Nat->Int) (n j:Nat):Nat->Int:=fun i=>dk (fb f j (eC i)) n
theorem Ky (S:Nat->Int) (m r:Nat):dK (fun i=>S i*eC i r) m=if r<m then S r else 0:=by
 induction m with
 |zero=>simp[dK]
 |succ m ih=>
  rw[dK,ih]
  unfold eC
  by_cases h:r=m
  ·subst h;simp
  have:r<m+1↔r<m:=by omega
  simp[h,this]
theorem qp {f:Nat->Nat->Int} {j:Nat} (hj:j<n) (S:Nat->Int): ∀m,dk (fb f j (fun r=>dK (fun i=>S i*eC i r) m)) n=dK (fun i=>S i*jj f n j i) m
 |0=>AO hj fun i _=>rfl
 |m+1=>by
  have h:=pI (R:=f) hj 1 (S m) (fun r=>dK (fun i=>S i*eC i r) m) (eC m)
  rw[qp hj S m]at h
  have e:(fun r=>dK (fun i=>S i*eC i r) (m+1))=fun r=>1*dK (fun i=>S i*eC i r) m+S m*eC m r:=by
   funext r;rw[dK,Int.one_mul]
  rw[e,h,dK,Int.one_mul];rfl
theorem Hi {f:Nat->Nat->Int} {j:Nat} (hj:j<n) (S:Nat->Int):dk (fb f j S) n=dK (fun i=>S i*jj f n j i) n:=by
 rw[<- qp hj S n]
 refine lf fun r c hr _=>?_
 unfold fb
 split
 ·show S r=dK (fun i=>S i*eC i r) n
  rw[Ky,if_pos hr]
 rfl
theorem At {f:Nat->Nat->Int} {j k:Nat} (hj:j<n) (hk:k<n):dK (fun i=>f i k*jj f n j i) n=if k=j then dk f n else 0:=by
 rw[<- Hi hj fun i=>f i k]
 split
 ·rename_i h;subst h;rw[m9]
 rename_i h;exact rD hj hk (Ne.symm h)
theorem uX {f:Nat->Nat->Int} (hs:SymF f n) {j:Nat} (hj:j<n) (x:Nat->Int):BF n f x (jj f n j)=x j*dk f n:=by
 unfold BF
 rw[bZ n (G:=fun i=>x i*(if i=j then dk f n else 0)) (fun i hi=>by
  rw[<- At hj hi]
  congr 1
  exact bZ n fun l hl=>by rw[hs i hi l hl])]
 rw[jg hj (fun p _ hne=>by rw[if_neg hne,Int.mul_zero]),if_pos rfl]
def vr (f:Nat->Nat->Int) (j m:Nat):Nat->Nat->Int:=fun i l=>if l=j then eC j i else if i=j/\l<m then 0 else f i l
theorem y8 {f:Nat->Nat->Int} {j:Nat} (hj:j<n): ∀m,m<=n->dk (vr f j m) n=jj f n j j
 |0,_=>by
  unfold jj
  congr 1
  funext i l
  unfold vr fb
  split
  ·rfl
  rw[if_neg (by omega)]
 |m+1,hm=>by
  rw[<- y8 hj m (by omega)]
  by_cases h:m=j
  ·congr 1
   funext i l
   unfold vr
   by_cases hl:l=j
   ·rw[if_pos hl,if_pos hl]
   rw[if_neg hl,if_neg hl]
   have:(i=j/\l<m+1)↔(i=j/\l<m):=by omega
   simp only[this]
  have h1:=nd (R:=vr f j m) (n:=n) (a:=m) (b:=j) (by omega) hj h (-(vr f j m j m))
  rw[<- h1]
  congr 1
  funext i l
  unfold fb
  by_cases hl:l=m
  ·subst hl
   rw[if_pos rfl]
   unfold vr eC
   by_cases hi:i=j
   ·subst hi;simp[h]<;>omega
   simp[h,hi]
  rw[if_neg hl]
  unfold vr
  split
  ·rfl
  have:(i=j/\l<m+1)↔(i=j/\l<m):=by omega
  simp only[this]
theorem wV (f:Nat->Nat->Int) (k:Nat):jj f (k+1) k k=dk f k:=by
 rw[<- y8 (by omega) (k+1) (ai _),dS,bk,fk,nf (mt k) _ (fun c hc=>by
  have:=kJ hc
  unfold vr
  rw[if_neg (by omega),if_pos ⟨rfl,by omega⟩])]
 have e:om (vr f k (k+1)) k (mt k)=dk f k:=nt fun i hi c hc=>by
  have:=kJ hc
  unfold vr
  rw[if_neg (by omega),if_neg (by omega)]
 rw[e]
 unfold vr eC
 simp
theorem C4 {f:Nat->Nat->Int} (hs:SymF f n) (hp: ∀x:Nat->Int,(∃i,i<n/\x i≠0)->0<BF n f x x):PD f n:=by
 refine⟨hs,fun k hk=>?_⟩
 have go: ∀k,k<=n->0<dk f k:=fun k=>by
  induction k with
  |zero=>intro _;rw[gg];omega
  |succ k ih=>
   intro hk
   have h0:=ih (by omega)
   have hsk:SymF f (k+1):=fun i hi j hj=>hs i (by omega) j (by omega)
   have h1:=uX (n:=k+1) hsk (j:=k) (by omega) (jj f (k+1) k)
   rw[wV]at h1
   have h2:=hp (fun i=>if i<k+1 then jj f (k+1) k i else 0) ⟨k,by omega,by simp[wV];omega⟩
   have e:BF n f (fun i=>if i<k+1 then jj f (k+1) k i else 0) (fun i=>if i<k+1 then jj f (k+1) k i else 0)=BF (k+1) f (jj f (k+1) k) (jj f (k+1) k):=by
    have ext: ∀(F:Nat->Int) (m:Nat),dK (fun i=>if i<k+1 then F i else 0) (k+1+m)=dK F (k+1):=fun F m=>by
     induction m with
     |zero=>exact bZ _ fun p hp=>if_pos hp
     |succ m ihm=>rw[<- Nat.add_assoc,dK,ihm,if_neg (by omega)];omega
    obtain⟨m,rfl⟩: ∃m,n=k+1+m:=⟨n-(k+1),by omega⟩
    unfold BF
    rw[<- ext (fun i=>jj f (k+1) k i*dK (fun j=>f i j*jj f (k+1) k j) (k+1)) m]
    refine bZ _ fun i _=>?_
    show(if i<k+1 then jj f (k+1) k i else 0)*dK (fun j=>f i j*(if j<k+1 then jj f (k+1) k j else 0)) _=_
    by_cases hi:i<k+1
    ·rw[if_pos hi,if_pos hi,<- ext (fun j=>f i j*jj f (k+1) k j) m]
     congr 1
     exact bZ _ fun j _=>by
      by_cases hj:j<k+1
      ·rw[if_pos hj,if_pos hj]
      rw[if_neg hj,if_neg hj,Int.mul_zero]
    rw[if_neg hi,if_neg hi,Int.zero_mul]
   rw[e,h1]at h2
   rcases Int.lt_or_le 0 (dk f (k+1))with h|h
   ·exact h
   have:=Int.mul_nonpos_of_nonneg_of_nonpos (Int.le_of_lt h0) h
   omega
 exact go (k+1) (by omega)
theorem rT {t:Nat->Nat->Int} (hd:dk t n≠0) {x:Nat->Int} (h: ∀i,i<n->dK (fun j=>t i j*x j) n=0): ∀j,j<n->x j=0:=fun j hj=>by
 have h1:dK (fun i=>dK (fun l=>t i l*x l) n*jj t n j i) n=0:=by
  rw[bZ n (G:=fun _=>0) (fun i hi=>by rw[h i hi,Int.zero_mul]),fQ]
 have h2:dK (fun i=>dK (fun l=>t i l*x l) n*jj t n j i) n=dK (fun l=>dK (fun i=>t i l*x l*jj t n j i) n) n:=by
  rw[<- lE]
  exact bZ n fun i _=>by rw[<- mU]
 have h3:dK (fun l=>dK (fun i=>t i l*x l*jj t n j i) n) n=dK (fun l=>x l*(if l=j then dk t n else 0)) n:=
  bZ n fun l hl=>by
   rw[<- At hj hl,<- d8]
   exact bZ n fun i _=>by grind
 rw[h2,h3,jg hj (fun p _ hne=>by rw[if_neg hne,Int.mul_zero]),if_pos rfl]at h1
 rcases Int.mul_eq_zero.1 h1 with h|h
 ·exact h
 exact absurd h hd
/-! Bounds. -/
def wz (r:Nat->Int):List Nat->Nat
 |[]=>0
 |c::cs=>(r c).natAbs+wz r cs
theorem xw {r:Nat->Int} {B:Nat}: ∀(cs:List Nat) (F:List Nat->Int),(∀l,l.Sublist cs->(F l).natAbs<=B)->(fk r F cs).natAbs<=wz r cs*B
 |[],_,_=>by simp[fk]
 |c::cs,F,h=>by
  rw[fk,wz,Nat.add_mul]
  have h1:=Int.natAbs_sub_le (r c*F cs) (fk r (fun l=>F (c::l)) cs)
  have h2:=xw (r:=r) cs (fun l=>F (c::l)) (fun l hl=>h (c::l) (List.Sublist.cons_cons c hl))
  rw[Int.natAbs_mul]at h1
  have h3:=Nat.mul_le_mul_left (r c).natAbs (h cs (List.sublist_cons_self c cs))
  omega
theorem Iu {r:Nat->Int} {l m:List Nat} (h:l.Sublist m):wz r l<=wz r m:=by
 induction h with
 |slnil=>exact ai _
 |cons a _ ih=>rw[wz];omega
 |cons_cons a _ ih=>rw[wz,wz];omega
def Jh (R:Nat->Nat->Int) (cs:List Nat):Nat->Nat
 |0=>1
 |k+1=>wz (R k) cs*Jh R cs k
theorem Bo (R:Nat->Nat->Int) (cs:List Nat): ∀k (l:List Nat),l.Sublist cs->(om R k l).natAbs<=Jh R cs k
 |0,l,_=>by simp[om,Jh]
 |k+1,l,hl=>by
  rw[om,Jh]
  have h:=xw (r:=R k) (B:=Jh R cs k) l (om R k) (fun m hm=>Bo R cs k m (hm.trans hl))
  exact aI h (Nat.mul_le_mul_right _ (Iu hl))
theorem Fl {R:Nat->Nat->Int} {cs:List Nat} {j A:Nat} (hr: ∀i,i<n->i≠j->wz (R i) cs<=A) (h1:wz (R j) cs<=1): ∀k,k<=n->Jh R cs k<=if j<k then A^(k-1)else A^k
 |0,_=>by simp[Jh]
 |k+1,hkn=>by
  have ih:=Fl hr h1 k (by omega)
  rw[Jh]
  by_cases h:k=j
  ·subst h
   rw[if_neg (by omega)]at ih
   rw[if_pos (by omega),Nat.add_sub_cancel]
   exact aI (Nat.mul_le_mul h1 ih) (by omega)
  have h2:=hr k (by omega) h
  by_cases hk:j<k
  ·rw[if_pos hk]at ih
   rw[if_pos (by omega),Nat.add_sub_cancel]
   obtain⟨m,rfl⟩: ∃m,k=m+1:=⟨k-1,by omega⟩
   rw[Nat.add_sub_cancel]at ih
   rw[Nat.pow_succ,Nat.mul_comm (A^m)]
   exact Nat.mul_le_mul h2 ih
  rw[if_neg hk]at ih
  rw[if_neg (by omega),Nat.pow_succ,Nat.mul_comm (A^k)]
  exact Nat.mul_le_mul h2 ih
theorem FB {r:Nat->Int} {B j:Nat} (h0:r j=0): ∀m,(∀c,c<m->(r c).natAbs<=B)->wz r (mt m)<=if j<m then(m-1)*B else m*B
 |0,_=>by simp[mt,wz]
 |m+1,h=>by
  have ih:=FB h0 m (fun c hc=>h c (by omega))
  rw[mt,wz]
  by_cases e:m=j
  ·subst e
   rw[if_neg (by omega)]at ih
   rw[if_pos (by omega),h0,Nat.add_sub_cancel]
   simpa using ih
  have h2:=h m (by omega)
  by_cases hk:j<m
  ·rw[if_pos hk]at ih
   rw[if_pos (by omega),Nat.add_sub_cancel]
   have:m*B=(m-1)*B+B:=by
    obtain⟨q,rfl⟩: ∃q,m=q+1:=⟨m-1,by omega⟩
    rw[Nat.add_sub_cancel,Nat.add_mul,Nat.one_mul]
   omega
  rw[if_neg hk]at ih
  rw[if_neg (by omega),Nat.add_mul,Nat.one_mul];omega
theorem x6 {r:Nat->Int} {j:Nat} (h1:r j=1): ∀m,(∀c,c<m->c≠j->r c=0)->wz r (mt m)<=if j<m then 1 else 0
 |0,_=>by simp[mt,wz]
 |m+1,h0=>by
  have ih:=x6 h1 m (fun c hc=>h0 c (by omega))
  rw[mt,wz]
  by_cases e:m=j
  ·subst e
   rw[if_neg (by omega)]at ih
   rw[if_pos (by omega),h1]
   have:(1:Int).natAbs=1:=rfl
   omega
  rw[h0 m (by omega) e]
  by_cases hk:j<m
  ·rw[if_pos hk]at ih
   rw[if_pos (by omega)]
   simpa using ih
  rw[if_neg hk]at ih
  rw[if_neg (by omega)]
  simpa using ih
theorem JH {f:Nat->Nat->Int} {j B:Nat} (hj:j<n) (hf: ∀a b,a<n->b<n->(f a b).natAbs<=B):(jj f n j j).natAbs<=(n*B)^(n-1):=by
 rw[<- y8 hj n (ai _)]
 have h1:=Bo (vr f j n) (mt n) n (mt n) (List.Sublist.refl _)
 have hrow: ∀i,i<n->i≠j->wz (vr f j n i) (mt n)<=n*B:=fun i hi hij=>by
  have:=FB (r:=vr f j n i) (B:=B) (j:=j) (by unfold vr eC;simp[hij]) n (fun c hc=>by
   unfold vr eC
   split
   ·simp[hij]
   rw[if_neg (fun h=>hij h.1)];exact hf i c hi hc)
  rw[if_pos hj]at this
  exact aI this (Nat.mul_le_mul_right _ (by omega))
 have hu:=x6 (r:=vr f j n j) (j:=j) (by unfold vr eC;simp) n (fun c hc hne=>by
  unfold vr
  rw[if_neg hne,if_pos ⟨rfl,hc⟩])
 rw[if_pos hj]at hu
 have h2:=Fl (n:=n) hrow hu n (ai _)
 rw[if_pos hj]at h2
 exact aI h1 h2
theorem Eb {f:Nat->Nat->Int} {j B:Nat} (hr:PD f n) (hj:j<n) (hf: ∀a b,a<n->b<n->(f a b).natAbs<=B) (x:Nat->Int) {N:Int} (hN:BF n f x x<=N):x j*x j<=N*((n*B)^(n-1):Nat):=by
 have h1:=hr.schwarz x (jj f n j)
 rw[uX hr.1 hj,uX hr.1 hj]at h1
 have hd:=hr.det
 have h2:=JH hj hf
 have hx0:=(hr.pos x).1
 have hy0:=(hr.pos (jj f n j)).1
 rw[uX hr.1 hj]at hy0
 generalize jj f n j j=a at*
 generalize dk f n=d at*
 generalize BF n f x x=M at*
 generalize(n*B)^(n-1)=A at*
 have ha:0<=a:=by
  rcases Int.lt_or_le a 0 with h|h
  ·have:=Int.mul_neg_of_neg_of_pos h hd;omega
  exact h
 have e1:x j*d*(x j*d)=(x j*x j*d)*d:=by grind
 have e2:M*(a*d)=(M*a)*d:=by grind
 rw[e1,e2]at h1
 have h3:=Int.le_of_mul_le_mul_right h1 hd
 have hsq:0<=x j*x j:=by
  rcases Int.le_total 0 (x j)with h|h
  ·exact Int.mul_nonneg h h
  exact Int.mul_nonneg_of_nonpos_of_nonpos h h
 have h4:x j*x j*1<=x j*x j*d:=Int.mul_le_mul_of_nonneg_left hd hsq
 have h5:M*a<=N*a:=Int.mul_le_mul_of_nonneg_right hN ha
 have h6:N*a<=N*(A:Int):=Int.mul_le_mul_of_nonneg_left (by omega) (by omega)
 omega
end
def dg (code j:Nat):Int:=((code/3^j%3:Nat):Int)-1
theorem AK (code j:Nat): -1<=dg code j/\dg code j<=1:=by
 have:=Nat.mod_lt (code/3^j) (show 0<3 by omega)
 unfold dg;omega
def cnd (i code:Nat):Nat->Int:=fun j=>if j<i then dg code j else if j=i then 1 else 0
def nrm (n:Nat) (f:Nat->Nat->Int) (x:Nat->Int):Int:=BF n f x x
theorem ja {n:Nat} {f:Nat->Nat->Int} {x y:Nat->Int} (h: ∀i,i<n->x i=y i):nrm n f x=nrm n f y:=iy (fun _ _ _ _=>rfl) h h
theorem kP {n:Nat} {f:Nat->Nat->Int} {i:Nat} (hi:i<n):nrm n f (eC i)=f i i:=by
 have e: ∀F:Nat->Int,dK (fun j=>F j*eC i j) n=F i:=fun F=>by
  rw[jg hi (fun p _ hne=>by unfold eC;rw[if_neg hne,Int.mul_zero])]
  unfold eC;rw[if_pos rfl,Int.mul_one]
 unfold nrm BF
 rw[bZ n (G:=fun k=>f k i*eC i k) (fun k _=>by rw[e (f k)];exact Int.mul_comm _ _),e fun k=>f k i]
def kT (n:Nat) (f:Nat->Nat->Int) (i:Nat):Nat->Nat->Int
 |0=>eC i
 |k+1=>if nrm n f (cnd i k)<nrm n f (kT n f i k)then cnd i k else kT n f i k
theorem FX {n:Nat} {f:Nat->Nat->Int} {i:Nat} (hi:i<n): ∀k,nrm n f (kT n f i k)<=f i i/\ ∀c,c<k->nrm n f (kT n f i k)<=nrm n f (cnd i c)
 |0=>⟨by rw[kT,kP hi];omega,fun c hc=>by omega⟩
 |k+1=>by
  obtain⟨h1,h2⟩:=FX (f:=f) hi k
  by_cases h:nrm n f (cnd i k)<nrm n f (kT n f i k)
  ·rw[show kT n f i (k+1)=cnd i k from if_pos h]
   refine⟨by omega,fun c hc=>?_⟩
   by_cases e:c=k
   ·subst e;omega
   have:=h2 c (by omega);omega
  rw[show kT n f i (k+1)=kT n f i k from if_neg h]
  refine⟨h1,fun c hc=>?_⟩
  by_cases e:c=k
  ·subst e;omega
  exact h2 c (by omega)
def VioP (n:Nat) (f:Nat->Nat->Int) (i:Nat):Prop:= ∃c,c<3^i/\nrm n f (cnd i c)<f i i
theorem yh {n:Nat} {f:Nat->Nat->Int} {i:Nat} (hi:i<n): ∀k,(∀c,c<k->f i i<=nrm n f (cnd i c))->kT n f i k=eC i
 |0,_=>rfl
 |k+1,h=>by
  have ih:=yh hi k fun c hc=>h c (by omega)
  have:=h k (by omega)
  rw[kT,ih,kP hi,if_neg (by omega)]
theorem z7 {n:Nat} {f:Nat->Nat->Int} {i:Nat} (hi:i<n) (h:VioP n f i):nrm n f (kT n f i (3^i))<f i i:=by
 obtain⟨c,h1,h2⟩:=h
 have:=(FX (f:=f) hi (3^i)).2 c h1
 omega
theorem IH {n:Nat} {f:Nat->Nat->Int} {i:Nat} (hi:i<n):(∀j,j<n->kT n f i (3^i) j=eC i j)↔ ¬VioP n f i:=by
 constructor
 ·intro h hv
  have h1:=z7 hi hv
  rw[ja h,kP hi]at h1
  omega
 intro h j _
 rw[yh hi (3^i) fun c hc=>by
  rcases Int.lt_or_le (nrm n f (cnd i c)) (f i i)with hl|hl
  ·exact absurd ⟨c,hc,hl⟩ h
  exact hl]
theorem Bz (n:Nat) (f:Nat->Nat->Int) (i:Nat): ∀k,kT n f i k=eC i\/ ∃c,c<k/\kT n f i k=cnd i c
 |0=> .inl rfl
 |k+1=>by
  rw[kT]
  split
  ·exact .inr ⟨k,by omega,rfl⟩
  rcases Bz n f i k with h|⟨c,hc,h⟩
  ·exact .inl h
  exact .inr ⟨c,by omega,h⟩
theorem sU (n:Nat) (f:Nat->Nat->Int) (i k:Nat):kT n f i k i=1/\(∀j,i<j->kT n f i k j=0)/\ ∀j,-1<=kT n f i k j/\kT n f i k j<=1:=by
 rcases Bz n f i k with h|⟨c,_,h⟩<;>rw[h]
 ·refine⟨by simp[eC],fun j hj=>by unfold eC;rw[if_neg (by omega)],fun j=>by unfold eC;split<;>omega⟩
 refine⟨by simp[cnd],fun j hj=>by unfold cnd;rw[if_neg (by omega),if_neg (by omega)],fun j=>?_⟩
 unfold cnd
 split
 ·exact AK c j
 split<;>omega
def iM (f:Nat->Nat->Int) (n:Nat):Prop:=(∀i,i+1<n->f i i<=f (i+1) (i+1)/\0<=f i (i+1))/\ ∀i,i<n-> ¬VioP n f i
theorem AE {d:Nat->Int} (h: ∀j,-1<=d j/\d j<=1): ∀i,∃c,c<3^i/\ ∀j,j<i->dg c j=d j
 |0=>⟨0,by simp,fun j hj=>by omega⟩
 |i+1=>by
  obtain⟨c,h1,h2⟩:=AE h i
  have hd:=h i
  refine⟨c+3^i*(d i+1).toNat,?_,fun j hj=>?_⟩
  ·have:(d i+1).toNat<=2:=by omega
   have:=Nat.mul_le_mul_left (3^i) this
   rw[Nat.pow_succ];omega
  by_cases e:j=i
  ·subst e
   unfold dg
   rw[Nat.add_mul_div_left _ _ (Nat.pow_pos (by omega)),Nat.div_eq_of_lt h1,Nat.zero_add,Nat.mod_eq_of_lt (by omega)]
   omega
  rw[<- h2 j (by omega)]
  unfold dg
  congr 2
  obtain⟨m,hm⟩: ∃m,i=j+1+m:=⟨i-(j+1),by omega⟩
  have e1:3^i*(d i+1).toNat=3^j*(3*(3^m*(d i+1).toNat)):=by
   rw[hm,Nat.pow_add,Nat.pow_succ];simp[Nat.mul_assoc]
  rw[e1,Nat.add_mul_div_left _ _ (Nat.pow_pos (by omega)),Nat.add_mul_mod_self_left]
theorem Gn {n:Nat} {f:Nat->Nat->Int} {i:Nat} (hi:i<n) {x:Nat->Int} (hb: ∀j,j<i-> -1<=x j/\x j<=1) (h1:x i=1) (h0: ∀j,i<j->j<n->x j=0) (hl:nrm n f x<f i i):VioP n f i:=by
 obtain⟨c,hc,hd⟩:=AE (d:=fun j=>if j<i then x j else 0) (fun j=>by
  split
  ·rename_i h;exact hb j h
  omega) i
 refine⟨c,hc,?_⟩
 rw[ja (y:=x)]
 ·exact hl
 intro j hj
 unfold cnd
 split
 ·rename_i h;rw[hd j h,if_pos h]
 split
 ·rename_i h;rw[h,h1]
 rw[h0 j (by omega) hj]
def Gy (s:Nat->Int) (f:Nat->Nat->Int):Nat->Nat->Int:=fun i j=>s i*s j*f i j
theorem H9 {n:Nat} {s:Nat->Int} {f:Nat->Nat->Int} (x:Nat->Int):nrm n (Gy s f) x=nrm n f (fun i=>s i*x i):=by
 unfold nrm BF Gy
 refine bZ n fun i _=>?_
 rw[<- d8,<- d8]
 exact bZ n fun j _=>by grind
theorem IW {n:Nat} {s:Nat->Int} {f:Nat->Nat->Int} (hs: ∀i,s i=1\/s i= -1) {i:Nat} (hi:i<n) (h:VioP n (Gy s f) i):VioP n f i:=by
 obtain⟨c,hc,hl⟩:=h
 rw[H9]at hl
 have hii:Gy s f i i=f i i:=by unfold Gy;rcases hs i with e|e<;>rw[e]<;>omega
 rw[hii]at hl
 have hneg: ∀y:Nat->Int,nrm n f (fun j=>s i*y j)=nrm n f y:=fun y=>by
  rcases hs i with e|e
  ·exact ja fun j _=>by simp only[e];omega
  unfold nrm BF
  refine bZ n fun k _=>?_
  simp only[e]
  rw[<- d8,<- d8]
  exact bZ n fun j _=>by grind
 rw[<- hneg]at hl
 refine Gn hi (x:=fun j=>s i*(s j*cnd i c j)) (fun j hj=>?_) ?_ (fun j hj _=>?_) hl
 ·have:=AK c j
  simp only[cnd,if_pos hj]
  rcases hs i with e|e<;>rcases hs j with e'|e'<;>rw[e,e']<;>omega
 ·simp only[cnd,Nat.lt_irrefl,if_false,if_true]
  rcases hs i with e|e<;>rw[e]<;>omega
 simp only[cnd]
 rw[if_neg (by omega),if_neg (by omega)];simp
def a4 (c:Nat->Int):List AV:=[.p (.raw (.int .i64 (c 0))),.p (.raw (.int .i64 (c 1))),.p (.raw (.int .i64 (c 2))),.p (.raw (.int .i64 (c 3)))]
theorem fL (c:Nat->Int):(a4 c).length=4:=rfl
theorem kZ (c:Nat->Int):(a4 c).all bf=true:=rfl
theorem pD (c:Nat->Int) (d:Nat):(a4 c).map (bM d)=a4 c:=rfl
theorem ic (c:Nat->Int):(a4 c).all isPure=true:=rfl
theorem iO (c:Nat->Int):(a4 c).take 4=a4 c:=rfl
theorem mv (c:Nat->Int):(a4 c).drop 4=[]:=rfl
theorem u9 (c:Nat->Int) {i:Nat} (h:i<4):(a4 c).drop (i*1)= .p (.raw (.int .i64 (c i)))::(a4 c).drop (i+1):=by
 match i,h with
 |0,_=>rfl
 |1,_=>rfl
 |2,_=>rfl
 |3,_=>rfl
def KH (c:Nat->Int) (i:Nat) (v:Int):Nat->Int:=fun j=>if j=i then v else c j
theorem vd (c:Nat->Int) {i:Nat} (v:Int) (h:i<4):(a4 c).take (i*1)++[.p (.raw (.int .i64 v))]++(a4 c).drop (i*1+1)=a4 (KH c i v):=by
 match i,h with
 |0,_=>rfl
 |1,_=>rfl
 |2,_=>rfl
 |3,_=>rfl
theorem oE {c c':Nat->Int} (h: ∀j,j<4->c j=c' j):a4 c=a4 c':=by
 unfold a4
 rw[h 0 (by omega),h 1 (by omega),h 2 (by omega),h 3 (by omega)]
abbrev yD (c:Nat->Int):List OObj:=[⟨62,4,[a4 c]⟩]
abbrev tC (c:Nat->Int):TV:= .agg (a4 c)
structure Mb (i code:Nat) where
 j:Nat
 hj:j<=i
def G0 (code j:Nat):Nat->Int:=fun l=>if l<j then dg code l else 0
theorem D5 (code:Nat):a4 (G0 code 0)=a4 (fun _=>0):=oE fun j _=>if_neg (by omega)
theorem D4 (code j:Nat):a4 (KH (G0 code j) j (dg code j))=a4 (G0 code (j+1)):=oE fun l _=>by
 unfold KH G0
 by_cases h:l=j
 ·subst h;simp
 by_cases h2:l<j
 ·simp[h,h2,show l<j+1 by omega]
 simp[h,h2,show ¬l<j+1 by omega]
theorem G3 (code i:Nat):a4 (KH (G0 code i) i 1)=a4 (cnd i code):=oE fun l _=>by
 unfold KH G0 cnd
 by_cases h:l=i
 ·subst h;simp
 by_cases h2:l<i<;>simp[h,h2]
theorem vS (i code:Nat) (hi:i<4) (hcode:code<1000):CallC Tryz.prog 120 [.raw (.int .i64 (i:Int)),.raw (.int .i64 (code:Int))] ⟨[],tC (cnd i code)⟩:=by
 refine bG Tryz.func120 rfl (by kernel_rfl) ?_;rw[Tryz.ntmps120]
 (refine aL [] fun K hK=>?_;simp(disch:=omega) only[kc,aM,aa,aj,cy,bU,bI,fJ,ab,cQ];apply hK)
 (refine aL [] fun K hK=>?_;simp(disch:=omega) only[kc,aM,cy,bU,bI,fJ,ab,aa,cQ,bD,af];apply hK)
 (refine aP (aL [] fun K hK=>?_);simp(disch:=omega) only[kc,aM,aN,ab];apply hK)
 refine cC (G:=Mb i code) (fun g=>⟨[.raw (.int .i64 (i:Int)),.raw (.int .i64 ((code/3^g.j:Nat):Int)),jk,jk,.one (.ptr 4 0 0 0),.one (.ptr 5 0 0 0),jk,.raw (.int .i64 (i:Int)),.raw (.int .i64 (g.j:Int)),jk,jk,jk,jk,jk,jk,jk,jk,jk,jk,jk,jk,jk],Hm [(4,yD fun _=>0),(5,yD (G0 code g.j))]⟩) (fun g=>i-g.j) ⟨0,by omega⟩ ?_ ?_
 ·rw[Nat.pow_zero,Nat.div_one]
  refine aT ⟨rfl,?_,trivial⟩ ?_
  ·show _=[_]
   rw[D5];rfl
  simp[di,b9,b8]
 rintro⟨j,hj⟩
 simp only
 by_cases hm:j<i
 ·have hj4:j<4:=by omega
  obtain⟨q,hq⟩: ∃q,q=code/3^j:=⟨_,rfl⟩
  have hq3:code/3^(j+1)=q/3:=by rw[Nat.pow_succ,hq,Nat.div_div_eq_div_mul]
  have hdg:dg code j=((q%3:Nat):Int)-1:=by rw[hq];rfl
  have hqle:q<=code:=by rw[hq];exact Nat.div_le_self _ _
  rw[<- hq]
  have e1:Int.tmod (q:Int) 3=((q%3:Nat):Int):=(Int.ofNat_tmod q 3).symm
  have e2:IntKind.i64.wrap (Int.tdiv (q:Int) 3)=((q/3:Nat):Int):=by
   rw[Int.tdiv_eq_ediv_of_nonneg (by omega),IntKind.wrap_i64];omega
  have e3:IntKind.i64.wrap (((q%3:Nat):Int)-1)=dg code j:=by rw[hdg,IntKind.wrap_i64];omega
  have a1:=vd (G0 code j) (dg code j) hj4
  rw[D4]at a1
  (refine aL [] fun K hK=>?_;simp(disch:=omega) only[kc,aM,Hm,aU,aO,aR,aX,aS,cw];apply hK)
  refine aP (bJ rfl (bi ?_))
  refine aP (bA ?_)
  (refine aL [] fun K hK=>?_;simp(disch:=omega) only[kc,aM];apply hK)
  (refine aL [] fun K hK=>?_;simp(disch:=omega) only[kc,aM,aa,aU,aO,aR,aX,aN,ab,aS,e1,cQ,e3,aQ,aZ,aW,jw,lH,dJ,hj4,bo,ew,cU,af,cellsOf,fL,Nat.reduceLeDiff,isPure,and_true,bu,a1,bz,bx];apply hK)
  ((refine bK [] [] (by simp) fun K hK=>?_);simp(disch:=omega) only[kc,aM,aa,aU,aO,aR,aX,aN,ab,aS,e2,cQ];apply hK)
  show da _ _ _ _
  ((refine bK [] [] (by simp) fun K hK=>?_);simp(disch:=omega) only[kc,aM,aU,aO,aR,aX,aN,ab,aS,cd];apply hK)
  refine⟨⟨j+1,by omega⟩,by simp only;omega,aT ⟨rfl,rfl,trivial⟩ ?_⟩
  rw[hq3]
  simp[di,b9,b8]
 have hji:j=i:=by omega
 subst hji
 have a1:=vd (G0 code j) 1 hi
 rw[G3]at a1
 (refine aL [] fun K hK=>?_;simp(disch:=omega) only[kc,aM,Hm,aU,aO,aR,aX,aS,cp];apply hK)
 refine aP (bL rfl (ck ?_))
 show da _ _ _ _
 (refine aL [] fun K hK=>?_;simp(disch:=omega) only[kc,aM,aa,aQ,aZ,aW,jw,lH,dJ,hi,bo,ew,cU,af,aN,ab,cellsOf,fL,Nat.reduceLeDiff,isPure,and_true,bu,a1,cQ,bz,bx];apply hK)
 (refine aL [] fun K hK=>?_;simp(disch:=omega) only[kc,aM,aZ,bD,af,d4,packT,fF,gO,fL,ai,iO,bo,ew,cU,cellsOf,ic,cQ,bu,mv,bz,bx];apply hK)
 (refine bC ⟨.inr rfl,bF rfl ?_ rfl⟩;simp(disch:=omega) only[cH,Tryz.results120,bH,ah,ag,bD,af,d4,if_false,if_true,packT,fF,gO,List.drop_zero,fL,ai,iO,tC])
def H4 (f:Nat->Nat->Int) (c:Nat->Int) (a b:Nat):Int:=f a b*c a*c b
def nS (n:Nat) (f:Nat->Nat->Int) (c:Nat->Int) (i j:Nat):Int:=dK (fun a=>dK (H4 f c a) n) i+dK (H4 f c i) j
theorem EW (n:Nat) (f:Nat->Nat->Int) (c:Nat->Int) (i:Nat):nS n f c i n=nS n f c (i+1) 0:=by
 unfold nS;rw[dK,dK,Int.add_zero]
theorem EV (n:Nat) (f:Nat->Nat->Int) (c:Nat->Int):nS n f c n 0=nrm n f c:=by
 unfold nS nrm BF
 rw[dK,Int.add_zero]
 refine bZ n fun i _=>?_
 rw[<- d8]
 exact bZ n fun j _=>by unfold H4;grind
theorem j9 {x c B:Int} (hc: -1<=c/\c<=1) (hx: -B<=x/\x<=B): -B<=x*c/\x*c<=B:=by
 have:c= -1\/c=0\/c=1:=by omega
 rcases this with rfl|rfl|rfl
 ·rw[Int.mul_neg,Int.mul_one];omega
 ·rw[Int.mul_zero];omega
 rw[Int.mul_one];exact hx
theorem Bl {n:Nat} {f:Nat->Nat->Int} {c:Nat->Int} {B:Int} (hf: ∀i j,i<n->j<n-> -B<=f i j/\f i j<=B) (hc: ∀j,-1<=c j/\c j<=1) {i j:Nat} (hi:i<n) (hj:j<=n):
  -(((i:Int)+1)*((n:Int)*B))<=nS n f c i j/\nS n f c i j<=((i:Int)+1)*((n:Int)*B):=by
 have hB:0<=B:=by have:=hf i i hi hi;omega
 have ht: ∀a b,a<n->b<n-> -B<=H4 f c a b/\H4 f c a b<=B:=fun a b ha hb=>j9 (hc b) (j9 (hc a) (hf a b ha hb))
 have h1:=wq (F:=fun a=>dK (H4 f c a) n) (B:=(n:Int)*B) i fun p hp=>wq n fun b hb=>ht p b (by omega) hb
 have h2:=wq (F:=H4 f c i) (B:=B) j fun b hb=>ht i b hi (by omega)
 have h3:(j:Int)*B<=(n:Int)*B:=Int.mul_le_mul_of_nonneg_right (by omega) hB
 unfold nS
 rw[Int.add_mul,Int.one_mul]
 omega
theorem Bc (n:Nat) (f:Nat->Nat->Int) (c:Nat->Int) (hn1:1<=n) (hn:n<=4) (hf: ∀i j,i<n->j<n-> -1125899906842624<=f i j/\f i j<=1125899906842624) (hc: ∀j,-1<=c j/\c j<=1):
  CallC Tryz.prog 121 [dx (dC n n f),tC c] ⟨[],.raw (.int .i64 (nrm n f c))⟩:=by
 have hml:=cT n n f
 refine bG Tryz.func121 rfl (by kernel_rfl) ?_;rw[Tryz.ntmps121]
 (refine aL [] fun K hK=>?_;simp(disch:=omega) only[kc,aM,dx,tC,aa,aj,dP,bU,bI,cellsOf,ic,fL,cQ,aN,ab];apply hK)
 (refine aL [] fun K hK=>?_;simp(disch:=omega) only[kc,aM,aN,ab];apply hK)
 (refine aP (aL [] fun K hK=>?_);simp(disch:=omega) only[kc,aM,aa,be,aZ,bv,bE,hml,aN,ab];apply hK)
 refine cC (G:=ov n) (fun g=>⟨[jk,jk,jk,.one (.ptr 3 0 0 0),jk,.raw (.int .i64 (nS n f c g.i 0)),jk,jk,jk,jk,dx (dC n n f),.raw (.int .i64 (n:Int)),.raw (.int .i64 (g.i:Int)),jk,jk,jk,jk,jk,jk,jk,jk,jk,jk,jk,jk,jk,jk,jk,jk,jk,jk,jk,jk,jk,jk,jk,jk,jk],Hm [(3,yD c)]⟩) (fun g=>n-g.i) ⟨0,by omega⟩ ?_ ?_
 ·refine aT ⟨rfl,trivial⟩ ?_
  simp[di,b9,b8,nS,dK]
 rintro⟨i,hi⟩
 simp only
 by_cases hm:i<n
 ·have hr:=dm n f hm
  have hi4:i<4:=by omega
  have hrl:=dj n (f i)
  (refine aL [] fun K hK=>?_;simp(disch:=omega) only[kc,aM,dx,Hm,aU,aO,aR,aX,aS,cw];apply hK)
  refine aP (bJ rfl (bi ?_))
  refine aP (bA ?_)
  (refine aL [] fun K hK=>?_;simp(disch:=omega) only[kc,aM,aa,aQ,aZ,aW,bv,ch,hr,fR,db,packT,dc];apply hK)
  (refine aL [] fun K hK=>?_;simp(disch:=omega) only[kc,aM,aa,be,aZ,ca,bE,hrl,aN,ab];apply hK)
  refine cC (G:=ov n) (fun g=>⟨[jk,jk,jk,.one (.ptr 3 0 0 0),jk,.raw (.int .i64 (nS n f c i g.i)),.raw (.int .i64 (i:Int)),jk,jk,jk,dx (dC n n f),.raw (.int .i64 (n:Int)),.raw (.int .i64 (i:Int)),jk,jk,jk,jk,.one (.p (.sl (ls fI (dz n (f i))))),.raw (.int .i64 (n:Int)),.raw (.int .i64 (g.i:Int)),jk,jk,jk,jk,jk,jk,jk,jk,jk,jk,jk,jk,jk,jk,jk,jk,jk,jk],Hm [(3,yD c)]⟩) (fun g=>n-g.i) ⟨0,by omega⟩ ?_ ?_
  ·refine aT ⟨rfl,trivial⟩ ?_
   simp[di,b9,b8]
  rintro⟨j,hj⟩
  simp only
  by_cases hjn:j<n
  ·have hg:=cu (f i) hjn
   have hj4:j<4:=by omega
   have b1:=hf i j hm hjn
   have b2:=j9 (hc i) b1
   have b3:=j9 (hc j) b2
   have b4:=Bl hf hc hm hj
   have b5:=Bl hf hc hm (j:=j+1) (by omega)
   have e1:IntKind.i64.wrap (f i j*c i)=f i j*c i:=cd (by omega) (by omega)
   have e2:IntKind.i64.wrap (f i j*c i*c j)=f i j*c i*c j:=cd (by omega) (by omega)
   have e4:nS n f c i j+f i j*c i*c j=nS n f c i (j+1):=by
    unfold nS
    rw[dK,show H4 f c i j=f i j*c i*c j from rfl,Int.add_assoc]
   have hb:((i:Int)+1)*((n:Int)*1125899906842624)<=18014398509481984:=by
    have:((i:Int)+1)*((n:Int)*1125899906842624)<=4*((n:Int)*1125899906842624):=Int.mul_le_mul_of_nonneg_right (by omega) (by omega)
    omega
   have e3:IntKind.i64.wrap (nS n f c i (j+1))=nS n f c i (j+1):=cd (by omega) (by omega)
   have d1:=u9 c hi4
   have d2:=u9 c hj4
   (refine aL [] fun K hK=>?_;simp(disch:=omega) only[kc,aM,dx,Hm,aU,aO,aR,aX,aS,cw];apply hK)
   refine aP (bJ rfl (bi ?_))
   refine aP (bA ?_)
   (refine aL [] fun K hK=>?_;simp(disch:=omega) only[kc,aM,aa,aQ,aZ,aW,ca,ch,hg,fI,dJ,packT,et];apply hK)
   ((refine gP cJ [] [] (by kernel_rfl) (by simp) fun K hK=>?_);simp(disch:=omega) only[kc,aM,aa,aQ,aZ,aW,jw,lH,dJ,hi4,packT,et,d1,aU,aO,aR,aX,aS,e1,hj4,d2,e2,e4,e3];apply hK)
   show da _ _ _ _
   ((refine bK [] [] (by simp) fun K hK=>?_);simp(disch:=omega) only[kc,aM,aU,aO,aR,aX,aN,ab,aS,cd];apply hK)
   refine⟨⟨j+1,by omega⟩,by simp only;omega,aT ⟨rfl,trivial⟩ ?_⟩
   simp[di,b9,b8]
  have hjn:j=n:=by omega
  subst hjn
  (refine aL [] fun K hK=>?_;simp(disch:=omega) only[kc,aM,dx,Hm,aU,aO,aR,aX,aS,cp];apply hK)
  refine aP (bL rfl (ck ?_))
  show da _ _ _ _
  ((refine bK [] [] (by simp) fun K hK=>?_);simp(disch:=omega) only[kc,aM,aU,aO,aR,aX,aN,ab,aS,cd];apply hK)
  refine⟨⟨i+1,by omega⟩,by simp only;omega,aT ⟨rfl,trivial⟩ ?_⟩
  rw[EW]
  simp[di,b9,b8]
 have hin:i=n:=by omega
 subst hin
 (refine aL [] fun K hK=>?_;simp(disch:=omega) only[kc,aM,dx,Hm,aU,aO,aR,aX,aS,cp];apply hK)
 refine aP (bL rfl (ck ?_))
 show da _ _ _ _
 rw[EV]
 (refine aL [] fun K hK=>?_;simp(disch:=omega) only[kc,aM];apply hK)
 (refine bC ⟨.inr rfl,bF rfl ?_ rfl⟩;simp(disch:=omega) only[cH,Tryz.results121,bH,ah,ag])
theorem Ek {n:Nat} {f:Nat->Nat->Int} (hf: ∀i j,i<n->j<n->Sz (f i j) 1024): ∀k,k<n->(∀t,t<k->dk f (t+1)≠0)-> ∃s,s+1<=1025*2^k/\ ∀i j,i<n-k->j<n-k->Sz (elF f k i j) s
 |0,_,_=>⟨1024,by omega,fun i j hi hj=>by
  show Sz (bk f 0 (0+i) (0+j)) 1024
  rw[fX,Nat.zero_add,Nat.zero_add]
  exact hf i j (by omega) (by omega)⟩
 |k+1,hk,nz=>by
  obtain⟨s,h1,h2⟩:=Ek hf k (by omega) (fun t ht=>nz t (by omega))
  refine⟨2*s+1,by rw[Nat.pow_succ];omega,fun i j hi hj=>?_⟩
  rw[<- rL (fun t ht=>nz t (by omega))]
  exact((((h2 0 0 (by omega) (by omega)).mul (h2 (i+1) (j+1) (by omega) (by omega))).sub ((h2 (i+1) 0 (by omega) (by omega)).mul (h2 0 (j+1) (by omega) (by omega)))).ediv _).mono (by omega)
theorem IL {n k i:Nat} (f:Nat->Nat->Int) (h:i<k):(yF n f k)[i]?=some (El n f i):=by
 unfold yF
 rw[List.getElem?_map,List.getElem?_range h];rfl
structure Mg (n:Nat) (f:Nat->Nat->Int) where
 i:Nat
 hi:i<=n
 ok: ∀a,a<i->0<dk f (a+1)
theorem xS (n:Nat) (f:Nat->Nat->Int) (hn1:1<=n) (hn:n<=16) (hf: ∀i j,i<n->j<n->Sz (f i j) 1024) (r:Bool) (hr:r=true↔PD f n):CallC Tryz.prog 76 [eF (dC n n f)] ⟨[],.raw (.bool r)⟩:=by
 have hQ:=uC n f hn1 hn
 have hS:=DE n f hn1 hn hf
 have hml:=cT n n f
 refine bG Tryz.func76 rfl (by kernel_rfl) ?_;rw[Tryz.ntmps76]
 (refine aL [] fun K hK=>?_;simp(disch:=omega) only[kc,aM,eF,aj,aN,ab];apply hK)
 (refine aL [⟨1,_,_,_,hQ⟩] fun K hK=>?_;simp(disch:=omega) only[kc,eF,bj.a,aM,aa,aY,bU,bI,ac,bO,cq,ae,bV,bW,bs,noRefTV,bf,bQ,bM,cK,aU];apply hK)
 (refine aP (aL [] fun K hK=>?_);simp(disch:=omega) only[kc,aM,dM,aU,fD];apply hK)
 refine bL rfl (bi ?_)
 show da _ _ _ _
 (refine aP (aL [] fun K hK=>?_);simp(disch:=omega) only[kc,aM,aN,ab];apply hK)
 refine cC (G:=L3 n f) (fun g=>⟨[eF (dC n n f),jk,.raw (.bool false),jk,jk,jk,jk,jk,jk,jk,jk,jk,jk,jk,jk,jk,jk,.raw (.int .i64 (n:Int)),.raw (.int .i64 (g.i:Int)),jk,jk,jk,jk,jk,jk,jk,jk,jk,jk,jk,jk,jk,jk,jk,jk,jk,jk,jk,jk,jk,jk,jk,jk,jk,jk,jk,jk,jk,jk,jk,jk,jk,jk,jk,jk,jk,jk,jk,jk,jk,jk,jk,jk,jk],Hm []⟩) (fun g=>n-g.i) ⟨0,by omega,fun a ha=>by omega⟩ ?_ ?_
 ·refine aT trivial ?_
  simp[di,b9,b8]
 rintro⟨i,hi,ok⟩
 simp only
 by_cases hm:i<n
 ·(refine aL [] fun K hK=>?_;simp(disch:=omega) only[kc,aM,eF,Hm,aU,aO,aR,aX,aS,cw];apply hK)
  refine aP (bJ rfl (bi ?_))
  refine aP (bA ?_)
  (refine aL [] fun K hK=>?_;simp(disch:=omega) only[kc,aM];apply hK)
  (refine aL [] fun K hK=>?_;simp(disch:=omega) only[kc,aM,aN,ab];apply hK)
  refine cC (G:=L4 n i f) (fun g=>⟨[eF (dC n n f),jk,.raw (.bool false),jk,jk,.raw (.int .i64 (i:Int)),jk,jk,jk,jk,jk,jk,jk,jk,jk,jk,jk,.raw (.int .i64 (n:Int)),.raw (.int .i64 (i:Int)),jk,jk,.raw (.int .i64 (i:Int)),.raw (.int .i64 (g.j:Int)),jk,jk,jk,jk,jk,jk,jk,jk,jk,jk,jk,jk,jk,jk,jk,jk,jk,jk,jk,jk,jk,jk,jk,jk,jk,jk,jk,jk,jk,jk,jk,jk,jk,jk,jk,jk,jk,jk,jk,jk,jk],Hm []⟩) (fun g=>i-g.j) ⟨0,by omega,fun a ha=>by omega⟩ ?_ ?_
  ·refine aT trivial ?_
   simp[di,b9,b8]
  rintro⟨j,hj,okj⟩
  simp only
  by_cases hm2:j<i
  ·have a1:=dm n f hm
   have a2:=dm n f (show j<n by omega)
   have a3:=cu (f i) (show j<n by omega)
   have a4:=cu (f j) hm
   have c1:=J1 (f i j) (f j i) ((hf i j hm (by omega)).mono (by omega)) ((hf j i (by omega) hm).mono (by omega))
   by_cases he:f i j=f j i
   ·rw[he,tY]at c1
    rw[he]at a3
    (refine aL [] fun K hK=>?_;simp(disch:=omega) only[kc,aM,eF,Hm,aU,aO,aR,aX,aS,cw];apply hK)
    refine aP (bJ rfl (bi ?_))
    refine aP (bA ?_)
    (refine aL [] fun K hK=>?_;simp(disch:=omega) only[kc,aM];apply hK)
    (refine cL cJ [⟨14,_,_,_,c1⟩] [] (by kernel_rfl) (by simp) fun K hK=>?_;simp(disch:=omega) only[kc,tZ,bj.a,aM,aa,aQ,aZ,aW,cb,ch,a1,fR,dy,packT,dD,cE,a3,fZ,bS,cf,ai,a2,a4,aY,bU,bI,ac,bO,cq,ae,bV,bW,bs,isPure,noRefTV,bf,bQ,bM,aU,aO,aR,aX,aN,ab,aS,cw];apply hK)
    refine bL rfl (bi ?_)
    show da _ _ _ _
    ((refine bK [] [] (by simp) fun K hK=>?_);simp(disch:=omega) only[kc,aM,aU,aO,aR,aX,aN,ab,aS,cd];apply hK)
    refine⟨⟨j+1,by omega,fun b hb=>?_⟩,by simp only;omega,aT trivial ?_⟩
    ·by_cases e:b=j
     ·subst e;exact he
     exact okj b (by omega)
    simp[di,b9,b8]
   have hr0:r=false:=by
    cases r with
    |false=>rfl
    |true=>exact absurd ((hr.1 rfl).1 i hm j (by omega)) he
   subst hr0
   have hne:=w9 he
   (refine aL [] fun K hK=>?_;simp(disch:=omega) only[kc,aM,eF,Hm,aU,aO,aR,aX,aS,cw];apply hK)
   refine aP (bJ rfl (bi ?_))
   refine aP (bA ?_)
   (refine aL [] fun K hK=>?_;simp(disch:=omega) only[kc,aM];apply hK)
   (refine cL cJ [⟨14,_,_,_,c1⟩] [] (by kernel_rfl) (by simp) fun K hK=>?_;simp(disch:=omega) only[kc,tZ,bj.a,aM,aa,aQ,aZ,aW,cb,ch,a1,fR,dy,packT,dD,cE,a3,fZ,bS,cf,ai,a2,a4,aY,bU,bI,ac,bO,cq,ae,bV,bW,bs,isPure,noRefTV,bf,bQ,bM,aU,aO,aR,aX,aN,ab,aS,cp,Bool.not_false];apply hK)
   refine bJ rfl ?_
   (refine aL [] fun K hK=>?_;simp(disch:=omega) only[kc,aM,aN,ab];apply hK)
   (refine bC ⟨.inr rfl,bF rfl ?_ rfl⟩;simp(disch:=omega) only[cH,Tryz.results76,bH,ah,ag])
  (refine aL [] fun K hK=>?_;simp(disch:=omega) only[kc,aM,eF,Hm,aU,aO,aR,aX,aS,cp];apply hK)
  refine aP (bL rfl (ck ?_))
  show da _ _ _ _
  ((refine bK [] [] (by simp) fun K hK=>?_);simp(disch:=omega) only[kc,aM,aU,aO,aR,aX,aN,ab,aS,cd];apply hK)
  refine⟨⟨i+1,by omega,fun a ha b hb=>?_⟩,by simp only;omega,aT trivial ?_⟩
  ·by_cases e:a=i
   ·subst e;exact okj b (by omega)
   exact ok a (by omega) b hb
  simp[di,b9,b8]
 have hsym:SymF f n:=fun a ha b hb=>by
  rcases Nat.lt_trichotomy a b with h|h|h
  ·exact(ok b (by omega) a h).symm
  ·rw[h]
  exact ok a (by omega) b h
 (refine aL [] fun K hK=>?_;simp(disch:=omega) only[kc,aM,eF,Hm,aU,aO,aR,aX,aS,cp];apply hK)
 refine aP (bL rfl (ck ?_))
 show da _ _ _ _
 by_cases hnz:KJ n f
 ·rw[yl hnz]at hS
  have hln:=wu n f n
  (refine aL [⟨1,_,_,_,hS⟩] fun K hK=>?_;simp(disch:=omega) only[kc,eF,bj.a,aM,aa,aY,bU,bI,ac,bO,cq,ae,bV,bW,bs,noRefTV,bf,bQ,bM,cK,aU];apply hK)
  (refine aP (aL [] fun K hK=>?_);simp(disch:=omega) only[kc,aM,dM,aU,fD];apply hK)
  refine bL rfl (bi ?_)
  show da _ _ _ _
  (refine aP (aL [] fun K hK=>?_);simp(disch:=omega) only[kc,aM,aa,be,aZ,m4,bE,hln,aN,ab];apply hK)
  refine cC (G:=Mg n f) (fun g=>⟨[jk,jk,.raw (.bool false),jk,jk,jk,jk,jk,jk,jk,jk,jk,jk,jk,jk,jk,jk,jk,jk,jk,jk,jk,jk,jk,jk,jk,jk,jk,jk,jk,jk,jk,jk,jk,jk,jk,jk,jk,jk,jk,jk,jk,jk,jk,jk,jk,jk,jk,jk,jk,.one (.p (.sl (ls fM (yF n f n)))),.raw (.int .i64 (n:Int)),.raw (.int .i64 (g.i:Int)),jk,jk,jk,jk,jk,jk,jk,jk,jk,jk,jk],Hm []⟩) (fun g=>n-g.i) ⟨0,by omega,fun a ha=>by omega⟩ ?_ ?_
  ·refine aT trivial ?_
   simp[di,b9,b8]
  rintro⟨k,hk,okk⟩
  simp only
  by_cases hkn:k<n
  ·have g1:=IL (n:=n) (k:=n) f hkn
   have q1:=dm (n-k) (elF f k) (show 0<n-k by omega)
   have q2:=cu (elF f k 0) (show 0<n-k by omega)
   obtain⟨s,hs1,hs2⟩:=Ek hf k hkn (fun t ht=>hnz t (by omega))
   have h2k:=lB (k:=k) (by omega)
   have hSg:=qJ (elF f k 0 0) ((hs2 0 0 (by omega) (by omega)).mono (by omega))
   rw[mC]at hSg q2
   (refine aL [] fun K hK=>?_;simp(disch:=omega) only[kc,aM,Hm,aU,aO,aR,aX,aS,cw];apply hK)
   refine aP (bJ rfl (bi ?_))
   refine aP (bA ?_)
   (refine aL [] fun K hK=>?_;simp(disch:=omega) only[kc,aM,aa,aQ,aZ,aW,m4,ch,g1,fM,mj,packT,m0];apply hK)
   by_cases hp:0<dk f (k+1)
   ·rw[FV hp]at hSg
    (refine aL [⟨5,_,_,_,hSg⟩] fun K hK=>?_;simp(disch:=omega) only[kc,tZ,cp,bj.a,aM,aa,aQ,aZ,aN,ab,aW,Int.reduceToNat,cb,ch,q1,fR,dy,packT,dD,cE,q2,fZ,bS,cf,ai,aY,bU,bI,ac,bO,cq,ae,bV,bW,bs,isPure,noRefTV,bf,bQ,bM,aU,aO,aR,aX,aS,Int.reduceLE,decide_false];apply hK)
    refine bL rfl (bi ?_)
    show da _ _ _ _
    ((refine bK [] [] (by simp) fun K hK=>?_);simp(disch:=omega) only[kc,aM,aU,aO,aR,aX,aN,ab,aS,cd];apply hK)
    refine⟨⟨k+1,by omega,fun a ha=>?_⟩,by simp only;omega,aT trivial ?_⟩
    ·by_cases e:a=k
     ·subst e;exact hp
     exact okk a (by omega)
    simp[di,b9,b8]
   have hr0:r=false:=by
    cases r with
    |false=>rfl
    |true=>exact absurd ((hr.1 rfl).2 k hkn) hp
   subst hr0
   have hle:=Bw hp
   (refine aL [⟨5,_,_,_,hSg⟩] fun K hK=>?_;simp(disch:=omega) only[kc,tZ,bj.a,aM,aa,aQ,aZ,aN,ab,aW,Int.reduceToNat,cb,ch,q1,fR,dy,packT,dD,cE,q2,fZ,bS,cf,ai,aY,bU,bI,ac,bO,cq,ae,bV,bW,bs,isPure,noRefTV,bf,bQ,bM,aU,aO,aR,aX,aS,cw];apply hK)
   refine bJ rfl ?_
   (refine aL [] fun K hK=>?_;simp(disch:=omega) only[kc,aM,aN,ab];apply hK)
   (refine bC ⟨.inr rfl,bF rfl ?_ rfl⟩;simp(disch:=omega) only[cH,Tryz.results76,bH,ah,ag])
  have hr1:r=true:=hr.2 ⟨hsym,fun a ha=>okk a (by omega)⟩
  subst hr1
  (refine aL [] fun K hK=>?_;simp(disch:=omega) only[kc,aM,Hm,aU,aO,aR,aX,aS,cp];apply hK)
  refine aP (bL rfl (ck ?_))
  show da _ _ _ _
  (refine aL [] fun K hK=>?_;simp(disch:=omega) only[kc,aM,aN,ab];apply hK)
  (refine bC ⟨.inr rfl,bF rfl ?_ rfl⟩;simp(disch:=omega) only[cH,Tryz.results76,bH,ah,ag])
 rw[BH hnz]at hS
 have hr0:r=false:=by
  cases r with
  |false=>rfl
  |true=>exact absurd (fun t ht=>by have:=(hr.1 rfl).2 t (by omega);omega) hnz
 subst hr0
 (refine aL [⟨1,_,_,_,hS⟩] fun K hK=>?_;simp(disch:=omega) only[kc,eF,bj.a,aM,aa,aY,bU,bI,ac,bO,cq,ae,bV,bW,bs,noRefTV,bf,bQ,bM,cK,aU];apply hK)
 (refine aP (aL [] fun K hK=>?_);simp(disch:=omega) only[kc,aM,dM,aU,fD,Bool.not_false];apply hK)
 refine bJ rfl ?_
 (refine aL [] fun K hK=>?_;simp(disch:=omega) only[kc,aM,aN,ab];apply hK)
 (refine bC ⟨.inr rfl,bF rfl ?_ rfl⟩;simp(disch:=omega) only[cH,Tryz.results76,bH,ah,ag])
/-! isForm -/
def RwOk (n:Nat) (r:List Int):Prop:=r.length=n/\ ∀x∈r,-1125899906842624<=x/\x<=1125899906842624
def tJ (M:List (List Int)):Prop:=(1<=M.length/\M.length<=4)/\(∀r∈M,RwOk M.length r)/\PD (ent M) M.length
structure LY (M:List (List Int)) where
 i:Nat
 hi:i<=M.length
 ok: ∀a,a<i-> ∀r,M[a]?=some r->RwOk M.length r
structure LZ (r:List Int) where
 j:Nat
 hj:j<=r.length
 ok: ∀b,b<j-> ∀x,r[b]?=some x-> -1125899906842624<=x/\x<=1125899906842624
theorem tJ.entB {M:List (List Int)} (h:tJ M) {i j:Nat} (hi:i<M.length) (hj:j<M.length): -1125899906842624<=ent M i j/\ent M i j<=1125899906842624:=by
 have hr:=h.2.1 M[i] (List.getElem_mem hi)
 have e:ent M i j=M[i][j]'(by rw[hr.1];exact hj):=by
  unfold ent
  simp[List.getD,hi,hr.1,hj]
 rw[e]
 exact hr.2 _ (List.getElem_mem _)
theorem DY {x:Int} (h: -1125899906842624<=x/\x<=1125899906842624):Sz x 1024:=by
 have:Sz x 2:=by unfold Sz;omega
 exact this.mono (by omega)
theorem uI {M:List (List Int)} {i:Nat} {r:List Int} (h:M[i]?=some r):r∈M:=List.mem_of_getElem? h
theorem uo (M:List (List Int)) (r:Bool) (hr:r=true↔tJ M):CallC Tryz.prog 35 [dx M] ⟨[],.raw (.bool r)⟩:=by
 by_cases hlen:1<=M.length/\M.length<=4
 ·refine bG Tryz.func35 rfl (by kernel_rfl) ?_;rw[Tryz.ntmps35]
  (refine aL [] fun K hK=>?_;simp(disch:=omega) only[kc,aM,dx,aj,aN,ab];apply hK)
  (refine aP (aL [] fun K hK=>?_);simp(disch:=omega) only[kc,aM,aa,be,aZ,bv,bE,aU,aO,aR,aX,aN,ab,aS,cp,bP,cQ,b7];apply hK)
  refine bL rfl (bi ?_)
  show da _ _ _ _
  (refine aP (aL [] fun K hK=>?_);simp(disch:=omega) only[kc,aM,aa,be,aZ,bv,bE,aN,ab];apply hK)
  refine cC (G:=LY M) (fun g=>⟨[dx M,jk,.raw (.bool false),jk,jk,jk,jk,jk,jk,jk,jk,jk,jk,jk,jk,jk,jk,dx M,.raw (.int .i64 (M.length:Int)),.raw (.int .i64 (g.i:Int)),jk,jk,jk,jk,jk,jk,jk,jk,jk,jk,jk,jk,jk,jk,jk,jk,jk,jk,jk,jk,jk,jk,jk,jk,jk,jk,jk,jk,jk],Hm []⟩) (fun g=>M.length-g.i) ⟨0,by omega,fun a ha=>by omega⟩ ?_ ?_
  ·refine aT trivial ?_
   simp[di,b9,b8]
  rintro⟨i,hi,ok⟩
  simp only
  by_cases hm:i<M.length
  ·obtain⟨q,hq⟩: ∃q,M[i]?=some q:=⟨M[i],List.getElem?_eq_getElem hm⟩
   have hqm:=uI hq
   (refine aL [] fun K hK=>?_;simp(disch:=omega) only[kc,aM,dx,Hm,aU,aO,aR,aX,aS,cw];apply hK)
   refine aP (bJ rfl (bi ?_))
   refine aP (bA ?_)
   (refine aL [] fun K hK=>?_;simp(disch:=omega) only[kc,aM,aa,aQ,aZ,aW,bv,ch,hq,fR,db,packT,dc];apply hK)
   by_cases hql:q.length=M.length
   ·(refine aP (aL [] fun K hK=>?_);simp(disch:=omega) only[kc,aM,aa,be,aZ,ca,bE,hql,bv,aU,aO,aR,aX,aS,cw];apply hK)
    refine bL rfl (bi ?_)
    show da _ _ _ _
    (refine aL [] fun K hK=>?_;simp(disch:=omega) only[kc,aM,aa,be,aZ,ca,bE,hql,aN,ab];apply hK)
    refine cC (G:=LZ q) (fun g=>⟨[dx M,jk,.raw (.bool false),jk,.one (.p (.sl (ls fI q))),jk,jk,jk,jk,jk,jk,jk,jk,jk,jk,jk,jk,dx M,.raw (.int .i64 (M.length:Int)),.raw (.int .i64 (i:Int)),jk,jk,jk,jk,jk,jk,jk,jk,.one (.p (.sl (ls fI q))),.raw (.int .i64 (M.length:Int)),.raw (.int .i64 (g.j:Int)),jk,jk,jk,jk,jk,jk,jk,jk,jk,jk,jk,jk,jk,jk,jk,jk,jk,jk],Hm []⟩) (fun g=>q.length-g.j) ⟨0,by omega,fun a ha=>by omega⟩ ?_ ?_
    ·refine aT trivial ?_
     simp[di,b9,b8]
    rintro⟨j,hj,okj⟩
    simp only
    by_cases hm2:j<q.length
    ·obtain⟨x,hx⟩: ∃x,q[j]?=some x:=⟨q[j],List.getElem?_eq_getElem hm2⟩
     (refine aL [] fun K hK=>?_;simp(disch:=omega) only[kc,aM,dx,Hm,aU,aO,aR,aX,aS,cw];apply hK)
     refine aP (bJ rfl (bi ?_))
     refine aP (bA ?_)
     (refine aL [] fun K hK=>?_;simp(disch:=omega) only[kc,aM,aa,aQ,aZ,aW,ca,ch,hx,fI,dJ,packT,et];apply hK)
     by_cases hlo:x< -1125899906842624
     ·have hr0:r=false:=by
       cases r with
       |false=>rfl
       |true=>have:=((hr.1 rfl).2.1 q hqm).2 x (List.mem_of_getElem? hx);omega
      subst hr0
      (refine aL [] fun K hK=>?_;simp(disch:=omega) only[kc,aM,aa,aU,aO,aR,aX,aN,ab,aS,cw,bP,reduceCtorEq,cQ,Option.map_none,b7];apply hK)
      refine bJ rfl ?_
      (refine aL [] fun K hK=>?_;simp(disch:=omega) only[kc,aM,aN,ab];apply hK)
      (refine bC ⟨.inr rfl,bF rfl ?_ rfl⟩;simp(disch:=omega) only[cH,Tryz.results35,bH,ah,ag])
     by_cases hhi:1125899906842624<x
     ·have hr0:r=false:=by
       cases r with
       |false=>rfl
       |true=>have:=((hr.1 rfl).2.1 q hqm).2 x (List.mem_of_getElem? hx);omega
      subst hr0
      (refine aL [] fun K hK=>?_;simp(disch:=omega) only[kc,aM,aa,aU,aO,aR,aX,aN,ab,aS,cp,bP,cQ,cw,b7];apply hK)
      refine bJ rfl ?_
      (refine aL [] fun K hK=>?_;simp(disch:=omega) only[kc,aM,aN,ab];apply hK)
      (refine bC ⟨.inr rfl,bF rfl ?_ rfl⟩;simp(disch:=omega) only[cH,Tryz.results35,bH,ah,ag])
     (refine aL [] fun K hK=>?_;simp(disch:=omega) only[kc,aM,aa,aU,aO,aR,aX,aN,ab,aS,cp,bP,cQ,b7];apply hK)
     refine bL rfl (bi ?_)
     show da _ _ _ _
     ((refine bK [] [] (by simp) fun K hK=>?_);simp(disch:=omega) only[kc,aM,aU,aO,aR,aX,aN,ab,aS,cd];apply hK)
     refine⟨⟨j+1,by omega,fun b hb y hy=>?_⟩,by simp only;omega,aT trivial ?_⟩
     ·by_cases e:b=j
      ·subst e
       rw[hx]at hy
       injection hy with hy
       omega
      exact okj b (by omega) y hy
     simp[di,b9,b8]
    (refine aL [] fun K hK=>?_;simp(disch:=omega) only[kc,aM,dx,Hm,aU,aO,aR,aX,aS,cp];apply hK)
    refine aP (bL rfl (ck ?_))
    show da _ _ _ _
    ((refine bK [] [] (by simp) fun K hK=>?_);simp(disch:=omega) only[kc,aM,aU,aO,aR,aX,aN,ab,aS,cd];apply hK)
    refine⟨⟨i+1,by omega,fun a ha q' hq'=>?_⟩,by simp only;omega,aT trivial ?_⟩
    ·by_cases e:a=i
     ·subst e
      rw[hq]at hq'
      injection hq' with hq'
      subst hq'
      refine⟨hql,fun x hx=>?_⟩
      obtain⟨b,hb⟩:=List.mem_iff_getElem?.1 hx
      exact okj b (by have:=(List.getElem?_eq_some_iff.1 hb).1;omega) x hb
     exact ok a (by omega) q' hq'
    simp[di,b9,b8]
   have hr0:r=false:=by
    cases r with
    |false=>rfl
    |true=>exact absurd ((hr.1 rfl).2.1 q hqm).1 hql
   subst hr0
   (refine aP (aL [] fun K hK=>?_);simp(disch:=omega) only[kc,aM,aa,be,aZ,ca,bE,bv,aU,aO,aR,aX,aS,cp,Bool.not_false];apply hK)
   refine bJ rfl ?_
   (refine aL [] fun K hK=>?_;simp(disch:=omega) only[kc,aM,aN,ab];apply hK)
   (refine bC ⟨.inr rfl,bF rfl ?_ rfl⟩;simp(disch:=omega) only[cH,Tryz.results35,bH,ah,ag])
  have hall: ∀q∈M,RwOk M.length q:=fun q hq=>by
   obtain⟨a,ha⟩:=List.mem_iff_getElem?.1 hq
   exact ok a (by have:=(List.getElem?_eq_some_iff.1 ha).1;omega) q ha
  have eM:=qL (M:=M) (m:=M.length) fun q hq=>(hall q hq).1
  have hb: ∀i j,i<M.length->j<M.length-> -1125899906842624<=ent M i j/\ent M i j<=1125899906842624:=fun i j hi hj=>by
   have hrw:=hall M[i] (List.getElem_mem hi)
   have e:ent M i j=M[i][j]'(by rw[hrw.1];exact hj):=by
    unfold ent
    simp[List.getD,hi,hrw.1,hj]
   rw[e]
   exact hrw.2 _ (List.getElem_mem _)
  have hF:=xT M.length M.length (ent M) hlen.1 (by omega) hlen.1 (by omega) (fun i j hi hj=>by have:=hb i j hi hj;omega)
  have hD:=xS M.length (ent M) hlen.1 (by omega) (fun i j hi hj=>DY (hb i j hi hj)) r ⟨fun h=>(hr.1 h).2.2,fun h=>hr.2 ⟨hlen,hall,h⟩⟩
  rw[<- eM]at hF hD
  (refine aL [] fun K hK=>?_;simp(disch:=omega) only[kc,aM,dx,Hm,aU,aO,aR,aX,aS,cp];apply hK)
  refine aP (bL rfl (ck ?_))
  show da _ _ _ _
  (refine aL [⟨1,_,_,_,hF⟩] fun K hK=>?_;simp(disch:=omega) only[kc,dx,KM,bj.a,aM,aa,aY,bU,bI,ac,bO,cq,ae,bV,bW,bs,noRefTV,bf,bQ,bM,cK,aU];apply hK)
  (refine aL [⟨1,_,_,_,hD⟩] fun K hK=>?_;simp(disch:=omega) only[kc,eF,bj.a,aM,aa,aY,bU,bI,ac,bO,cq,ae,bV,bW,bs,noRefTV,bf,bQ,bM];apply hK)
  (refine bC ⟨.inr rfl,bF rfl ?_ rfl⟩;simp(disch:=omega) only[cH,Tryz.results35,bH,ah,ag])
 have hr0:r=false:=by
  cases r with
  |false=>rfl
  |true=>exact absurd (hr.1 rfl).1 hlen
 subst hr0
 by_cases h1:M.length<1
 ·refine bG Tryz.func35 rfl (by kernel_rfl) ?_;rw[Tryz.ntmps35]
  (refine aL [] fun K hK=>?_;simp(disch:=omega) only[kc,aM,dx,aj,aN,ab];apply hK)
  (refine aP (aL [] fun K hK=>?_);simp(disch:=omega) only[kc,aM,aa,be,aZ,bv,bE,aU,aO,aR,aX,aN,ab,aS,cw,bP,reduceCtorEq,Option.map_none,cQ,b7];apply hK)
  refine bJ rfl ?_
  (refine aL [] fun K hK=>?_;simp(disch:=omega) only[kc,aM,aN,ab];apply hK)
  (refine bC ⟨.inr rfl,bF rfl ?_ rfl⟩;simp(disch:=omega) only[cH,Tryz.results35,bH,ah,ag])
 refine bG Tryz.func35 rfl (by kernel_rfl) ?_;rw[Tryz.ntmps35]
 (refine aL [] fun K hK=>?_;simp(disch:=omega) only[kc,aM,dx,aj,aN,ab];apply hK)
 (refine aP (aL [] fun K hK=>?_);simp(disch:=omega) only[kc,aM,aa,be,aZ,bv,bE,aU,aO,aR,aX,aN,ab,aS,cp,bP,cQ,cw,b7];apply hK)
 refine bJ rfl ?_
 (refine aL [] fun K hK=>?_;simp(disch:=omega) only[kc,aM,aN,ab];apply hK)
 (refine bC ⟨.inr rfl,bF rfl ?_ rfl⟩;simp(disch:=omega) only[cH,Tryz.results35,bH,ah,ag])
theorem FE (k:Nat->Nat->Bool) (R:List (List Int)):(R.map ke).map (fq k)=R.map ke:=by
 rw[List.map_map]
 exact List.map_congr_left fun r _=>by simp[fq,ke,f4]
def KN (d n c:Nat) (f:Nat->Nat->Int) (i j:Nat):List OObj:=⟨27,1,iX d (aj i c)++[.sl d (i+1) 0 (j+1)]::aj (n-i-1) og⟩::((dC i c f).map ke++[ke (dz (j+1) (f i))])
def Lx (d n c:Nat) (f:Nat->Nat->Int) (i:Nat):Nat->List OObj
 |0=>kI d n c i f
 |j+1=>KN d n c f i j
theorem J0 {d n c i:Nat} (f:Nat->Nat->Int) (hc:1<=c) (hi:i<n):Lx d n c f i c=kI d n c (i+1) f:=by
 obtain⟨j,rfl⟩: ∃j,c=j+1:=⟨c-1,by omega⟩
 show KN d n (j+1) f i j=_
 unfold KN kI
 rw[r7,List.replicate_succ' (n:=i),mW,List.length_replicate]
 simp[Nat.sub_sub]
theorem Hr {d n c i:Nat} (f:Nat->Nat->Int) (hi:i<n):kI d n c i f=⟨27,1,iX d (aj i c)++og::aj (n-i-1) og⟩::(dC i c f).map ke:=by
 unfold kI
 rw[show n-i=n-i-1+1 by omega,List.replicate_succ];rfl
structure LF (n:Nat) (p:Nat->Prop) where
 i:Nat
 hi:i<=n
 h: ∀a,a<i->p a
theorem vD {l:List (List Int)} {i:Nat} (h:i<l.length):l[i]?=some (l.getD i []):=by
 obtain⟨x,hx⟩:=getElem?_of_lt h
 rw[List.getD_eq_getElem?_getD,hx];rfl
def zr (f:Nat->Nat->Int) (i j:Nat):Nat->Nat->Int:=fun a b=>if(a<i/\b<i)\/(a=i/\b<j)\/(b=i/\a<j)then f a b else 0
theorem Eu {f:Nat->Nat->Int} {i j:Nat} {v:Int} (h1:f i j=v) (h2:f j i=v) (a b:Nat):upd (upd (zr f i j) i j v) j i v a b=zr f i (j+1) a b:=by
 by_cases c1:a=j/\b=i
 ·obtain⟨rfl,rfl⟩:=c1
  rw[Ag,<- h2]
  exact(if_pos (.inr (.inr ⟨rfl,by omega⟩))).symm
 rw[Ah (by omega)]
 by_cases c2:a=i/\b=j
 ·obtain⟨rfl,rfl⟩:=c2
  rw[Ag,<- h1]
  exact(if_pos (.inr (.inl ⟨rfl,by omega⟩))).symm
 rw[Ah (by omega)]
 unfold zr
 have:((a<i/\b<i)\/(a=i/\b<j)\/(b=i/\a<j))↔((a<i/\b<i)\/(a=i/\b<j+1)\/(b=i/\a<j+1)):=by omega
 simp only[this]
theorem Hq (f:Nat->Nat->Int) (i a b:Nat):zr f i (i+1) a b=zr f (i+1) 0 a b:=by
 unfold zr
 have:((a<i/\b<i)\/(a=i/\b<i+1)\/(b=i/\a<i+1))↔((a<i+1/\b<i+1)\/(a=i+1/\b<0)\/(b=i+1/\a<0)):=by omega
 simp only[this]
theorem Hp {f:Nat->Nat->Int} {n a b:Nat} (ha:a<n) (hb:b<n):zr f n 0 a b=f a b:=if_pos (.inl ⟨ha,hb⟩)
theorem Ev (f:Nat->Nat->Int) (a b:Nat):zr f 0 0 a b=0:=if_neg (by omega)
theorem iG (n:Nat) (h t:Nat->Nat->Int) (a b:Nat):cngF n h t a b=BF n h (fun i=>t i a) (fun j=>t j b):=by
 unfold cngF BF
 rw[oT,bZ n (G:=fun p=>dK (fun q=>t q a*h q p*t p b) n) (fun p _=>by rw[oT,<- mU];rfl),
  bZ n (F:=fun i=>t i a*_) (G:=fun q=>dK (fun p=>t q a*h q p*t p b) n) (fun q _=>by rw[<- d8];exact bZ n fun p _=>by grind)]
 exact lE _ _ _
def K2 (M:List (List Int)):Prop:=Ap M/\(M.headD []).length=M.length/\M.length<=8/\(dk (ent M) M.length).natAbs=1
theorem K2.eq {M:List (List Int)} (h:K2 M):M=dC M.length M.length (ent M):=by
 have:=GH h.1
 rwa[h.2.1]at this
theorem oR {n c:Nat} (f:Nat->Nat->Int) {i:Nat} (hi:i<n):(dC n c f).getD i []=dz c (f i):=by
 rw[List.getD_eq_getElem?_getD,dm _ _ hi];rfl
theorem uG {c:Nat} (f:Nat->Int) {j:Nat} (hj:j<c):(dz c f).getD j 0=f j:=by
 rw[List.getD_eq_getElem?_getD,cu _ hj];rfl
end Go.Proofs.YtfgeomlagfomgaaGreatDoor
