/-
  Part 10 of a proof (walks and plain facts).
-/
import Derived.Test.YtalmoejhjceflaaGreatV08
import Derived.Lib.SliceRun
set_option linter.all false
set_option maxRecDepth 100000
set_option maxHeartbeats 64000000
namespace Go.Proofs.YtalmoejhjceflaaGreat
open Go.RowKit Go.Proofs.Tryz
variable {b c:Nat->Prop} {n m:Nat} {w W:World} {e:Value} {f:Code} {g:OObj} {h:TV} {j:Rho} {l:FuncId} {o:OH} {p:Array Oper} {q:Operand} {r:Oper}
theorem UD (w:World) (q:Nat) (b:Array Obj):fm w (Sort.grow (w.drewN q) b):=
 ⟨rfl,rfl,rfl,by simp,fun k c=>by show(w.heap++b)[k]?=w.heap[k]?;grind⟩
structure NItem where
 key:Int
 vals:List Int
 at_:Option Addr
 cap:Nat
 deriving Inhabited
def NItem.val (b:NItem):Value:= .slice b.at_ b.vals.length b.cap
def NItem.agg (b:NItem):Value:= .agg #[.int .i64 b.key,.slice b.at_ b.vals.length b.cap]
def l6 (a b:NItem):Int:=QD a.key a.vals b.key b.vals
def AU (a b:NItem):Bool:=l6 a b==0
structure ItemOk (w:World) (g:Nat) (it:NItem):Prop where
 rd:RdI .i64 w it.at_ it.vals
 ne: ∀p,it.at_=some p->p.block≠g
 le:it.vals.length<=9223372036854775807
theorem ItemOk.ext {b:NItem} (h:ItemOk w n b) (e:fm w W):ItemOk W n b:=⟨h.rd.ext e,h.ne,h.le⟩
theorem CT (a b:NItem) (w:World) (g:Nat) (c:ItemOk w g a) (f:ItemOk w g b):
  Calls prog 132 #[a.agg,b.agg] w fun e j=>e= .returned (.int .i64 (l6 a b))/\fm w j:=
 (nA a.key b.key a.at_ b.at_ a.cap b.cap a.vals b.vals w c.rd f.rd c.le f.le).mono fun _ _ ⟨h,q,m,l⟩=>⟨h,by grind [UD]⟩
theorem Ck (a b:NItem) (bx sx so:Nat) (w:World) (g:Nat) (ha:ItemOk w g a) (hb:ItemOk w g b) (h1:w.cell? ⟨bx,0,none⟩=some (.pointer (some ⟨sx,so,none⟩))) (h2:w.cell? ⟨sx,so+1,none⟩=some (.func (Fn.func 132) #[] #[])):
  Calls prog 200 #[a.agg,b.agg,.pointer (some ⟨bx,0,none⟩)] w fun e w'=>e= .returned (.bool (AU a b))/\fm w w':=by
 have HA:=aeV ha;have HB:=aeV hb;clear ha hb;unfold NItem.agg
 go_enter func200,ntmps200
 go_wp2_with fail
 obtain⟨c1,c2,c3,c4,he,hg⟩:=En w (.int .i64 a.key) (.slice a.at_ a.vals.length a.cap) (.int .i64 b.key) (.slice b.at_ b.vals.length b.cap) 177;have h1':=he.cell h1;have h2':=he.cell h2;have HE:=aeV he;clear he hg h1 h2;generalize(w.alloc (.cells #[.int .i64 a.key,.slice a.at_ a.vals.length a.cap] 177)).alloc (.cells #[.int .i64 b.key,.slice b.at_ b.vals.length b.cap] 177)=w2 at*
 refine ee 6 (by kernel_rfl) (by kernel_rfl) ?_;simp only[af6,agX,agp,agx];generalize w2.drew=w3 at*
 iterate 6 still_step
 refine wpStill_nil ?_;have HC:=aeV (CT a b w3 g (HA.out.ext HE.out) (HB.out.ext HE.out));unfold NItem.agg at HC
 go_wp2_with fail
 refine HC.out.mono ?_;rintro e w' ⟨rfl,he⟩;have HE2:=aeV (HE.out.trans he);clear he
 go_wp2_with fail
 go_ret
 exact⟨rfl,HE2.out⟩
theorem v6 {g t N:Nat}: ∀(vs:List Value) (o:Nat) (w:World) (f:Nat->Value),w.rowIs g t N f-> ∃b,(w.setCells g o vs).rowIs g t N b/\(∀j,j<o->b j=f j)/\ ∀k,k≠g->(w.setCells g o vs).heap[k]?=w.heap[k]?
 |[],o,w,f,h=>⟨f,h,fun _ _=>rfl,fun _ _=>rfl⟩
 |v::r,o,w,f,h=>by
  obtain⟨b,c,e,l⟩:=v6 r (o+1) (w.setCell ⟨g,o,none⟩ v) _ (h.set o v);refine⟨b,c,fun j m=>?_,fun k n=>?_⟩
  ·grind
  show((w.setCell ⟨g,o,none⟩ v).setCells g (o+1) r).heap[k]?=_;grind [Below.heap_setCell]
theorem ii (h:fm w W) (g:Nat):w.grownBy W (some g):=⟨h.os,h.tape,h.output,h.size,fun k b _=>h.block k b⟩
theorem lF {a:World} (h:a.grownBy w (some n)) (k:w.grownBy W (some n)):a.grownBy W (some n):=
 ⟨k.os.trans h.os,k.tape.trans h.tape,k.output.trans h.output,aeN h.size k.size,fun i f e=>(k.block i (aeT f h.size) e).trans (h.block i f e)⟩
theorem Fe {a:World} (h:a.grownBy w (some n)) (o:Nat) (v:Value):a.grownBy (w.setCell ⟨n,o,none⟩ v) (some n):=
 lF h ⟨rfl,rfl,rfl,by simp,fun k _ c=>ahQ _ _ _ _ (fun e=>c (by rw[e]))⟩
theorem yr {a b:World} {g:Nat}: ∀(vs:List Value) (o:Nat) {b:World},a.grownBy b (some g)->a.grownBy (b.setCells g o vs) (some g)
 |[],_,_,h=>h
 |v::r,o,_,h=>yr (b:=b) r (o+1) (Fe h o v)
theorem r8 (h:w.grownBy W (some n)) {p:Addr} (f:w.cell? p=some e) (c:p.block≠n):W.cell? p=some e:=
 h.cell f (fun b=>c (by injection b))
theorem RdI.gb {k:IntKind} {A:Option Addr} {c:List Int} (h:RdI k w A c) (f: ∀p,A=some p->p.block≠n) (m:w.grownBy W (some n)):RdI k W A c:=fun e=>by
 obtain⟨b,j,rfl,l⟩:=h e;grind [r8]
def bL (l:List Int) (a:Nat):Nat:=if a<l.length then a+1 else a
section
section
variable {P:Program} {f:FuncId} {args:List TV} {res:CallRes}
theorem XP {fam:List OObj} {res:CallRes} (m:bN ⟨[h],famH 0 fam⟩ ⟨[res.r],Hm [(0,res.fam)]⟩) (g: ∃l:Rho,Inv w (fun _=>False) b (famH 0 fam) l W/\h.rel l (famH 0 fam) (Xo b l (famH 0 fam)) W e):
  ∃l:Rho,Inv w (fun _=>False) b (famH 0 res.fam) l W/\res.r.rel l (famH 0 res.fam) (Xo b l (famH 0 res.fam)) W e:=by
 have c:Hm [(0,res.fam)]=famH 0 res.fam:=by rfl
 rw[c]at m;obtain⟨l,n,u⟩:=g;obtain⟨_,_,q,o,p⟩:=m w (fun _=>False) b ⟨#[e],[]⟩ W ⟨rfl,rfl,l,n,fun j x y=>by
  grind⟩
 obtain⟨A,s,z⟩:=p 0 _ rfl;grind
theorem CallC.weak {fam:List OObj} (b:CallC P f args ⟨fam,h⟩) (l:bN ⟨[h],famH 0 fam⟩ ⟨[res.r],Hm [(0,res.fam)]⟩):CallC P f args res:=
 ⟨b.1,fun X w vs c j e=>(b.2 X w vs c j e).mono fun _ _ ⟨v,g,k⟩=>⟨v,g,XP l k⟩⟩
end
end
section
def Alt (k:Nat) (f:List Nat->Int):Prop:= ∀b c d e,b.length+e.length+2=k->f (b++c::d::e)= - f (b++d::c::e)
theorem Alt.cons {k:Nat} {f:List Nat->Int} (h:Alt (k+1) f) (c:Nat):Alt k (fun l=>f (c::l)):=fun e a b g j=>h (c::e) a b g (by simp;omega)
theorem OJ {r:Nat->Int}: ∀(b:List Nat) {f g:List Nat->Int},(∀l,l.length+1=b.length->f l= - g l)->eH r f b= - eH r g b
 |[],_,_,_=>rfl
 |c::b,f,g,h=>by
  rw[eH,eH,h b rfl,OJ b (f:=fun l=>f (c::l)) (g:=fun l=>g (c::l)) (fun l e=>h (c::l) (by simp;omega))];grind
theorem EM {r:Nat->Int}: ∀(j:List Nat) (k:Nat) (f:List Nat->Int),Alt k f-> ∀c d b,j.length+b.length+2=k+1->eH r f (j++c::d::b)= - eH r f (j++d::c::b)
 |[],k,f,h,c,d,b,m=>by
  have e:=OJ (r:=r) b (f:=fun l=>f (c::d::l)) (g:=fun l=>f (d::c::l)) (fun l n=>h [] c d l (by omega));grind [eH]
 |x::j,k,f,h,c,d,b,m=>by
  obtain⟨k,rfl⟩: ∃o,k=o+1:=⟨k-1,by omega⟩;simp only[agr,eH];rw[EM j k _ (h.cons x) c d b (by grind),h j c d b (by grind)];grind
theorem FS (R:FF): ∀k,Alt k (om R k)
 |0=>fun b c d e h=>by omega
 |k+1=>fun b c d e h=>EM b k _ (FS R k) c d e h
theorem y9 {k:Nat} {f:List Nat->Int} (h:Alt k f) (c:Nat) (g:List Nat): ∀(e b:List Nat),b.length+e.length+g.length+2=k->f (b++c::(e++c::g))=0
 |[],b,j=>by
  have:=h b c c g (by omega);grind
 |x::e,b,j=>by
  have l:=h b c x (e++c::g) (by grind);have m:=y9 h c g e (b++[x]) (by grind);grind
/-! Columns. -/
theorem pT {r s:Nat->Int}: ∀(b:List Nat) {f g:List Nat->Int},b.Nodup->(∀c∈b,r c=s c)->(∀l,l.length+1=b.length->(∀c∈l,c∈b)->l.Nodup->f l=g l)->eH r f b=eH s g b
 |[],_,_,_,_,_=>rfl
 |c::b,f,g,p,h,n=>by
  obtain⟨o,e⟩:=afU.1 p;rw[eH,eH,h c afM,n b rfl (fun d j=>afy _ j) e,pT b e (fun d j=>h d (afy _ j)) (fun l t q m=>n (c::l) (by simp;omega) (fun d j=>by
   grind) (afU.2 ⟨fun h=>o (q c h),m⟩))]
def eR (R:FF) (a:Nat) (S:Nat->Int):Nat->Nat->Int:=fun i c=>if c=a then S i else R i c
theorem rY (R:FF) (a:Nat):eR R a (fun i=>R i a)=R:=by
 grind [eR]
theorem OI {a:Nat} {u t s s':Int} {r:Nat->Int}: ∀(b:List Nat) (f j m:List Nat->Int),b.Nodup->a∈b->
  (∀l,l.length+1=b.length->(∀c∈l,c∈b)->l.Nodup->(a∈l->f l=u*j l+t*m l)/\(a∉l->j l=f l/\m l=f l))->
  eH (fun c=>if c=a then u*s+t*s' else r c) f b=u*eH (fun c=>if c=a then s else r c) j b+t*eH (fun c=>if c=a then s' else r c) m b
 |[],_,_,_,_,h,_=>by simp at h
 |c::b,f,j,m,E,H,h=>by
  obtain⟨w,g⟩:=afU.1 E;have p: ∀l:List Nat,(∀c∈l,c∈b)-> ∀d∈c::l,d∈c::b:=fun l q d n=>by
   grind
  obtain⟨G,A⟩:=h b rfl (fun d n=>afy _ n) g;rw[eH,eH,eH];by_cases e:c=a
  ·subst e;obtain⟨B,C⟩:=A w;have F: ∀d∈b,d≠c:=fun d n e=>w (e▸n)
   have x:eH (fun d=>if d=c then u*s+t*s' else r d) (fun l=>f (c::l)) b=eH r (fun l=>u*j (c::l)+t*m (c::l)) b:=
    pT b g (fun d n=>by grind) (fun l D q o=>(h (c::l) (by simp;omega) (p l q) (afU.2 ⟨fun h=>w (q c h),o⟩)).1 afM)
   have y:eH (fun d=>if d=c then s else r d) (fun l=>j (c::l)) b=eH r (fun l=>j (c::l)) b:=pT b g (fun d n=>by grind) (fun _ _ _ _=>rfl);have z:eH (fun d=>if d=c then s' else r d) (fun l=>m (c::l)) b=eH r (fun l=>m (c::l)) b:=pT b g (fun d n=>by grind) (fun _ _ _ _=>rfl);rw[x,y,z,Bc,B,C];grind
  have v:a∈b:=by
   grind
  have I:=OI (u:=u) (t:=t) (s:=s) (s':=s') (r:=r) b (fun l=>f (c::l)) (fun l=>j (c::l)) (fun l=>m (c::l)) g v (fun l D q o=>by
   grind)
  grind
theorem VM {R:FF} {a:Nat} {u t:Int} {S T:Nat->Int}: ∀(k:Nat) (b:List Nat),b.Nodup->b.length=k->a∈b->
  om (eR R a (fun i=>u*S i+t*T i)) k b=u*om (eR R a S) k b+t*om (eR R a T) k b
 |0,b,_,g,f=>by grind
 |k+1,b,j,g,f=>by
  refine OI (r:=R k) (s:=S k) (s':=T k) b _ _ _ j f (fun l h m e=>⟨fun c=>VM k l e (by omega) c,fun c=>?_⟩);grind [vG,eR]
theorem sj {r:Nat->Int} (p:Nat->Nat): ∀(b:List Nat) (f:List Nat->Int),eH (fun c=>r (p c)) (fun l=>f (l.map p)) b=eH r f (b.map p)
 |[],_=>rfl
 |c::b,f=>by
  rw[eH,aeX,eH];have:=sj (r:=r) p b (fun l=>f (p c::l));grind
theorem ue {R:FF} (p:Nat->Nat): ∀(k:Nat) (b:List Nat),om (fun i c=>R i (p c)) k b=om R k (b.map p)
 |0,_=>rfl
 |k+1,b=>by
  have e:om (fun i c=>R i (p c)) k=fun l=>om R k (l.map p):=funext (ue p k)
  simp_all[om,sj]
theorem VN {R:FF} {a k:Nat} {f:List Nat} (p:f.Nodup) (o:f.length=k) (j:a∈f) (m:n∈f) (l:a≠n):om (eR R a (fun i=>R i n)) k f=0:=by
 have e:eR R a (fun i=>R i n)=fun i c=>R i (if c=a then n else c):=by
  grind [eR]
 rw[e,ue (R:=R) (fun c=>if c=a then n else c)];obtain⟨s,t,rfl⟩:=ahR j;have g:n∈s\/n∈t:=by
  grind
 rcases g with h|h
 ·obtain⟨x,y,rfl⟩:=ahR h;grind [y9,FS]
 obtain⟨x,y,rfl⟩:=ahR h;grind [y9,FS]
theorem uY: ∀n,(jc n).length=n
 |0=>rfl
 |n+1=>by rw[jc,ae6,uY n]
theorem xe: ∀n,(jc n).Nodup
 |0=>List.nodup_nil
 |n+1=>afU.2 ⟨fun h=>by have:=iK h;omega,xe n⟩
theorem E4 (h:m<n):m∈jc n:=by
 induction n with
 |zero=>omega
 |succ n b=>
  by_cases e:m=n
  ·rw[e];exact afM
  exact afy _ (b (by omega))
theorem QI (h:m<n): ∃b,jc n=b++m::jc m/\ ∀c∈b,m<c:=by
 induction n with
 |zero=>omega
 |succ n g=>
  by_cases e:m=n
  ·exact⟨[],by rw[e];rfl,fun c f=>by simp at f⟩
  grind [jc]
section
variable {R:FF} {n a b:Nat} (ha:a<n)
include ha
theorem xf (u t:Int) (S T:Nat->Int):dk (eR R a (fun i=>u*S i+t*T i)) n=u*dk (eR R a S) n+t*dk (eR R a T) n:=VM n _ (xe n) (uY n) (E4 ha)
theorem AI (e:b<n) (c:a≠b):dk (eR R a (fun i=>R i b)) n=0:=VN (xe n) (uY n) (E4 ha) (E4 e) c
theorem Oj {S:Nat->Int} (h: ∀i,i<n->S i=0):dk (eR R a S) n=0:=by
 have c:=xf (R:=R) (n:=n) ha 0 0 S S;grind [eR,cy]
theorem kG (f:b<n) (c:a≠b) (t:Int):dk (eR R a (fun i=>R i a+t*R i b)) n=dk R n:=by
 have e:=xf (R:=R) (n:=n) ha 1 t (fun i=>R i a) (fun i=>R i b);grind [rY,AI]
theorem r5:dk (eR R a (fun i=> - R i a)) n= - dk R n:=by
 have c:=xf (R:=R) (n:=n) ha (-1) 0 (fun i=>R i a) (fun i=>R i a);grind [rY]
end
theorem mQ {R:FF} {a:Nat} (l:a<n) (f:m<n) (e:a≠m):dk (fun i c=>if c=a then R i m else if c=m then R i a else R i c) n= - dk R n:=by
 have o:=kG (R:=R) l f e 1;generalize g:eR R a (fun i=>R i a+1*R i m)=R1 at o;have p:=kG (R:=R1) f l (agv e) (-1);generalize h:eR R1 m (fun i=>R1 i m+ -1*R1 i a)=R2 at p;have q:=kG (R:=R2) l f e 1;generalize j:eR R2 a (fun i=>R2 i a+1*R2 i m)=R3 at q;have r:=r5 (R:=R3) f;rw[q,p,o]at r;rw[<- r]
 congr 1
 funext i c;subst j h g;grind [eR]
/-! Rows exchanged. -/
theorem E8 (n:Nat):dk (fun i j=>if i=j then 1 else 0) n=1:=by
 induction n with
 |zero=>rfl
 |succ n e=>
  rw[cB,bk,eH,nF (jc n) _ (fun c b=>by have:=iK b;simp;omega)];grind [dk]
end
theorem gH: ∀x:List Int,dZ x x=0
 |[]=>rfl
 |a::x=>by simp[dZ,gH x]
theorem pF: ∀{x y:List Int},dZ x y=0->x=y
 |[],[],_=>rfl
 |[],_::_,h=>by simp[dZ]at h
 |_::_,[],h=>by simp[dZ]at h
 |a::x,b::y,h=>by
  unfold dZ at h;split at h
  ·omega
  split at h
  ·omega
  rw[pF h,show a=b from by omega]
theorem Wk (A B:Option Addr) (c d:Nat) (a b:List (List Int)) (w:World) (ha:S9 .i64 w A a) (hb:S9 .i64 w B b) (la:a.length<=9223372036854775807) (lb:b.length<=9223372036854775807):
  Calls prog 17 #[.slice A a.length c,.slice B b.length d] w fun e w'=>e= .returned (.bool (decide (a=b)))/\fm w w':=by
 have HA:=aeV ha;have HB:=aeV hb;clear ha hb;by_cases hl:a.length=b.length
 ·have hlb:((a.length:Int) !=(b.length:Int))=false:=by simp[hl]
  have HL:=aeV hl;have hle:a.length<=b.length:=by omega
  clear hl
  go_enter func17,ntmps17
  go_wp2_with fail
  clear hlb
  go_loopw [13,5] (fun i _ wr=> ∃k:Nat,k<=a.length/\i= .int .i64 k/\Hid (fm w wr)/\Hid (∀j,j<k->a[j]?=b[j]?)) (fun i _ _=>a.length-(intOf i).toNat)
  case atStart=>grind [Lib.hid,fm.refl]
  case round=>
   obtain⟨k,hk,rfl,HE,HQ⟩:=hrel;by_cases hlt:k<a.length
   ·obtain⟨x,hx⟩:=getElem?_of_lt hlt;obtain⟨y,hy⟩:=getElem?_of_lt (l:=b) (k:=k) (by omega);obtain⟨b1,o1,B1,c1,rfl,hc1,hcl1,hlx,hr1⟩:=(HA.out.ext HE.out.drew).at_ hx;obtain⟨b2,o2,B2,c2,rfl,hc2,hcl2,hly,hr2⟩:=(HB.out.ext HE.out.drew).at_ hy;have HX:=aeV hx;have HY:=aeV hy;have HR1:=aeV hr1;have HR2:=aeV hr2;have HE1:=aeV HE.out.drew;have hkb:(k:Int)<(b.length:Int):=by omega
    clear hx hy hr1 hr2 HE
    go_wp2_with fail
    refine ee 8 (by kernel_rfl) (by kernel_rfl) ?_;simp only[af6,agX,agp,agx];generalize wr.drew=w3 at*
    iterate 8 still_step
    refine wpStill_nil ?_;have HC:=aeV (rD B1 B2 c1 c2 x y w3 HR1.out HR2.out hlx hly);clear hc1 hc2;by_cases h0:dZ x y=0
    ·have h0':(dZ x y !=0)=false:=by simp[h0]
     have H0:=aeV h0;clear h0
     go_wp2_with fail
     refine HC.out.mono ?_;rintro e w4 ⟨rfl,n,rfl⟩
     go_wp2_with fail
     go_roundw
     case rel=>
      refine⟨k+1,by omega,by go_num,aeV (HE1.out.drewN n),aeV (fun j hj=>?_)⟩;by_cases e:j=k
      ·subst e;rw[HX.out,HY.out,pF H0.out]
      exact HQ.out j (by omega)
     grind [intOf]
    have h0':(dZ x y !=0)=true:=by simp[h0]
    go_wp2_with fail
    refine HC.out.mono ?_;rintro e w4 ⟨rfl,n,rfl⟩
    go_wp2_with fail
    go_ret
    refine⟨D4 (fun h=>?_),HE1.out.drewN n⟩;subst h;have h1:=HX.out;rw[HY.out]at h1;grind [gH]
   go_wp2_with fail
   go_ret
   refine⟨ZW ?_,HE.out⟩;apply aeW;intro j;rcases agT j a.length with h|h
   ·exact HQ.out j (by omega)
   rw[afI h,afI (by have:=HL.out;omega)]
 have hlb:((a.length:Int) !=(b.length:Int))=true:=by simp;omega
 go_enter func17,ntmps17
 go_wp2_with fail
 go_ret
 exact⟨D4 (fun h=>hl (by rw[h])),fm.refl _⟩
section
theorem KK {a:Act} {d:Option Tmp} {k:Nat} (v:Value) (h:d≠some k):(a.put d v).tmps[k]?=a.tmps[k]?:=by
 cases d with
 |none=>rfl
 |some d=>
  grind [Act.put]
def Qc (k:Nat) (b:Value) (c:World) (O X:Nat->Prop) (s:AS) (a:Act) (w:World):Prop:=dP c O X s a w/\a.tmps[k]?=some b
def Hd (P:Program) (k:Nat) (c:Code) (Q:Exit->AS->Prop) (s:AS):Prop:=
 ∀(f:Value) (g:World) (O X:Nat->Prop) (a:Act) (w:World),Qc k f g O X s a w->c.wp P (fun e h j=> ∃b,Q e b/\Qc k f g O X b h j) a w
def VG (k:Nat) (b:Array Oper):Bool:=b.toList.all fun o=>o.dst !=some k
section
variable {P:Program} {k:Nat} {s s':AS} {Q:Exit->AS->Prop}
theorem Qc.weak {a:Act} (h:bN s s') (r:Qc k e w b c s a W):Qc k e w b c s' a W:=⟨h _ _ _ _ _ r.1,r.2⟩
theorem Hf (h:Q .normal s):Hd P k .skip Q s:=fun _ _ _ _ _ _ r=>wp_skip ⟨s,h,r⟩
theorem He {y:Code} {b:Bool} (l:s.ev q=some (.raw (.bool b))) (o:b=true->Hd P k f Q s) (m:b=false->Hd P k y Q s):Hd P k (.cond q f y) Q s:=fun _ _ _ _ _ _ r=>by
 obtain⟨p,n,t,g,e⟩:=id r.1;have j:=(bo (bE e q _ l)).1;exact wp_cond_split j (fun h=>o h _ _ _ _ _ _ r) (fun h=>m h _ _ _ _ _ _ r)
theorem abH {y:Code} (b:s.ev q=some (.raw (.bool true))) (h:Hd P k f Q s):Hd P k (.cond q f y) Q s:=He b (fun _=>h) (fun h=>by cases h)
theorem abG {y:Code} (b:s.ev q=some (.raw (.bool false))) (h:Hd P k y Q s):Hd P k (.cond q f y) Q s:=He b (fun h=>by cases h) (fun _=>h)
theorem VH (h:VG k p=true) (b:p[n]?=some r):r.dst≠some k:=by
 grind [VG]
end
/-! The contract of a function that writes a row. -/
def rho1 (b c:Nat):Rho:=fun a r=>if a=0/\r=0 then some (b,c)else none
structure im (P:Program) (f:FuncId) (args:List TV) (k off len:Nat) (o o':OObj) (r:TV):Prop where
 able:callable P f=true
 es:o'.es=o.es
 size:o'.elems.length=o.elems.length
 pure: ∀e∈o'.elems,∀x∈e,isPure x=true
 noref:noRefTV r=true
 calls: ∀(X:Nat->Prop) (w:World) (vs:Array Value) (b c:Nat),(∀j,X j->j<w.heap.size)-> ¬X b->objRel (rho1 b c) (famH 0 [o]) (fun j=>X j\/j=b) w 0 0 o->vs.size=args.length->
  vs[k]?=some (.slice (some ⟨b,off*o.es,none⟩) len (c-off))->(∀(j:Nat) t,j≠k->args[j]?=some t-> ∃v:Value,vs[j]?=some v/\t.rel (fun _ _=>none) (fun _=>[]) (fun j=>X j\/j=b) w v)->
  Calls P f vs w fun e w'=> ∃v,e= .returned v/\But b w w'/\objRel (rho1 b c) (famH 0 [o']) (fun j=>X j\/j=b) w' 0 0 o'/\r.rel (rho1 b c) (famH 0 [o']) (fun j=>X j\/j=b) w' v
theorem xo1 {X:Nat->Prop} {b c:Nat} {o:OObj}:Xo X (rho1 b c) (famH 0 [o])=fun j=>X j\/j=b:=by
 funext j;apply propext;constructor
 ·rintro(h|⟨a,r,l,e,f,g⟩)
  ·exact .inl h
  grind [rho1]
 rintro(h|rfl)
 ·exact .inl h
 exact .inr ⟨0,0,o,c,rfl,by simp[rho1]⟩
theorem QS {a:Nat} {b:OObj} (h:(famH 0 [g] a)[n]?=some b):a=0/\n=0/\b=g:=by
 grind [famH]
theorem ry {q:Rho} {A:OH} {a z:Nat} (K: ∀e∈g.elems,∀x∈e,isPure x=true) (h:objRel j o b w a n g) (s:q m z=j a n):objRel q A b w m z g:=by
 obtain⟨I,J,t⟩:=h;refine⟨I,J,?_⟩;rw[s];cases L:j a n with
 |none=>grind
 |some B=>
  obtain⟨f,c⟩:=B;rw[L]at t;obtain⟨cells,C,D,E,F,G⟩:=t;refine⟨cells,C,D,E,F,fun i e l x u y=>?_⟩;obtain⟨v,M,N,O⟩:=G i e l x u y;refine⟨v,M,N,?_⟩;have:=K e (adQ u) x (adQ y);cases x with
  |p x=>exact O
  |_=>cases this
theorem xD {n:Rho} {s:OH} (q:noRefTV h=true) (g:h.rel j o b w e):h.rel n s b w e:=by
 have A: ∀x u,iu x=true->AV.rel j o b w x u->AV.rel n s b w x u:=fun x u z F=>by
  cases x with
  |p x=>exact F
  |junk=>trivial
  |_=>cases z
 have agg: ∀m e,m.all iu=true->dK j o b w m e->dK n s b w m e:=fun m e E ⟨vs,t,y,B⟩=>by
  simp only[aeP]at E;exact⟨vs,t,y,fun l x z=>by grind⟩
 cases h with
 |one x=>exact A x e q g
 |agg m=>exact agg m e q g
 |fn f m=>obtain⟨u,C,D⟩:=g;exact⟨u,agg m u q C,D⟩
 |tup I=>
  simp only[noRefTV,aeP]at q;obtain⟨vs,t,y,B⟩:=g;refine⟨vs,t,y,fun l c m G=>?_⟩;grind
def aen (P:Program) (c:Func) (k b len:Nat) (e:OObj) (r:TV) (s:AS):Prop:=
 s.tmps[k]?=some (.one (.sl 0 0 b len))/\s.H=famH 0 [e]/\uh P s c.results.toList=some r
theorem oC {P:Program} {fn:Func} {args:List TV} {k len:Nat} {R:OObj} (hf:P.funcs[l]?=some fn) (hb:fn.body=some f) (hn:callable P l=true) (hk:k<args.length) (ah:0<len) (ad:n+len<=g.elems.length) (ap: ∀e∈g.elems,∀x∈e,isPure x=true) (he:R.es=g.es) (hs:R.elems.length=g.elems.length) (hp: ∀e∈R.elems,∀x∈e,isPure x=true) (hr:noRefTV h=true) (m:Hd P k f (fun e s=>(e= .normal\/e= .ret)/\ ∃s',bN s s'/\aen P fn k n len R h s') ⟨args.set k (.one (.sl 0 0 n len))++List.replicate (fn.ntmps-args.length) .undef,famH 0 [g]⟩):im P l args k n len g R h:=by
 refine⟨hn,he,hs,hp,hr,fun X w vs b A hX ai H ae a0 I=>?_⟩;refine calls_of_wp hf hb ?_;have Y:=xo1 (X:=X) (b:=b) (c:=A) (o:=g);have ag:b<w.heap.size:=by
  obtain⟨_,_,q⟩:=H;grind [rho1]
 have aa:len<=A-n:=by
  obtain⟨_,_,q⟩:=H;grind [rho1]
 have O:Qc k (.slice (some ⟨b,n*g.es,none⟩) len (A-n)) w (fun j=>j=b) X ⟨args.set k (.one (.sl 0 0 n len))++List.replicate (fn.ntmps-args.length) .undef,famH 0 [g]⟩ {tmps:=vs++Array.replicate (fn.ntmps-vs.size) undef,defers:=[]} w:=by
  refine⟨⟨rfl,by simp[ae],rho1 b A,⟨Keep.refl w,fun a h o1 ho=>?_,fun a h a' r' o1 N b1 c1 c2 ho an _ _=>?_,fun a h o1 b1 c1 ho D=>?_,hX,fun a h o1 ho=>?_⟩,fun t x M=>?_⟩,?_⟩
  ·grind [famH]
  ·grind [QS]
  ·grind [rho1]
  ·grind [QS,gh]
  ·show ∃v:Value,_/\x.rel (rho1 b A) (famH 0 [g]) (Xo X (rho1 b A) (famH 0 [g])) w v;rw[Y];by_cases ht:t<args.length
   ·rw[aff (by grind)]at M;by_cases L:t=k
    ·subst L;rw[afu ht]at M;injection M with M
     subst M;exact⟨_,by grind,g,rfl,ad,.inr ⟨b,A,A-n,by simp[rho1],rfl,aa,fun _=>rfl⟩⟩
    rw[afB (agv L)]at M;obtain⟨v,v1,S⟩:=I t x L M;refine⟨v,by grind,TV.rel_map S (fun y u hy=>?_)⟩;cases y with
    |p y=>exact hy
    |sl a h n len=>obtain⟨g,D,_⟩:=hy;simp at D
    |ptr a h i j=>obtain⟨g,_,_,D,_⟩:=hy;simp at D
    |fn l a qs=>grind [Ou]
    |junk=>trivial
   grind [mI]
  grind
 refine wp_mono (m _ _ _ _ _ _ O) fun e a' U ⟨s1,⟨Z,s2,hw,V,B,W⟩,J⟩=>?_
 obtain⟨⟨D,av,ρ,z,C⟩,K⟩:=J.weak hw;have C:bz X ρ s2 a' U:=C;rw[B]at z;obtain⟨v,v1,S⟩:=gU (by rw[B];exact z) C W;rw[B]at S
 -- the row has not moved
 obtain⟨u,T,u2⟩:=C k _ V;rw[K]at T;injection T with T
 subst T;obtain⟨N,g1,g2,g3⟩:=u2;rw[B]at g1;obtain⟨_,_,rfl⟩:=QS g1;have af:ρ 0 0=some (b,A):=by
  grind
 have E:Xo X ρ (famH 0 [N])=fun j=>X j\/j=b:=by
  funext j;apply propext;constructor
  ·rintro(m|⟨a,h,o3,c',D,h2⟩)
   ·exact .inl m
   grind [QS]
  rintro(m|rfl)
  ·exact .inl m
  exact .inr ⟨0,0,N,A,rfl,af⟩
 have ac:=z.objs 0 0 N rfl;rw[E]at ac;rw[E]at S;have F:But b w U:=⟨z.keep.os,z.keep.tape,z.keep.output,z.keep.size,fun j hj ab=>z.keep.block j hj ab⟩;have G:objRel (rho1 b A) (famH 0 [N]) (fun j=>X j\/j=b) U 0 0 N:=by
  grind [ry,rho1]
 have Q:h.rel (rho1 b A) (famH 0 [N]) (fun j=>X j\/j=b) U v:=xD hr S;rcases Z with rfl|rfl
 ·exact⟨D,v,v1,v,rfl,F,G,Q⟩
 exact⟨D,v,v1,v,rfl,F,G,Q⟩
end
section
def jE:TV->Bool
 | .one (.p _)=>true
 | .agg b=>b.all isPure
 |_=>false
theorem BE {ρ:Rho} {H:OH} {Y:Nat->Prop} (g:b=Y) (f:jE h=true) (c:h.rel ρ H Y w e):h.rel j o b w e:=by
 subst g;refine xD ?_ c;unfold jE at f;split at f
 ·rfl
 ·rename_i m;simp only[noRefTV,aeP]at f⊢;intro x l;have:=f x l;cases x<;>first|rfl|cases this
 cases f
def pZ (k:Nat):Nat->List TV->Bool
 |_,[]=>true
 |i,t::l=>(i==k||jE t)&&pZ k (i+1) l
theorem uf {k:Nat}: ∀{l:List TV} {i j:Nat} {t:TV},pZ k i l=true->i+j≠k->l[j]?=some t->jE t=true
 |[],_,_,_,_,_,h=>by simp at h
 |u::l,i,0,t,h,b,c=>by
  grind [pZ]
 |u::l,i,j+1,t,h,b,c=>by
  simp only[pZ,afb]at h;exact uf (i:=i+1) (j:=j) h.2 (by omega) (by grind)
theorem jD {k:Nat} {args:List TV} (h:pZ k 0 args=true): ∀(j:Nat) t,j≠k->args[j]?=some t->jE t=true:=fun j t c b=>uf (i:=0) (j:=j) h (by omega) b
theorem cd {g:Type} (f:g->List PV) (l:List g): ∀e∈lc f l,∀x∈e,isPure x=true:=fun e b x c=>by
 simp only[lc,aeL]at b;obtain⟨y,_,rfl⟩:=b;simp only[aeL]at c;obtain⟨z,_,rfl⟩:=c;rfl
theorem eZ (F:List OObj):Hm [(0,F)]=famH 0 F:=by rfl
section
variable {P:Program} {s:AS} {a:Act} {w0 w:World} {O X:Nat->Prop}
theorem Kj (ag:dP w0 O X s a w) {c:Call} (ho:r.op= .call c) (ad:c.callee= .value (.func l)) {args:List TV} {k len C:Nat} {I:OObj} (E:im P l args k n len g I h) (a7:m<=4999) (hk:k<args.length) (a6:0<len) (ap:gy s.ev c.args.toList=some (args.set k (.one (.sl m C n len)))) (Z: ∀(j:Nat) t,j≠k->args[j]?=some t->jE t=true) (F:(s.H m)[C]?=some g) (a9: ∀e∈g.elems,∀x∈e,isPure x=true) {K:Act->World->Prop} {Q:Exit->Act->World->Prop} (hK: ∀v w',dP w0 O X (AS.put ⟨s.tmps,aK s.H m ((s.H m).set C I)⟩ r.dst h) (a.put r.dst v) w'->K (a.put r.dst v) w'):r.wp P a w K Q:=by
 obtain⟨h1,a2,G,A,R⟩:=ag;have R:bz X G s a w:=R;obtain⟨e1,e2⟩:=co ap;have a1:(args.set k (.one (.sl m C n len)))[k]?=some (.one (.sl m C n len)):=afu hk;obtain⟨x,hx,a4⟩:=e2 k _ a1;obtain⟨B,g1,g2,g3⟩:=bE R x _ a4;rw[F]at g1;injection g1 with g1
 subst g1;obtain⟨b,Y,S,hv⟩: ∃b Y,G m C=some (b,Y)/\a.eval x= .slice (some ⟨b,n*g.es,none⟩) len (Y-n):=by
  grind
 have a8:=A.objs m C g F;have an:Xo X G s.H b:= .inr ⟨m,C,g,Y,F,S⟩;have W:(fun j=>(Xo X G s.H j/\j≠b)\/j=b)=Xo X G s.H:=by
  grind
 have ab: ∀j,Xo X G s.H j->j<w.heap.size:=fun b hb=>by
  rcases hb with hb|⟨x,y,I,z,g1,g2⟩
  ·exact A.bar b hb
  exact bI (A.objs x y I g1) g2
 have ah:=gY (w:=w) ho ad (e:=a.eval) rfl E.able;unfold Oper.wp;rw[ah];simp only[Oper.upon];have aa:c.args.size=args.length:=by grind
 refine(E.calls (fun j=>Xo X G s.H j/\j≠b) w (c.args.map a.eval) b Y (fun j T=>ab j T.1) (fun p=>p.2 rfl) ?_ (by simp[aa]) ?_ ?_).mono ?_
 ·grind [ry,rho1]
 ·grind
 ·intro j t T ht;rw[W];have a3:(args.set k (.one (.sl m C n len)))[j]?=some t:=by grind
  obtain⟨y,hy,a5⟩:=e2 j t a3;refine⟨a.eval y,?_,BE rfl (Z j t T ht) (bE R y t a5)⟩;grind
 rintro e w1 ⟨v,rfl,J,V,af⟩;show K (a.put r.dst v) w1;refine hK v w1 ?_;rw[W]at V af;have av:=(aeI.1 F).1;have U: ∀(x y:Nat) B,(aK s.H m ((s.H m).set C I) x)[y]?=some B->(x=m/\y=C/\B=I)\/(¬(x=m/\y=C)/\(s.H x)[y]?=some B):=fun x y B p=>by
  grind [be,aU]
 have M: ∀(x y:Nat) B,(s.H x)[y]?=some B-> ∃L,(aK s.H m ((s.H m).set C I) x)[y]?=some L/\L.es=B.es/\B.elems.length<=L.elems.length/\G x y=G x y:=fun x y B p=>by
  by_cases hx:x=m
  ·subst hx;by_cases hy:y=C
   ·subst hy;rw[F]at p;injection p with p
    subst p;exact⟨I,by rw[be,afu av],E.es,by rw[E.size];omega,rfl⟩
   grind [be]
  grind [aU]
 have D: ∀(x y:Nat) B,(aK s.H m ((s.H m).set C I) x)[y]?=some B-> ∃L,(s.H x)[y]?=some L:=fun x y B p=>by
  grind
 have ac:Xo X G (aK s.H m ((s.H m).set C I))=Xo X G s.H:=by
  funext j;apply propext;constructor
  ·rintro(p|⟨x,y,B,z,h1,h2⟩)
   ·exact .inl p
   obtain⟨L,N⟩:=D x y B h1;exact .inr ⟨x,y,L,z,N,h2⟩
  rintro(p|⟨x,y,B,z,h1,h2⟩)
  ·exact .inl p
  obtain⟨L,N,_⟩:=M x y B h1;exact .inr ⟨x,y,L,z,N,h2⟩
 have mono: ∀x u,AV.rel G s.H (Xo X G s.H) w x u->AV.rel G (aK s.H m ((s.H m).set C I)) (Xo X G (aK s.H m ((s.H m).set C I))) w1 x u:=fun x u hx=>
  uU an J M (fun x y B b' c' h1 h2 _=>by
   obtain⟨L,N⟩:=D x y B h1;exact .inr ⟨x,y,L,c',N,h2⟩) hx
 have a0:Inv w0 O X (aK s.H m ((s.H m).set C I)) G w1:=by
  refine⟨A.keep.but J (A.old m C g b Y F S).1,fun x y B p=>?_,fun x y x' y' B L j c1 c2 p h' q q'=>?_,fun x y B j c1 p q=>?_,fun j T=>aeT (A.bar j T) J.size,fun x y B p=>?_⟩
  ·rcases U x y B p with⟨rfl,rfl,rfl⟩|⟨ae,p⟩
   ·rw[ac];exact ry E.pure V (by simp[rho1,S])
   refine gt (A.objs x y B p) rfl (fun j c1 T=>?_) mono;refine J.block j (bI (A.objs x y B p) T) ?_;rintro rfl;exact ae (A.inj x y m C B g j c1 Y p F T S)
  ·obtain⟨o3,N⟩:=D x y B p;obtain⟨o4,h4⟩:=D x' y' L h';exact A.inj x y x' y' o3 o4 j c1 c2 N h4 q q'
  ·obtain⟨o3,N⟩:=D x y B p;exact A.old x y o3 j c1 N q
  rcases U x y B p with⟨rfl,rfl,rfl⟩|⟨ae,p⟩
  ·exact gh E.pure
  exact A.self x y B p
 have ai:bz X G ⟨s.tmps,aK s.H m ((s.H m).set C I)⟩ a w1:=fun t x hx=>by
  grind [TV.rel_map]
 refine⟨by grind [kR],by grind [oU,nL],G,by grind [js],xI a2 ai ?_⟩;show h.rel G (aK s.H m ((s.H m).set C I)) (Xo X G (aK s.H m ((s.H m).set C I))) w1 v;rw[ac];exact xD E.noref af
def cwTs (b:Array Oper) (m:Nat) (s:AS):Option (FuncId×List TV):=match b[m]? with
 |some o=>match o.guard,o.op with
  |none,.call c=>match c.callee with
   | .value (.func f)=>match gy s.ev c.args.toList with
    |some e=>some (f,e)
    |none=>none
   |_=>none
  |_,_=>none
 |none=>none
def cwD (b:Array Oper) (m:Nat):Option Tmp:=(b[m]?).bind (·.dst)
def Im (b:Array Oper) (m:Nat) (r:TV) (c e:Nat) (f:OObj) (s:AS):AS:=AS.put ⟨s.tmps,aK s.H c ((s.H c).set e f)⟩ (cwD b m) r
structure Kq (ops:Array Oper) (m:Nat) (f:FuncId) (args:List TV) (k off len fa fr:Nat) (o0:OObj) (s:AS):Prop where
 ts:cwTs ops m s=some (f,args.set k (.one (.sl fa fr off len)))
 row:(s.H fa)[fr]?=some o0
end
end
section
def jF:AV->Bool
 | .p (.raw _)=>true
 | .p (.sl [])=>true
 | .p _=>false
 |_=>true
def Mo:TV->Bool
 | .one x=>jF x
 | .agg b=>b.all jF
 | .tup c=>c.all fun t=>t.2.all jF
 | .fn _ b=>b.all jF
def kg (r:CallRes):Prop:=Mo r.r=true/\ ∀o∈r.fam,∀e∈o.elems,∀x∈e,jF x=true
def xH:TV->Bool
 | .fn _ b=>b.all isPure
 |t=>jE t
def aaP (H:OH) (t u:TV):Prop:=(xH t=true/\u=t)\/ ∃a r b len,t= .one (.sl a r b len)/\ve H a/\f5 H a t=u
def ArgsFz (H:OH):List TV->List TV->Prop
 |[],[]=>True
 |t::b,u::c=>aaP H t u/\ArgsFz H b c
 |_,_=>False
theorem Dn {H:OH}: ∀{b c:List TV},ArgsFz H b c->c.length=b.length/\ ∀(j:Nat) u,c[j]?=some u-> ∃t,b[j]?=some t/\aaP H t u
 |[],[],_=>⟨rfl,fun j u h=>by simp at h⟩
 |t::b,u::c,⟨l,e⟩=>by
  obtain⟨f,g⟩:=Dn e;grind
 |[],_::_,h=>h.elim
 |_::_,[],h=>h.elim
section
variable {P:Program} {s:AS} {a:Act} {w0 w w1:World} {O X:Nat->Prop} {ρ:Rho} {H:OH}
theorem nd {x:AV} (y:jF x=true) (h:AV.rel ρ H b w x e):AV.rel ρ H c w x e:=by
 cases x with
 |p x=>
  cases x with
  |raw u=>
   obtain⟨rfl,A⟩:=bo (ρ:=ρ) (H:=H) h;exact bS.raw _ A
  |sl q=>
   cases q with
   |nil=>
    have h:bS b w (.sl []) e:=h;generalize n:PV.sl []=x at h;cases h with
    |raw e h=>cases n
    |ptr g o z f B C D F=>cases n
    |nil a l=>exact bS.nil _ _
    |sl g o G cap q f B C E t I D F=>
     injection n with n
     subst n;exact bS.nil _ _
   |cons m q=>cases y
  |ptr z=>cases y
 |sl a r o len=>exact h
 |ptr a r i j=>exact h
 |fn=>exact h
 |junk=>trivial
theorem qf (n:Mo h=true) (l:h.rel ρ H b w e):h.rel ρ H c w e:=by
 have agg: ∀m e,m.all jF=true->dK ρ H b w m e->dK ρ H c w m e:=fun m e z ⟨vs,o,p,q⟩=>by
  simp only[aeP]at z;exact⟨vs,o,p,fun j x B=>by grind [nd]⟩
 cases h with
 |one x=>exact nd n l
 |agg m=>exact agg m e n l
 |fn f m=>obtain⟨u,r,y⟩:=l;exact⟨u,agg m u n r,y⟩
 |tup C=>
  simp only[Mo,aeP]at n;obtain⟨vs,o,p,q⟩:=l;refine⟨vs,o,p,fun j g m A=>?_⟩;grind [nd]
theorem nK {t:TV} (f:jE t=true) (h:t.rel ρ H b w e):t.rel j o (fun _=>False) w e:=by
 refine BE (Y:=fun _=>False) rfl f ?_ (ρ:=ρ) (H:=H);unfold jE at f;split at f
 ·exact bS.weaken (fun _ _ h=>h.elim) h
 ·rename_i y;simp only[aeP]at f;obtain⟨vs,l,m,n⟩:=h;refine⟨vs,l,m,fun c x g=>?_⟩;obtain⟨u,p,q,r⟩:=n c x g;have:=f x (adQ g);refine⟨u,p,q,?_⟩;cases x<;>first|exact bS.weaken (fun _ _ h=>h.elim) r|cases this
 cases f
theorem rB (g:xH h=true) (c:h.rel ρ H b w e):h.rel j o (fun _=>False) w e:=by
 cases h with
 |fn f l=>
  obtain⟨u,m,n⟩:=c;exact⟨u,nK (t:= .agg l) g m,n⟩
 |one x=>exact nK g c
 |agg l=>exact nK g c
 |tup p=>exact nK g c
theorem Y1 (t: ∀(x m:Nat) (o:OObj),(H x)[m]?=some o->objRel ρ H b w x m o) {p len:Nat} (C:ve H n) (q:f5 H n (.one (.sl n m p len))=h) (f:AV.rel ρ H b w (.sl n m p len) e):h.rel (fun _ _=>none) (fun _=>[]) (fun _=>False) w e:=by
 have g: ∀x h,isPure x=true->AV.rel ρ H b w x h->bS (fun _=>False) w (unP x) h:=fun x h A f=>by
  cases x<;>first|exact bS.weaken (fun _ _ f=>f.elim) f|cases A
 have j: ∀(m:Nat) o,(H n)[m]?=some o-> ∀c∈o.elems,∀x∈c,∀h,AV.rel ρ H b w x h->bS (fun _=>False) w (qo H n x) h:=fun m o F c B x G h q=>by
  rcases C m o F c B x G with A|⟨K,p,len,J,rfl,l,D⟩
  ·have:=g x h A q;cases x<;>first|exact this|cases A
  simp only[qo,l];exact sG (t n K J l) l (fun c B y I h q=>g y h (D c B y I) q) (fun _ _ _ f=>f) q
 subst q;have E:=f;obtain⟨o,z,L,M⟩:=f;simp only[f5,gn,if_true,z];exact sG (t n m o z) z (j m o z) (fun _ _ _ f=>f) E
theorem VL (R:dP w0 O X s a w) {c:Call} (D:r.op= .call c) (J:c.callee= .value (.func l)) {args:List TV} {res:CallRes} (B:CallC P l args res) (q:kg res) {ts:List TV} {d:Nat} (W:gy s.ev c.args.toList=some ts) (I:ArgsFz s.H ts args) (hd:res.fam≠[]->s.H d=[]) (L:r.dst=some d) {K:Act->World->Prop} {Q:Exit->Act->World->Prop} (hK: ∀v w',dP w0 O X (kq s d (renTV d res.r) (res.fam.map (renO d))) (a.put r.dst v) w'->K (a.put r.dst v) w'):r.wp P a w K Q:=by
 obtain⟨h1,T,ρ,m,A⟩:=R;have A:bz X ρ s a w:=A;obtain⟨e1,e2⟩:=co W;obtain⟨q1,q2⟩:=Dn I;have G: ∀j,Xo X ρ s.H j->j<w.heap.size:=fun b C=>by
  rcases C with C|⟨x,y,o',n,g1,g2⟩
  ·exact m.bar b C
  exact bI (m.objs x y o' g1) g2
 have S:=gY (w:=w) D J (e:=a.eval) rfl B.1;unfold Oper.wp;rw[S];simp only[Oper.upon];have E:c.args.size=args.length:=by grind
 refine(B.2 (fun _=>False) w (c.args.map a.eval) (fun j hj=>hj.elim) (by simp[E]) fun j u hu=>?_).mono ?_
 ·obtain⟨t,ht,V⟩:=q2 j u hu;obtain⟨y,hy,ac⟩:=e2 j t ht;refine⟨a.eval y,?_,?_⟩
  ·grind
  have U:=bE A y t ac;rcases V with⟨hp,rfl⟩|⟨fa,g,ae,len,rfl,aa,Z⟩
  ·exact rB hp U
  exact Y1 m.objs aa Z U
 rintro e w1 ⟨v,rfl,p,F,U⟩;show K (a.put r.dst v) w1;have M: ∀(x g:Nat) r,(famH 0 res.fam x)[g]?=some r->r∈res.fam:=fun x g r D=>by
  grind [famH]
 have N: ∀{Y Y':Nat->Prop} (x g:Nat) r,r∈res.fam->objRel p (famH 0 res.fam) Y w1 x g r->objRel p (famH 0 res.fam) Y' w1 x g r:=fun{Y Y'} x g r hmem hob=>
  dV hob rfl (fun _ _ _=>rfl) fun e he z hz _ u3=>nd (q.2 r hmem e he z hz) u3
 by_cases ab:res.plain=true
 ·rw[L];have:=gW (P:=P) (it:=(⟨0,l,args,res⟩:dD P)) (d:=d) (v:=v) (w1:=w1) (ρc:=p) h1 T m A rfl rfl (fun h:res.fam.map (renO d)≠[]=>hd (by grind)) (by grind) (by grind);grind
 have ad:Inv w (fun _=>False) (Xo X ρ s.H) (famH 0 res.fam) p w1:=
  ⟨F.keep,fun x g r D=>N x g r (M x g r D) (F.objs x g r D),F.inj,fun x g r b c D C=>by
   have:=F.old x g r b c D C;grind,fun b C=>aeT (G b C) F.keep.size,F.self⟩
 have:=gW (P:=P) (it:=(⟨0,l,args,res⟩:dD P)) (d:=d) (v:=v) (w1:=w1) (ρc:=p) h1 T m A rfl rfl (fun h:res.fam.map (renO d)≠[]=>hd (by grind)) (by grind) (by rw[if_neg ab];exact qf q.1 U);grind
def K2 (b:Array Oper) (m:Nat) (res:CallRes) (s:AS):AS:=match cwD b m with
 |some d=>kq s d (renTV d res.r) (res.fam.map (renO d))
 |none=>s
structure adr (ops:Array Oper) (m:Nat) (f:FuncId) (args:List TV) (res:CallRes) (s:AS):Prop where
 ts: ∃ts,cwTs ops m s=some (f,ts)/\ArgsFz s.H ts args
 dst: ∃d,cwD ops m=some d/\(res.fam≠[]->s.H d=[])
theorem Qg (m:Nat) {args:List TV} {res:CallRes} (v:CallC P l args res) (r:kg res) (b:List (ar P)) (n:List Nat) {id:Nat} {Q:Exit->AS->Prop} (R:s.tmps.length<=1000000) (S:m<p.toList.length) (h:bM P (b.map ar.a) n (aV p (p.toList.take m) 0) (some s) (fun g=>adr p m l args res g/\g.tmps.length<=1000000/\bM P (b.map ar.a) n (aV p (p.toList.drop (m+1)) (m+1)) (some (K2 p m res g)) (Q .normal))):bv P (.region id p false) Q s:=fun w0 O X a w F=>by
 obtain⟨g,A,⟨⟨G,e,T⟩,⟨d,U,V⟩⟩,C,B⟩:=aO P (b.map ar.a) n p _ 0 s _ h;obtain⟨Y,K,L⟩:=aO P (b.map ar.a) n p _ (m+1) _ _ B;obtain⟨o,y⟩: ∃o,p[m]?=some o:=⟨p[m],by simp⟩;have x:o.dst=some d:=by
  grind [cwD]
 unfold cwTs at e;rw[y]at e;simp only at e;split at e
 ·rename_i c M z;split at e
  ·rename_i J u;split at e
   ·rename_i Z D;injection e with e
    injection e with e E
    subst e E;refine wp_region ?_;have t:p.size=(p.toList.take m).length+(1+(p.toList.drop (m+1)).length):=by grind
    rw[t,afi,<- afk,afm];have q:(p.toList.take m).length=m:=by grind
    refine jt (ar.ok b) (p.toList.take m) 0 s g a w (fun j o N=>?_) A F fun I w' W=>?_
    ·grind
    rw[q,agn 1,afj];simp only[wpOps,y];grind [Region.wanted,VL,fC,ar.ok,K2]
   cases e
  cases e
 cases e
theorem pj (m:Nat) {args:List TV} {res:CallRes} (e:CallC P l args res) (c:kg res) (b:List (ar P)) (j:List Nat) {id:Nat} {Q:Exit->AS->Prop} (o:s.tmps.length<=1000000) (q:m<p.toList.length) (h: ∀K:AS->Prop,(∀g,(adr p m l args res g/\g.tmps.length<=1000000/\ ∀K:AS->Prop,(∀n,bv P f Q n->K n)->bM P (b.map ar.a) j (aV p (p.toList.drop (m+1)) (m+1)) (some (K2 p m res g)) K)->K g)->bM P (b.map ar.a) j (aV p (p.toList.take m) 0) (some s) K):bv P (.seq (.region id p false) f) Q s:=
 aj (Qg m e c b j o q (h _ fun g ⟨r,t,u⟩=>⟨r,t,u _ fun _ h=>h⟩))
end
end
end Go.Proofs.YtalmoejhjceflaaGreat
