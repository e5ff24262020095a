/-
  Part 25 of a proof (walks and plain facts).
-/
import Derived.Test.YtiollbhgpiiodaaGreatDoorQ23
set_option linter.all false
set_option maxRecDepth 100000
set_option maxHeartbeats 64000000
open Nat renaming reduceAdd → aa
open Nat renaming le_refl → ac
open List renaming getElem?_eq_getElem → au
open List renaming length_map → ax
namespace Go.Proofs.YtiollbhgpiiodaaGreatDoor
open Go.RowKit
section
variable {n:Nat}
def vL (l:List (Int×List Int)) (a:Nat):Nat->Int:=fun i=>((l.getD a (0,[])).2).getD i 0
def kL (l:List (Int×List Int)) (a:Nat):Int:=(l.getD a (0,[])).1
theorem qM {α:Type} (l:List α) (x d:α) {a:Nat}:(a<l.length->(l++[x]).getD a d=l.getD a d)/\(l++[x]).getD l.length d=x:=by
 refine⟨fun h=>?_,?_⟩
 ·rw[List.getD_eq_getElem?_getD,List.getD_eq_getElem?_getD,List.getElem?_append_left h]
 rw[List.getD_eq_getElem?_getD,List.getElem?_append_right (ac _),Nat.sub_self];rfl
theorem FB (l:List (Int×List Int)) (x:Int×List Int) {a:Nat} (h:a<l.length):vL (l++[x]) a=vL l a:=by unfold vL;rw[(qM l x (0,[])).1 h]
theorem LT (l:List (Int×List Int)) (x:Int×List Int) {a:Nat} (h:a<l.length):kL (l++[x]) a=kL l a:=by unfold kL;rw[(qM l x (0,[])).1 h]
theorem Ht (l:List (Int×List Int)) (x:Int×List Int):vL (l++[x]) l.length=fun i=>x.2.getD i 0:=by unfold vL;rw[(qM l x (0,[]) (a:=0)).2]
theorem Pz (l:List (Int×List Int)) (x:Int×List Int):kL (l++[x]) l.length=x.1:=by unfold kL;rw[(qM l x (0,[]) (a:=0)).2]
theorem LU {l:List (Int×List Int)} {a:Nat} (h:a<l.length): ∃x∈l,kL l a=x.1/\vL l a=fun i=>x.2.getD i 0:=by
 refine⟨l[a],List.getElem_mem h,?_,?_⟩
 ·unfold kL;rw[List.getD_eq_getElem?_getD,au h];rfl
 unfold vL;rw[List.getD_eq_getElem?_getD,au h];rfl
theorem xT {a m:Nat} (ha:a<m) (F:Nat->Int):1*F a=smF (fun b=>(if b=a then 1 else 0)*F b) m:=by
 rw[gU (a:=a) ha fun p _ hne=>by rw[if_neg hne,Int.zero_mul],if_pos rfl]
theorem zr {s m:Nat} (hs:s<=m) (c F:Nat->Int):smF (fun b=>(if b<s then c b else 0)*F b) m=smF (fun b=>c b*F b) s:=by
 obtain⟨d,rfl⟩: ∃d,m=s+d:=⟨m-s,by omega⟩
 induction d with
 |zero=>exact aI _ fun b hb=>by rw[if_pos (show b<s from hb)]
 |succ d ih=>show smF _ (s+d+1)=_;rw[smF,ih (by omega),if_neg (by omega),Int.zero_mul,Int.add_zero]
theorem IndV.congr {m:Nat} {X Y:FF} (h:IndV n m X) (e: ∀a,a<m->Y a=X a):IndV n m Y:=fun c hc=>h c fun i hi=>by
 rw[<- hc i hi];exact aI m fun a ha=>by rw[e a ha]
theorem LL {m:Nat} {X:FF} (hI:IndV n m X) (hn: ¬IndV n (m+1) X): ∃(q:Int) (c:Nat->Int),q≠0/\ ∀i,i<n->q*X m i=smF (fun b=>c b*X b i) m:=by
 obtain⟨c,hc⟩:=Classical.not_forall.1 hn;obtain⟨h1,h2⟩:=Classical.not_imp.1 hc;obtain⟨a,ha⟩:=Classical.not_forall.1 h2;obtain⟨ha,hca⟩:=Classical.not_imp.1 ha;have key: ∀i,i<n->c m*X m i=smF (fun b=> -c b*X b i) m:=fun i hi=>by
  have h3:=h1 i hi;rw[smF]at h3;have h4:smF (fun b=> -c b*X b i) m= -1*smF (fun b=>c b*X b i) m:=by rw[<- bH];exact aI m fun b _=>by grind
  rw[h4];omega
 refine⟨c m,fun b=> -c b,fun h0=>?_,key⟩;have h5: ∀b,b<m->c b=0:=hI c fun i hi=>by
  have h3:=h1 i hi;rw[smF,h0]at h3;omega
 by_cases e:a=m
 ·rw[e]at hca;exact hca h0
 exact hca (h5 a (by omega))
def grS (n:Nat):List (Int×List Int)->List (Int×List Int)->List (Int×List Int)
 |[],ch=>ch
 |x::r,ch=>if ch.length<rkF n (rK (ch.length+1) (vL (ch++[x])))then grS n r (ch++[x])else grS n r ch
structure VW (n:Nat) (pre ch:List (Int×List Int)):Prop where
 ind:IndV n ch.length (vL ch)
 asc:ch.Pairwise fun a b=>a.1<=b.1
 sub: ∀x∈ch,x∈pre
 hng: ∀x∈pre,∃s,s<=ch.length/\(∀b,b<s->kL ch b<=x.1)/\ ∃(q:Int) (c:Nat->Int),q≠0/\ ∀i,i<n->q*x.2.getD i 0=smF (fun b=>c b*vL ch b i) s
theorem zD: ∀(rest pre ch:List (Int×List Int)),(pre++rest).Pairwise (fun a b=>a.1<=b.1)->VW n pre ch->VW n (pre++rest) (grS n rest ch)
 |[],pre,ch,_,h=>by rw[List.append_nil];exact h
 |x::r,pre,ch,hs,h=>by
  have e:pre++x::r=(pre++[x])++r:=by simp
  have hle: ∀y∈pre,y.1<=x.1:=fun y hy=>(List.pairwise_append.1 hs).2.2 y hy x List.mem_cons_self
  have hI':IndV n ch.length (vL (ch++[x])):=h.ind.congr fun a ha=>FB ch x ha
  have hlk: ∀b,b<ch.length->kL ch b<=x.1:=fun b hb=>by
   obtain⟨y,hy,hk,_⟩:=LU hb;rw[hk];exact hle y (h.sub y hy)
  rw[grS];split
  ·rename_i hlt;rw[e]at hs⊢;refine zD r (pre++[x]) (ch++[x]) hs ⟨?_,?_,?_,?_⟩
   ·rw[List.length_append];refine Classical.byContradiction fun hno=>?_
    obtain⟨q,c,hq,hc⟩:=LL hI' hno;have:=Ql (s:=ch.length) (CK n _) (Y:=vL (ch++[x])) (m:=ch.length+1) (X:=vL (ch++[x])) (fun a ha=>by
     by_cases e:a=ch.length
     ·rw[e];exact⟨q,c,hq,hc⟩
     exact⟨1,fun b=>if b=a then 1 else 0,by decide,fun i _=>xT (by omega) fun b=>vL (ch++[x]) b i⟩)
    omega
   ·refine List.pairwise_append.2 ⟨h.asc,List.pairwise_singleton _ _,fun a ha b hb=>?_⟩;rw[List.mem_singleton.1 hb];exact hle a (h.sub a ha)
   ·intro y hy;rcases List.mem_append.1 hy with h1|h1
    ·exact List.mem_append_left _ (h.sub y h1)
    exact List.mem_append_right _ h1
   intro y hy;rcases List.mem_append.1 hy with h1|h1
   ·obtain⟨s,hs1,hs2,q,c,hq,hc⟩:=h.hng y h1;refine⟨s,by rw[List.length_append];omega,fun b hb=>by rw[LT ch x (by omega)];exact hs2 b hb,q,c,hq,fun i hi=>?_⟩;rw[hc i hi];exact aI s fun b hb=>by rw[FB ch x (by omega)]
   rw[List.mem_singleton.1 h1];refine⟨ch.length+1,by simp,fun b hb=>?_,1,fun b=>if b=ch.length then 1 else 0,by decide,fun i hi=>?_⟩
   ·by_cases e:b=ch.length
    ·rw[e,Pz];exact Int.le_refl _
    rw[LT ch x (by omega)];exact hlk b (by omega)
   have:=xT (show ch.length<ch.length+1 by omega) fun b=>vL (ch++[x]) b i
   rw[Ht]at this;exact this
  rename_i hlt;rw[e]at hs⊢;refine zD r (pre++[x]) ch hs ⟨h.ind,h.asc,fun y hy=>List.mem_append_left _ (h.sub y hy),fun y hy=>?_⟩;rcases List.mem_append.1 hy with h1|h1
  ·exact h.hng y h1
  rw[List.mem_singleton.1 h1];have hno: ¬IndV n (ch.length+1) (vL (ch++[x])):=fun hi=>hlt (Nat.lt_of_lt_of_le (Nat.lt_succ_self _) (Tw (CK n _) hi))
  obtain⟨q,c,hq,hc⟩:=LL hI' hno;refine⟨ch.length,ac _,hlk,q,c,hq,fun i hi=>?_⟩;have:=hc i hi;rw[Ht]at this;rw[this];exact aI _ fun b hb=>by rw[FB ch x hb]
theorem x6 {h t:FF} (hn:n<=4) (pg:PD (cngF n h t) n) (mg:MinkP (cngF n h t) n) (ht:lZ n t) {i m:Nat} (hi:i<n) {X:FF} (hI:IndV n m X)
  (hX: ∀a,a<m->nrm n h (X a)<cngF n h t i i):m<=i:=by
 refine Nat.le_of_not_lt fun hl=>?_
 obtain⟨s,hs⟩:=ht.rinv;obtain⟨y,hy⟩: ∃y:Nat->Nat->Int,y=fun a=>s (X a):=⟨_,rfl⟩
 have hyX: ∀a j,j<n->mV n t (y a) j=X a j:=fun a j hj=>by rw[hy];exact hs _ j hj
 have hN: ∀a,nrm n (cngF n h t) (y a)=nrm n h (X a):=fun a=>by rw[<- Tl];exact fm (hyX a)
 have hzero: ∀a,a<m-> ∀d k,d+k+1=n->i<=k->y a k=0:=fun a ha d=>by
  induction d using Nat.strongRecOn with
  |_ d ih=>
   intro k hk hik;refine Classical.byContradiction fun hne=>?_
   have h1:=Ma pg mg hn (show k<n by omega) hne (fun j hj hjn=>ih (n-j-1) (by omega) j (by omega) (by omega));have h2:=oR mg (show k<n by omega) i hik;have h3:=hX a ha;rw[hN]at h1;omega
 obtain⟨c,⟨a,ha,hc⟩,h0⟩:=vn hl (fun k a=>y a k);refine hc (hI c (fun r hr=>?_) a ha);rw[aI m (G:=fun a=>smF (fun k=>t r k*(y a k*c a)) n) (fun b _=>by
  rw[<- hyX b r hr];unfold mV;rw[<- bH];exact aI n fun k _=>by grind),eQ,aI n (G:=fun _=>0) (fun k hk=>by
  rw[bH];by_cases hki:k<i
  ·rw[h0 k hki,Int.mul_zero]
  rw[aI m (G:=fun _=>0) (fun b hb=>by rw[hzero b hb (n-k-1) k (by omega) (by omega),Int.zero_mul]),cX,Int.mul_zero]),cX]
theorem IS:IndV n n eC:=fun c hc a ha=>by
 have:=hc a ha;rwa[gU (a:=a) ha (fun p _ hne=>by unfold eC;rw[if_neg (Ne.symm hne),Int.mul_zero]),show eC a a=1 from if_pos rfl,Int.mul_one]at this
theorem Cg {h t:FF} {B:Int} (hn:n<=4) (pg:PD (cngF n h t) n) (mg:MinkP (cngF n h t) n) (ht:lZ n t) {its:List (Int×List Int)}
  (hs:its.Pairwise fun a b=>a.1<=b.1) (hk: ∀x∈its,x.1=nrm n h fun i=>x.2.getD i 0)
  (hall: ∀z:Nat->Int,(∃i,i<n/\z i≠0)->nrm n h z<=B-> ∃x∈its,∃e:Int,(e=1\/e= -1)/\ ∀i,i<n->x.2.getD i 0=e*z i) (hB: ∀j,j<n->h j j<=B):
  (grS n its []).map Prod.fst=(List.range n).map fun i=>cngF n h t i i:=by
 have hG:=zD (n:=n) its [] [] hs ⟨(fun c hc a ha=>by simp at ha),List.Pairwise.nil,(fun x hx=>by cases hx),fun x hx=>by cases hx⟩;rw[List.nil_append]at hG;generalize grS n its []=ch at*
 have hkv: ∀a,a<ch.length->kL ch a=nrm n h (vL ch a):=fun a ha=>by
  obtain⟨x,hx,h1,h2⟩:=LU ha;rw[h1,h2];exact hk x (hG.sub x hx)
 have hmono: ∀a b,a<=b->b<ch.length->kL ch a<=kL ch b:=fun a b hab hb=>by
  by_cases e:a=b
  ·rw[e];exact Int.le_refl _
  have:=List.pairwise_iff_getElem.1 hG.asc a b (by omega) hb (by omega);unfold kL;rw[List.getD_eq_getElem?_getD,List.getD_eq_getElem?_getD,au (show a<ch.length by omega),au hb];exact this
 -- no more than n vectors
 have hL:ch.length<=n:=Nat.le_of_not_lt fun hl=>by
  obtain⟨c,⟨a,ha,hc⟩,h0⟩:=vn hl (fun i a=>vL ch a i);exact hc (hG.ind c (fun i hi=>by rw[<- h0 i hi];exact aI _ fun b _=>Int.mul_comm _ _) a ha)
 -- each one is at least as long as the basis vector
 have lo: ∀i,i<ch.length->cngF n h t i i<=kL ch i:=fun i hi=>Int.le_of_not_gt fun hl=>by
  have hI:IndV n (i+1) (vL ch):=fun c hc a ha=>by
   have:=hG.ind (fun b=>if b<i+1 then c b else 0) (fun j hj=>by
    rw[zr (by omega) c fun b=>vL ch b j];exact hc j hj) a (by omega)
   rwa[if_pos ha]at this
  have:=x6 hn pg mg ht (show i<n by omega) hI (fun a ha=>by
   rw[<- hkv a (by omega)];have:=hmono a i (by omega) hi;omega)
  omega
 have dB: ∀i,i<n->cngF n h t i i<=B:=fun i hi=>Int.le_of_not_gt fun hl=>by
  have:=x6 hn pg mg ht hi (IS (n:=n)) (fun a ha=>by
   rw[km ha];have:=hB a ha;omega)
  omega
 -- and at most as long
 have hi: ∀i,i<n->i<ch.length/\kL ch i<=cngF n h t i i:=fun i hi=>by
  refine Classical.byContradiction fun hno=>?_
  have hno: ∀s,s<=ch.length->(∀b,b<s->kL ch b<=cngF n h t i i)->s<=i:=fun s hs1 hs2=>Nat.le_of_not_lt fun hl=>hno ⟨by omega,hs2 i hl⟩
  have hang: ∀a,a<i+1-> ∃(q:Int) (c:Nat->Int),q≠0/\ ∀j,j<n->q*t j a=smF (fun b=>c b*vL ch b j) i:=fun a ha=>by
   have hnr:nrm n h (fun j=>t j a)=cngF n h t a a:=(fC n h t a a).symm;have hnz: ∃j,j<n/\t j a≠0:=Classical.byContradiction fun hz=>by
    have h1:=pg.diag (show a<n by omega);rw[<- hnr]at h1;have:nrm n h (fun j=>t j a)=0:=jE fun j hj=>Classical.byContradiction fun hne=>hz ⟨j,hj,hne⟩
    omega
   have hai:=oR mg hi a (by omega);obtain⟨x,hx,e,he,hxe⟩:=hall (fun j=>t j a) hnz (by rw[hnr];have:=dB i hi;omega);obtain⟨s,hs1,hs2,q,c,hq,hc⟩:=hG.hng x hx;have hxn:x.1=cngF n h t a a:=by
    rw[hk x hx,<- hnr];have e1:nrm n h (fun i=>x.2.getD i 0)=nrm n h (fun j=>e*t j a):=fm hxe;rw[e1];rcases he with rfl|rfl
    ·exact fm fun j _=>by rw[Int.one_mul]
    rw[<- GU h (fun j=>t j a)];exact fm fun j _=>by omega
   have hsi:=hno s hs1 (fun b hb=>by have:=hs2 b hb;omega);refine⟨q*e,fun b=>if b<s then c b else 0,Int.mul_ne_zero hq (by omega),fun j hj=>?_⟩;have h1:=hc j hj;rw[hxe j hj]at h1;rw[Int.mul_assoc,h1];exact(zr hsi c fun b=>vL ch b j).symm
  -- i + 1 columns of t hang on i vectors
  obtain⟨Q,hQ⟩: ∃Q:Nat->Int×(Nat->Int),∀a,a<i+1->(Q a).1≠0/\ ∀j,j<n->(Q a).1*t j a=smF (fun b=>(Q a).2 b*vL ch b j) i:=by
   refine Classical.axiomOfChoice (r:=fun a (p:Int×(Nat->Int))=>a<i+1->p.1≠0/\ ∀j,j<n->p.1*t j a=smF (fun b=>p.2 b*vL ch b j) i) fun a=>?_
   by_cases ha:a<i+1
   ·obtain⟨q,c,h1,h2⟩:=hang a ha;exact⟨(q,c),fun _=>⟨h1,h2⟩⟩
   exact⟨(0,fun _=>0),fun h=>absurd h ha⟩
  obtain⟨c,⟨a,ha,hca⟩,h0⟩:=vn (show i<i+1 by omega) (fun b a=>(Q a).2 b);have hker:=IT pg (x:=fun a=>if a<i+1 then c a*(Q a).1 else 0) (fun r hr=>by
   rw[aI n (G:=fun a=>(if a<i+1 then c a*(Q a).1 else 0)*t r a) (fun a _=>Int.mul_comm _ _),zr (by omega) (fun a=>c a*(Q a).1) (fun a=>t r a),
    aI (i+1) (G:=fun a=>smF (fun b=>vL ch b r*((Q a).2 b*c a)) i) (fun a ha=>by rw[Int.mul_assoc,(hQ a ha).2 r hr,<- bH];exact aI i fun b _=>by grind),eQ,
    aI i (G:=fun _=>0) (fun b hb=>by rw[bH,h0 b hb,Int.mul_zero]),cX]) a (by omega)
  rw[if_pos ha]at hker;rcases Int.mul_eq_zero.1 hker with h1|h1
  ·exact hca h1
  exact(hQ a ha).1 h1
 have hln:ch.length=n:=by
  cases n with
  |zero=>omega
  |succ n=>have:=(hi n (by omega)).1;omega
 refine List.ext_getElem (by simp[hln]) fun i h1 h2=>?_
 rw[List.getElem_map,List.getElem_map,List.getElem_range];have hin:i<n:=by simpa[hln] using h1
 have e:kL ch i=(ch[i]'(by omega)).1:=by unfold kL;rw[List.getD_eq_getElem?_getD,au (by omega)];rfl
 rw[<- e];have:=lo i (by omega);have:=(hi i hin).2;omega
end
theorem M1 (n:Nat): ∀m k (b:FF) (last:Int),rkQ n m k b last<=k+m
 |0,k,_,_=>ac k
 |m+1,k,b,last=>by
  rw[rkQ];split
  ·omega
  exact Nat.le_trans (M1 n m (k+1) _ _) (by omega)
theorem Tv (n:Nat) (W:FF):rkF n W<=n:=by
 have:=M1 n n 0 W 1;rwa[Nat.zero_add]at this
theorem T9 (l:List (Int×List Int)):xL (l.map Prod.snd)=vL l:=by
 funext a i;unfold xL vL;rw[List.getD_eq_getElem?_getD (l:=l.map Prod.snd),List.getD_eq_getElem?_getD (l:=l),List.getElem?_map];cases l[a]?<;>rfl
theorem Lu {n:Nat} {f:FF} {B:Int} (hn:n<=4) (hr:RedR f n) (h0:0<=B) (hB:B<=262144): ∀k (y:List Int),y.length+k=n->yR y->lh f n B k (cw n y)-> ∀z∈qH f n B k y,yR z
 |0,y,_,hy,_,z,hz=>by
  rw[qH,List.mem_singleton]at hz;rw[hz];exact hy
 |k+1,y,hk,hy,hP,z,hz=>by
  rw[qH,List.mem_flatMap]at hz;obtain⟨x,hx,hz⟩:=hz;obtain⟨hl,hh⟩:=zZ.1 hx;obtain⟨b1,b2⟩:=oN hr hn h0 hB hk hy hP;have ht: ∀i,k<i->i<n->cw n (x::y) i=cw n y i:=fun i h1 _=>ky hk h1
  refine Lu hn hr h0 hB k (x::y) (by rw[List.length_cons];omega) (hy.cons (by omega)) ?_ z hz;rw[lI hr.pd (by omega) ((lh.tail hr.pd (by omega) fun i h1 h2=>ht i h1 h2).2 hP),kA hk,qS hr.pd (by omega) ht,qN hr.pd (by omega) ht];exact⟨hl,hh⟩
theorem Lt {n:Nat} {f:FF} {B:Int} (hn:n<=4) (hr:RedR f n) (h0:0<=B) (hB:B<=262144) {z:List Int} (hz:z∈qH f n B n []):z.length=n/\ ∀c∈z,c.natAbs<=5704253440:=by
 have h1:=((zX hr.pd h0 z).1 hz).1;refine⟨h1,fun c hc=>?_⟩;have h2:=(Lu hn hr h0 hB n [] (by simp) yR.nil (tQ hr.pd h0) z hz).bd c hc;exact Nat.le_trans h2 (lX _ (by omega))
theorem zL {l:List (Int×List Int)} {x:Int×List Int}:x∈zJ l↔x∈l/\zm x.2=true:=by
 have key: ∀(l acc:List (Int×List Int)),x∈l.foldl (fun acc x=>if zm x.2=true then nW x acc else acc) acc↔(x∈l/\zm x.2=true)\/x∈acc:=by
  intro l
  induction l with
  |nil=>intro acc;simp
  |cons y l ih=>
   intro acc;rw[List.foldl_cons,ih];by_cases h:zm y.2=true
   ·rw[if_pos h,ws,List.mem_cons];constructor
    ·rintro(h1|rfl|h1)
     ·exact .inl ⟨.inr h1.1,h1.2⟩
     ·exact .inl ⟨.inl rfl,h⟩
     exact .inr h1
    rintro(⟨rfl|h1,h2⟩|h1)
    ·exact .inr (.inl rfl)
    ·exact .inl ⟨h1,h2⟩
    exact .inr (.inr h1)
   rw[if_neg h,List.mem_cons];constructor
   ·rintro(h1|h1)
    ·exact .inl ⟨.inr h1.1,h1.2⟩
    exact .inr h1
   rintro(⟨rfl|h1,h2⟩|h1)
   ·exact absurd h2 h
   ·exact .inl ⟨h1,h2⟩
   exact .inr h1
 have:=key l [];unfold zJ;rw[this];simp
theorem Px (l:List (Int×List Int)):RW (zJ l):=by
 have key: ∀(l acc:List (Int×List Int)),RW acc->RW (l.foldl (fun acc x=>if zm x.2=true then nW x acc else acc) acc):=by
  intro l
  induction l with
  |nil=>intro acc h;exact h
  |cons y l ih=>
   intro acc h;rw[List.foldl_cons];refine ih _ ?_;split
   ·exact Cz h
   exact h
 exact key l [] (by simp[RW])
structure Wr (n:Nat) (its R:List (Int×List Int)) where
 i:Nat
 ch:List (Int×List Int)
 hi:i<=its.length
 hc:ch.length<=n
 hm: ∀x∈ch,x∈its
 e:grS n (its.drop i) ch=R
theorem Km (n:Nat) (f:FF) (hn1:1<=n) (hn:n<=4) (hr:RedR f n):
  CallC Tryz.prog 14 [dj (bi n n f),.raw (.int .i64 4000)] ⟨[],if(xr n f (pM f n) 4000).1=true then Kf ((grS n (Ka n f (pM f n)) []).map Prod.fst) 0 else Kf [] 9⟩:=by
 have hsm:=iP hn1 (by omega) hr;have hf: ∀i j,i<n->j<n->rI (f i j):=fun i j hi hj=>by have:=hsm i hi j hj;constructor<;>omega
 obtain⟨g0,g1⟩:=Eu (f:=f) (M:=262144) (by omega) n fun i hi=>by have:=hsm i hi i hi;omega
 have cG:=DA n f hn;have cV:=A6 n f (pM f n) hn1 hn hr hf g0 g1;have cR:=tg (bi n n f) (Kl hn1 (by omega) hr);rw[vK hn1 hn hr]at cR;obtain⟨hl,ht⟩:=Fb (f:=f) (B:=pM f n) (bud:=4000) hn1 (by decide);by_cases hb:(xr n f (pM f n) 4000).1=true
 case neg=>
  rw[if_neg hb]at cV⊢;generalize pM f n=B at*
  generalize bi n n f=M at*
  refine aS Tryz.func14 rfl Tryz.ntmps14 (aT (k:=aF (cb [⟨1,_,_,_,cR⟩] (k:=aJ rfl (aH (aF (fw [⟨2,_,_,_,cG⟩,⟨4,_,_,_,cV⟩] @Ui.eq_1 (k:=aK (k:=aR rfl (bC (k:=?_)))))))))));refine bA ⟨.inr rfl,sP 4 rfl rfl ?_ rfl⟩;simp(disch:=omega) only[kd,Tryz.results14,Kf]
 obtain⟨⟨_,hnn,hs⟩,he⟩:=ht hb;have h1:=Nb hnn (show n-1<n by omega);have cI:=FJ n f (pM f n) hn1 hn hr hf g0 g1 (by omega);have hil:(Ka n f (pM f n)).length<=4000:=by
  have h2:=zK ((qH f n (pM f n) n []).map (ue n f));rw[ax]at h2;show(zJ _).length<=4000;omega
 have hit: ∀x∈Ka n f (pM f n),x.2.length=n/\ ∀c∈x.2,c.natAbs<=5704253440:=fun x hx=>by
  obtain⟨z,hz,rfl⟩:=List.mem_map.1 (zL.1 hx).1;exact Lt hn hr g0 g1 hz
 rw[if_pos hb]at cV⊢;have hml:=aW n n f;generalize sL n (xr n f (pM f n) 4000).2=sm at*
 generalize hR:grS n (Ka n f (pM f n)) []=R;generalize Ka n f (pM f n)=its at*
 generalize pM f n=B at*
 generalize bi n n f=M at*
 clear hs he h1 hnn hl ht hb hf hsm;refine aS Tryz.func14 rfl Tryz.ntmps14 (aT (k:=aF (cb [⟨1,_,_,_,cR⟩] (k:=aJ rfl (aH (aF (fw [⟨2,_,_,_,cG⟩,⟨4,_,_,_,cV⟩] @Ui.eq_1 (k:=aK (k:=aJ rfl (aH (bC (k:=bC (k:=aF (cb [⟨2,_,_,_,cG⟩,⟨3,_,_,_,cI⟩] (k:=?_)))))))))))))));refine aO (G:=Wr n its R) (fun g=>⟨(dj M::j4 (j4 (.one (.sl 9 0 0 g.ch.length)::.one (.sl 10 0 0 g.ch.length)::j16 (j4 (Nz its::rN its.length::rN g.i::j16 (j4 (j4 (jk::jk::[])))))))),Hm [(9,[⟨2,1,lc fI (g.ch.map Prod.fst)⟩]),(10,[⟨34,1,lc (fR fI) (g.ch.map Prod.snd)⟩])]⟩) (fun g=>its.length-g.i) ⟨0,[],by omega,by simp,by simp,hR⟩ ?_ ?_
 ·refine(dx (k:=9) (d:=9) 2 1 (by omega) rfl rfl).trans ((dx (k:=10) (d:=10) 34 1 (by omega) rfl rfl).trans (aE ⟨rfl,rfl,trivial⟩ ?_));simp[wk]
 rintro⟨i,ch,hin,hcn,hcm,hgr⟩;simp only;by_cases hm:i<its.length
 ·obtain⟨x,hx⟩:=getElem?_of_lt hm;have hxi:=List.mem_of_getElem? hx;have hd:its.drop i=x::its.drop (i+1):=by
   rw[List.drop_eq_getElem_cons hm];have:=au hm;rw[hx]at this;injection this with this
   rw[this]
  rw[hd,grS]at hgr;have ei:IntKind.i64.wrap ((i:Int)+1)=((i+1:Nat):Int):=by rw[bu (by omega) (by omega)];omega
  have hL:((ch++[x]).map Prod.snd).length=ch.length+1:=by simp
  have cK:=Tt n ((ch++[x]).map Prod.snd) hn1 hn (by omega) (fun y hy=>by
   obtain⟨q,hq,rfl⟩:=List.mem_map.1 hy;rcases List.mem_append.1 hq with h|h
   ·exact(hit q (hcm q h)).1
   ·simp at h;subst h;exact(hit q hxi).1) (fun y hy=>by
   obtain⟨q,hq,rfl⟩:=List.mem_map.1 hy;rcases List.mem_append.1 hq with h|h
   ·exact(hit q (hcm q h)).2
   simp at h;subst h;exact(hit q hxi).2)
  rw[hL,T9]at cK;have hrl:=Tv n (rK (ch.length+1) (vL (ch++[x])));generalize rkF n (rK (ch.length+1) (vL (ch++[x])))=rk at*
  obtain⟨v,z⟩:=x;have e1:(ch++[(v,z)]).map Prod.snd=ch.map Prod.snd++[z]:=by simp
  have e2:(ch++[(v,z)]).map Prod.fst=ch.map Prod.fst++[v]:=by simp
  have l1:(ch.map Prod.snd).length=ch.length:=ax _;have l2:(ch.map Prod.fst).length=ch.length:=ax _;rw[e1]at cK;refine aK (k:=bv rfl (aF (aG (aX hx (k:=ON 6 10 cK (by decide) [] [] (by decide) fun K hK=>?_)))));simp(disch:=omega) only[kd,aa,hml,Nat.reduceEqDiff,Nat.reduceMul,Nat.reduceLeDiff];apply hK;clear hK K;refine⟨43,44,⟨_,_,_,_,_,24,⟨34,1,lc (fR fI) (ch.map Prod.snd)⟩,[[.p (.sl (ls fI z))]],[.slice none 0 0],_,_,rfl,rfl,⟨rfl,rfl,rfl⟩,⟨rfl,rfl,rfl⟩,⟨?_,rfl,rfl⟩,⟨rfl,rfl,rfl,rfl,rfl⟩,⟨zN _,by simp,by simp,by simp only[nH,l1,List.length_cons,List.length_nil];omega,by simp only[nH,l1,List.length_cons,List.length_nil];omega⟩,?_,rfl,by simp⟩,?_⟩
  ·simp only[nH,l1];rfl
  ·rw[sE,qQ]
  intro K hK;by_cases hlt:ch.length<rk
  ·rw[if_pos hlt]at hgr;simp(disch:=omega) only[kd,aa];apply hK;clear hK K;refine aR rfl (aX (aP l1 @sE) (k:=fc (aP l2 @vQ) (k:=gV ei (k:=?_))));refine⟨⟨i+1,ch++[(v,z)],by omega,by rw[List.length_append,List.length_singleton];omega,fun q hq=>?_,hgr⟩,by simp only;omega,aE ⟨?_,?_,trivial⟩ ?_⟩
   ·rcases List.mem_append.1 hq with h|h
    ·exact hcm q h
    simp at h;subst h;exact hxi
   ·simp only[e2];rfl
   ·simp only[e1];rfl
   simp[wk]
  rw[if_neg hlt]at hgr;simp(disch:=omega) only[kd,aa];apply hK;clear hK K;refine aJ rfl (aH (gV ei (k:=?_)));refine⟨⟨i+1,ch,by omega,hcn,hcm,hgr⟩,by simp only;omega,aE ⟨rfl,rfl,trivial⟩ ?_⟩;simp[wk]
 have hie:i=its.length:=by omega
 subst hie;rw[List.drop_length,grS]at hgr;subst hgr;have eT:List.take ch.length (ch.map Prod.fst)=ch.map Prod.fst:=List.take_of_length_le (by rw[ax];exact ac _);refine aK (k:=bE rfl (bC (k:=?_)));refine bA ⟨.inr rfl,fo 9 (bQ rfl) ?_ rfl⟩;simp(disch:=omega) only[kd,Tryz.results14,Nat.reduceEqDiff,eT,Kf]
theorem LQ {n:Nat} {h t:FF} (hn1:1<=n) (hn:n<=4) (hr:RedR h n) (pg:PD (cngF n h t) n) (mg:MinkP (cngF n h t) n) (ht:lZ n t):
  (grS n (Ka n h (pM h n)) []).map Prod.fst=bj n (fun i=>cngF n h t i i):=by
 have hsm:=iP hn1 (by omega) hr;obtain⟨g0,g1⟩:=Eu (f:=h) (M:=262144) (by omega) n fun i hi=>by have:=hsm i hi i hi;omega
 refine Cg (B:=pM h n) hn pg mg ht ?_ ?_ ?_ fun j hj=>LJ n j hj
 ·refine(Px _).imp fun{a b} h=>?_
  rcases h with h|h
  ·omega
  omega
 ·intro x hx;obtain⟨z,_,rfl⟩:=List.mem_map.1 (zL.1 hx).1;rfl
 rintro z ⟨i,hi,hz⟩ hB;have hgz: ∀j,j<n->(bj n z).getD j 0=z j:=fun j hj=>by rw[List.getD_eq_getElem?_getD,aQ z hj];rfl
 have hne:gO (bj n z)≠0:=fun h0=>hz (by
  have:=JN.1 h0 (z i) (List.mem_of_getElem? (aQ z hi));exact this)
 have hs:gO (bj n z)=1\/gO (bj n z)= -1:=by rcases qc (bj n z)with h|h|h<;>simp_all
 have hsq:gO (bj n z)*gO (bj n z)=1:=by rcases hs with h|h<;>rw[h]<;>rfl
 have hs1:=C0 (x:=bj n z) hs;rw[hsq]at hs1;generalize gO (bj n z)=s at*
 have hy: ∀j,j<n->((bj n z).map fun a=>s*a).getD j 0=s*z j:=fun j hj=>by
  rw[List.getD_eq_getElem?_getD,List.getElem?_map,aQ z hj];rfl
 have hn2:nrm n h (fun j=>((bj n z).map fun a=>s*a).getD j 0)=nrm n h z:=by
  rw[fm hy,GT,hsq,Int.one_mul]
 have hmem:((bj n z).map fun a=>s*a)∈qH h n (pM h n) n []:=(zX hr.pd g0 _).2 ⟨by rw[ax,bf],by
  show nrm n h _<=_;rw[hn2];exact hB⟩
 obtain⟨_,hc⟩:=Lt hn hr g0 g1 hmem;generalize(bj n z).map (fun a=>s*a)=y at*
 refine⟨ue n h y,zL.2 ⟨List.mem_map.2 ⟨y,hmem,rfl⟩,?_⟩,s,hs,fun j hj=>hy j hj⟩;show zm y=true;unfold zm;rw[hs1,show uE y=true by
  unfold uE;rw[List.all_eq_true];intro c hcy;have:=hc c hcy;simp only[Bool.and_eq_true,decide_eq_true_eq];omega]
 rfl
theorem B4 (dim kind:Nat) (L B:List Int) (hL:I8 L) (hdim:dim<=255) (hkind:kind<=255):
  CallG Tryz.prog 0 162 4 [tL dim kind L B] ir ⟨[],.raw (.bool true)⟩:=by
 obtain⟨n,hn⟩: ∃n,n=1+dim%4:=⟨_,rfl⟩;have hn1:1<=n:=by omega
 have hn4:n<=4:=by have:=Nat.mod_lt dim (show 0<4 by omega);omega
 obtain⟨h,hr,cF⟩:=R6 dim kind L B 4 n hL hdim hkind (by omega) (by omega) hn;rw[show((4:Nat):Int)=4 from rfl]at cF;obtain⟨R,ok,hB,cR⟩:=CH hn1 hn4 hr;have cD:=L7 _ _ n _ hn4 cR;have cM:=Km n h hn1 hn4 hr;have one:lZ n (trF (idF:FF)):=lZ.one.congr fun i j _ _=>by
  show(if j=i then(1:Int)else 0)=if i=j then 1 else 0
  by_cases e:i=j<;>simp[e,eq_comm]
 have pg:=ok.inb.pd ok.red.pd;have mg:=ok.mink;rw[tY]at pg mg;have eD:=LQ hn1 hn4 hr pg mg (QA (g:=gmB n h R) (MT hB one));rw[<- tY]at eD;rw[eD]at cM;generalize gmB n h (uv (gmB n h R) R)=g at*
 have cC:=mC (bj n (fun i=>g i i)) (bj n (fun i=>g i i));rw[oD]at cC;have cA:=OT;have l2:=aW n n h;have l3:=bf n (fun i=>g i i);generalize bi n n h=M at*
 generalize bj n (fun i=>g i i)=D at*
 refine gf Tryz.func4 rfl (by kernel_rfl) ?_;rw[Tryz.ntmps4];refine Sk @tL.eq_1 (k:=yZ [⟨1,_,_,_,cF⟩] @tL.eq_1 (k:=?_));refine dy [⟨1,_,_,_,cD,rfl⟩] [] [] fun _ K=>?_;simp(disch:=omega) only[kd,dj,VP,fv.a,aa];apply K
 by_cases hb:(xr n h (pM h n) 4000).1=true
 ·rw[if_pos hb]at cM;refine yZ [⟨1,_,_,_,cM⟩] @Kf.eq_1 (k:=?_);refine dy [⟨20,_,_,_,cA,rfl⟩] [⟨15,_,_,_,cC⟩] [] fun _ K=>?_;simp(disch:=omega) only[kd,jL,fv.a,aa,l3,l2,Nat.reduceBEq];apply K
  (refine fg ⟨.inr rfl,rfl,cd rfl ?_ rfl⟩;simp(disch:=omega) only[kd,Tryz.results4])
 rw[if_neg hb]at cM;refine yZ [⟨1,_,_,_,cM⟩] @Kf.eq_1 (k:=?_);refine dy [⟨20,_,_,_,cA,rfl⟩] [] [] fun _ K=>?_;simp(disch:=omega) only[kd,fv.a,aa,l3,l2,reduceCtorEq,Nat.reduceBEq];apply K
 (refine fg ⟨.inr rfl,rfl,cd rfl ?_ rfl⟩;simp(disch:=omega) only[kd,Tryz.results4])
end Go.Proofs.YtiollbhgpiiodaaGreatDoor
