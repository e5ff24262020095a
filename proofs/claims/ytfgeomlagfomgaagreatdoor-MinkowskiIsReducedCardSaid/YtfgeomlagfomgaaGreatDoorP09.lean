/-
  Part 10 of a proof (walks and plain facts).
-/
import Derived.Test.YtfgeomlagfomgaaGreatDoorP08
set_option linter.all false
set_option maxRecDepth 100000
set_option maxHeartbeats 64000000
open Nat renaming reduceAdd → aa
open Go.Value renaming oneCell' → ab
open List renaming find?_cons → ac
open Go.Proofs.YtfgeomlagfomgaaGreatDoor.CallRes renaming plain → ae
open Nat renaming reduceEqDiff → af
open List renaming getElem?_cons_zero → ag
open List renaming getElem?_cons_succ → ah
open Nat renaming le_refl → ai
open List renaming replicate → aj
open Nat renaming reduceBEq → ak
open Option renaming map_some → am
open Nat renaming reduceLeDiff → ap
open List renaming getElem?_eq_none → aC
open List renaming mem_of_getElem? → aE
open List renaming length_map → aF
open List renaming length_replicate → aG
open List renaming getElem?_map → aH
namespace Go.Proofs.YtfgeomlagfomgaaGreatDoor
open Go.RowKit
def iX (d:Nat) (l:List Nat):List (List AV):=l.mapIdx fun k c=>[.sl d (k+1) 0 c]
def mS (r:List Int):OObj:=⟨42,2,lc fZ r⟩
def Jc (d:Nat) (R:List (List Int)):List OObj:=⟨84,1,iX d (R.map List.length)⟩::R.map mS
def Jr (d n c i:Nat):List OObj:=⟨84,1,iX d (aj i c)++aj (n-i) [.p (.sl [])]⟩::aj i (mS (aj c 0))
theorem dT (d:Nat) (l:List Nat):(iX d l).length=l.length:=by simp[iX]
theorem mW (d:Nat) (l:List Nat) (c:Nat):iX d (l++[c])=iX d l++[[.sl d (l.length+1) 0 c]]:=by simp[iX,List.mapIdx_append]
theorem Jk (d:Nat) (l:List Nat):(iX d l).map (List.map Ak)=iX d l:=by
 apply List.ext_getElem?
 intro k
 simp only[iX,aH,List.getElem?_mapIdx]
 cases l[k]?<;>rfl
theorem Lj (r:List Int):(lc fZ r).map (List.map Ak)=lc fZ r:=by simp[lc,fZ,Ak,BV]
theorem Dp (d n c:Nat):([⟨84,1,aj n [.raw (.slice none 0 0)]⟩]:List OObj).map zO=Jr d n c 0:=by
 simp[Jr,zO,iX,Ak,BV]
theorem Gs (d n c:Nat):Jr d n c n=Jc d (aj n (aj c 0)):=by
 simp[Jr,Jc]
theorem BW {d n c i:Nat} (hi:i<n):(iX d (aj i c)++aj (n-i) [AV.p (PV.sl [])])[i]?=some [.p (.sl [])]:=by
 rw[List.getElem?_append_right (by simp[dT]),dT,aG,Nat.sub_self,List.getElem?_replicate,if_pos (by omega)]
theorem Gt {d n c i:Nat} (hi:i<n):
  ((⟨84,1,(iX d (aj i c)++aj (n-i) [AV.p (PV.sl [])]).set i [.sl d (i+1) 0 c]⟩::aj i (mS (aj c 0))++[⟨42,2,aj c [.raw (.bool false),.raw (.slice none 0 0)]⟩]:List OObj)).map zO=Jr d n c (i+1):=by
 have e1:(iX d (aj i c)++aj (n-i) [AV.p (PV.sl [])]).set i [.sl d (i+1) 0 c]=iX d (aj (i+1) c)++aj (n-(i+1)) [AV.p (PV.sl [])]:=by
  rw[List.set_append_right _ _ (by simp[dT]),dT,aG,Nat.sub_self,List.replicate_succ' (n:=i),mW,aG,List.append_assoc]
  congr 1
  rw[show n-i=n-(i+1)+1 by omega,List.replicate_succ]
  rfl
 rw[e1]
 simp only[List.cons_append,List.map_cons,List.map_append,List.map_replicate,Jr]
 congr 1
 ·simp[zO,Jk,Ak,BV]
 rw[List.replicate_succ']
 congr 1
 ·congr 1
  simp[zO,mS,Lj]
 simp[zO,mS,lc,fZ,Ak,BV,ef,ls]
theorem BB (d e:Nat) (l:List Nat):(iX d l).map (List.map (bM e))=iX e l:=by
 apply List.ext_getElem?
 intro k
 simp only[iX,aH,List.getElem?_mapIdx]
 cases l[k]?<;>rfl
theorem Ix (e:Nat) (r:List Int):renO e (mS r)=mS r:=by simp[renO,mS,pR]
theorem Bk (d e:Nat) (R:List (List Int)):(Jc d R).map (renO e)=Jc e R:=by
 simp only[Jc,List.map_cons,List.map_map]
 congr 1
 ·simp[renO,BB]
 exact List.map_congr_left fun r _=>Ix e r
structure Mm (n:Nat) where
 i:Nat
 hi:i<=n
theorem JE (n c:Nat) (hn:n<=16) (hc:c<=16):CallC Tryz.prog 102 [.raw (.int .i64 (n:Int)),.raw (.int .i64 (c:Int))] ⟨Jc 0 (aj n (aj c 0)),.one (.sl 0 0 0 n)⟩:=by
 refine bG Tryz.func102 rfl (by kernel_rfl) ?_;rw[Tryz.ntmps102]
 (refine aL [] fun K hK=>?_;simp(disch:=omega) only[kc,aM,aa,aj,aN,ab];apply hK)
 (refine aL [] fun K hK=>?_;simp(disch:=omega) only[kc,aM,aa,cY,bU,bI,cb,jQ,dy,nF,Int.natCast_nonneg,ab,and_true,cQ];apply hK)
 (refine aP (aL [] fun K hK=>?_);simp(disch:=omega) only[kc,aM,aa,be,aZ,cb,aN,ab];apply hK)
 refine cC (G:=Mm n) (fun g=>⟨[.raw (.int .i64 (n:Int)),.raw (.int .i64 (c:Int)),jk,jk,.raw (.slice none 0 0),.one (.sl 8 0 0 n),jk,jk,jk,jk,.raw (.int .i64 (n:Int)),.raw (.int .i64 (g.i:Int)),jk,jk,jk,jk,jk,jk,jk,jk,jk],Hm [(8,Jr 8 n c g.i)]⟩) (fun g=>n-g.i) ⟨0,by omega⟩ ?_ ?_
 ·refine(jd 8).trans (aT ⟨Dp 8 n c,trivial⟩ ?_)
  simp[di,b9,b8]
 rintro⟨i,hi⟩
 simp only
 by_cases hm:i<n
 ·(refine aL [] fun K hK=>?_;simp(disch:=omega) only[kc,aM,Hm,aU,aO,aR,aX,aS,cw];apply hK)
  refine aP (bJ rfl (bi ?_))
  refine aP (bA ?_)
  (refine aL [] fun K hK=>?_;simp(disch:=omega) only[kc,aM];apply hK)
  simp only[Jr]
  have hg:=BW (d:=8) (c:=c) hm
  ((refine bK [] [] (by simp) fun K hK=>?_);simp(disch:=omega) only[kc,aM,aa,cY,bU,bI,cE,cx,bS,kC,Int.natCast_nonneg,ab,and_true,cQ,af,aQ,aZ,aW,cb,bD,dy,bo,ew,cU,hg,bu,d4,ap,aG,List.all_replicate,isPure,ite_self,bz,bx,ak];apply hK)
  show da _ _ _ _
  ((refine bK [] [] (by simp) fun K hK=>?_);simp(disch:=omega) only[kc,aM,aU,aO,aR,aX,aN,ab,aS,cd];apply hK)
  refine⟨⟨i+1,by omega⟩,by simp only;omega,(jd 8).trans (aT ⟨Gt hm,trivial⟩ ?_)⟩
  simp[di,b9,b8]
 have hin:i=n:=by omega
 subst hin
 (refine aL [] fun K hK=>?_;simp(disch:=omega) only[kc,aM,Hm,aU,aO,aR,aX,aS,cp];apply hK)
 refine aP (bL rfl (ck ?_))
 show da _ _ _ _
 rw[Gs]
 (refine aL [] fun K hK=>?_;simp(disch:=omega) only[kc,aM];apply hK)
 refine bC ⟨.inr rfl,_,eg.refl _,?_⟩
 refine⟨.one (.sl 8 0 0 i),8,?_,rfl,?_,rfl⟩
 ·simp(disch:=omega) only[cH,Tryz.results102,bH,ah,ag]
 exact(Bk 8 0 _).symm
def sw (p q r:Nat):Nat:=if r=p then q else if r=q then p else r
theorem Jo (p q r:Nat):sw p q (sw p q r)=r:=by
 unfold sw
 by_cases h1:r=p
 ·subst h1;by_cases h2:q=r<;>simp[h2]
 by_cases h2:r=q
 ·subst h2;simp[h1]
 simp[h1,h2]
def oy (a p q b r:Nat):Nat:=if b=a then sw p q r else r
theorem vK (a p q b r:Nat):oy a p q b (oy a p q b r)=r:=by
 unfold oy
 by_cases h:b=a<;>simp[h,Jo]
def kV (a p q:Nat):AV->AV
 | .sl b r off len=> .sl b (oy a p q b r) off len
 | .ptr b r i j=> .ptr b (oy a p q b r) i j
 |x=>x
def F8 (a p q:Nat):TV->TV
 | .one x=> .one (kV a p q x)
 | .agg cs=> .agg (cs.map (kV a p q))
 | .fn f cs=> .fn f (cs.map (kV a p q))
 | .tup ts=> .tup (ts.map fun t=>(t.1,t.2.map (kV a p q)))
def tb (a p q:Nat) (o:OObj):OObj:={o with elems:=o.elems.map (List.map (kV a p q))}
theorem u6 {s:AS} (a p q:Nat) (F:List OObj) (hF: ∀r:Nat,F[r]?=((s.H a)[sw p q r]?).map (tb a p q)):eg s ⟨s.tmps.map (F8 a p q),bD s.H a F⟩:=by
 rintro w0 O X act w ⟨h1,hsz,ρ,hinv,htm⟩
 have hof: ∀(b r:Nat) o,(s.H b)[r]?=some o-> ∃o':OObj,(bD s.H a F b)[oy a p q b r]?=some o'/\o'.es=o.es/\o'.elems.length=o.elems.length:=fun b r o ho=>by
  by_cases hb:b=a
  ·subst hb
   refine⟨tb b p q o,?_,rfl,by simp[tb]⟩
   rw[dr,oy,if_pos rfl,hF,Jo,ho];rfl
  exact⟨o,by rw[cz hb,oy,if_neg hb];exact ho,rfl,rfl⟩
 have hget: ∀(b r:Nat) o',(bD s.H a F b)[r]?=some o'-> ∃o:OObj,(s.H b)[oy a p q b r]?=some o/\((b=a/\o'=tb a p q o)\/(b≠a/\o'=o)):=fun b r o' ho=>by
  by_cases hb:b=a
  ·subst hb
   rw[dr,hF]at ho
   obtain⟨o,g1,g2⟩:=Option.map_eq_some_iff.1 ho
   exact⟨o,by rw[oy,if_pos rfl];exact g1,.inl ⟨rfl,g2.symm⟩⟩
  rw[cz hb]at ho
  exact⟨o',by rw[oy,if_neg hb];exact ho,.inr ⟨hb,rfl⟩⟩
 let ρ':Rho:=fun b r=>ρ b (oy a p q b r)
 have hρ: ∀b r,ρ' b (oy a p q b r)=ρ b r:=fun b r=>by show ρ b _=_;rw[vK]
 have hXo:Xo X ρ' (bD s.H a F)=Xo X ρ s.H:=by
  funext b
  apply propext
  constructor
  ·rintro(h|⟨x,r,o,c,g1,g2⟩)
   ·exact .inl h
   obtain⟨o',g3,_⟩:=hget x r o g1
   exact .inr ⟨x,_,o',c,g3,g2⟩
  rintro(h|⟨x,r,o,c,g1,g2⟩)
  ·exact .inl h
  obtain⟨o',g3,_⟩:=hof x r o g1
  exact .inr ⟨x,_,o',c,g3,by rw[hρ];exact g2⟩
 have hav: ∀(Y:Nat->Prop) x v,AV.rel ρ s.H Y w x v->AV.rel ρ' (bD s.H a F) Y w (kV a p q x) v:=fun Y x v h=>by
  cases x with
  |p x=>exact h
  |junk=>trivial
  |sl b r off len=>
   obtain⟨o,g1,g2,g3⟩:=h
   obtain⟨o',k1,k2,k3⟩:=hof b r o g1
   exact⟨o',k1,by omega,by rw[hρ,k2];exact g3⟩
  |ptr b r i j=>
   obtain⟨o,b',c,g1,g2,g3,g4⟩:=h
   obtain⟨o',k1,k2,k3⟩:=hof b r o g1
   exact⟨o',b',c,k1,by rw[hρ];exact g2,by omega,by rw[k2];exact g4⟩
 have hagg: ∀(Y:Nat->Prop) cs v,dL ρ s.H Y w cs v->dL ρ' (bD s.H a F) Y w (cs.map (kV a p q)) v:=fun Y cs v ⟨vs,g1,g2,g3⟩=>by
  refine⟨vs,g1,by simpa using g2,fun j x hx=>?_⟩
  rw[aH]at hx
  obtain⟨y,hy,rfl⟩:=Option.map_eq_some_iff.1 hx
  obtain⟨u,u1,u2,u3⟩:=g3 j y hy
  exact⟨u,u1,u2,hav Y y u u3⟩
 refine⟨h1,by simpa using hsz,ρ',⟨hinv.keep,fun b r o' ho=>?_,fun b r b' r' o o' x c c' ho ho' hb hb'=>?_,fun b r o x c ho hb=>?_,hinv.bar,fun b r o' ho=>?_⟩,fun t x hx=>?_⟩
 ·obtain⟨o,g1,g2⟩:=hget b r o' ho
  have hob:=hinv.objs b _ o g1
  have hself:=hinv.self b _ o g1
  show objRel ρ' (bD s.H a F) (Xo X ρ' (bD s.H a F)) w b r o'
  rw[hXo]
  obtain⟨q1,q2,q3⟩:=hob
  rcases g2 with⟨rfl,rfl⟩|⟨hb,rfl⟩
  ·refine⟨fun e he=>?_,q2,?_⟩
   ·simp only[tb,List.mem_map]at he
    obtain⟨e',he',rfl⟩:=he
    simp only[aF,tb]
    exact q1 e' he'
   show match ρ b (oy b p q b r)with|none=>_|some (b,c)=>_
   cases hr:ρ b (oy b p q b r)with
   |none=>rw[hr]at q3;simp only at q3⊢;simp[tb,q3]
   |some bc=>
    obtain⟨b2,c⟩:=bc
    rw[hr]at q3
    obtain⟨cells,p1,p2,p3,p4,p5⟩:=q3
    refine⟨cells,p1,p2,by simpa[tb] using p3,p4,fun i e j x hi hj=>?_⟩
    simp only[tb,aH]at hi
    obtain⟨e',he',rfl⟩:=Option.map_eq_some_iff.1 hi
    simp only[aH]at hj
    obtain⟨x',hx',rfl⟩:=Option.map_eq_some_iff.1 hj
    obtain⟨v,v1,v2,v3⟩:=p5 i e' j x' he' hx'
    exact⟨v,v1,v2,hav _ _ _ v3⟩
  refine⟨q1,q2,?_⟩
  show match ρ b (oy a p q b r)with|none=>_|some (b,c)=>_
  cases hr:ρ b (oy a p q b r)with
  |none=>rw[hr]at q3;exact q3
  |some bc=>
   obtain⟨b2,c⟩:=bc
   rw[hr]at q3
   obtain⟨cells,p1,p2,p3,p4,p5⟩:=q3
   refine⟨cells,p1,p2,p3,p4,fun i e j x hi hj=>?_⟩
   obtain⟨v,v1,v2,v3⟩:=p5 i e j x hi hj
   have hs:=hself e (aE hi) x (aE hj)
   have hx:kV a p q x=x:=by
    cases x with
    |sl z _ _ _=>have hs:z=b:=hs;subst hs;simp[kV,oy,hb]
    |ptr z _ _ _=>have hs:z=b:=hs;subst hs;simp[kV,oy,hb]
    |p z=>rfl
    |junk=>rfl
   have:=hav _ _ _ v3
   rw[hx]at this
   exact⟨v,v1,v2,this⟩
 ·obtain⟨o1,g1,_⟩:=hget b r o ho
  obtain⟨o2,g2,_⟩:=hget b' r' o' ho'
  obtain⟨e1,e2⟩:=hinv.inj b _ b' _ o1 o2 x c c' g1 g2 hb hb'
  subst e1
  refine⟨rfl,?_⟩
  rw[<- vK a p q b r,e2,vK]
 ·obtain⟨o1,g1,_⟩:=hget b r o ho
  exact hinv.old b _ o1 x c g1 hb
 ·obtain⟨o,g1,g2⟩:=hget b r o' ho
  have hs:=hinv.self b _ o g1
  rcases g2 with⟨rfl,rfl⟩|⟨hb,rfl⟩
  ·intro e he x hx
   simp only[tb,List.mem_map]at he
   obtain⟨e',he',rfl⟩:=he
   simp only[List.mem_map]at hx
   obtain⟨x',hx',rfl⟩:=hx
   have:=hs e' he' x' hx'
   cases x'<;>first|exact this|trivial
  exact hs
 simp only[aH]at hx
 obtain⟨y,hy,rfl⟩:=Option.map_eq_some_iff.1 hx
 obtain⟨v,v1,v2⟩:=htm t y hy
 refine⟨v,v1,?_⟩
 show TV.rel ρ' (bD s.H a F) (Xo X ρ' (bD s.H a F)) w (F8 a p q y) v
 rw[hXo]
 cases y with
 |one x=>exact hav _ _ _ v2
 |agg cs=>exact hagg _ _ _ v2
 |fn f cs=>obtain⟨u,h1,h2⟩:=v2;exact⟨u,hagg _ _ _ h1,h2⟩
 |tup ts=>
  obtain⟨vs,g1,g2,g3⟩:=v2
  refine⟨vs,g1,by simpa using g2,fun j b cs hj=>?_⟩
  rw[aH]at hj
  obtain⟨z,hz,hzz⟩:=Option.map_eq_some_iff.1 hj
  obtain⟨b',cs'⟩:=z
  simp at hzz
  obtain⟨rfl,rfl⟩:=hzz
  obtain⟨u,u1,u2⟩:=g3 j b' cs' hz
  refine⟨u,u1,?_⟩
  rcases u2 with⟨u2,u3⟩|⟨u2,q',rfl,u4⟩
  ·exact .inl ⟨u2,hagg _ _ _ u3⟩
  exact .inr ⟨u2,_,rfl,hav _ _ _ u4⟩
abbrev qv (d n c:Nat) (f:Nat->Nat->Int):List OObj:=⟨84,1,iX d (aj n c)⟩::(dC n c f).map mS
theorem EM (n c:Nat) (f:Nat->Nat->Int):(dC n c f).map List.length=aj n c:=by
 apply List.ext_getElem?
 intro i
 rw[aH,List.getElem?_replicate]
 by_cases h:i<n
 ·rw[dm _ _ h,if_pos h];simp[dj]
 rw[aC (by rw[cT];omega),if_neg h];rfl
theorem zE (d n c:Nat) (f:Nat->Nat->Int):Jc d (dC n c f)=qv d n c f:=by rw[Jc,EM]
theorem HT (n c:Nat):aj n (aj c (0:Int))=dC n c fun _ _=>0:=by
 apply List.ext_getElem?
 intro i
 rw[List.getElem?_replicate]
 by_cases h:i<n
 ·rw[dm _ _ h,if_pos h]
  congr 1
  apply List.ext_getElem?
  intro j
  rw[List.getElem?_replicate]
  by_cases h:j<c
  ·rw[cu _ h,if_pos h]
  rw[aC (by rw[dj];omega),if_neg h]
 rw[aC (by rw[cT];omega),if_neg h]
theorem d5 {n i:Nat} (d c:Nat) (h:i<n):(iX d (aj n c))[i]?=some [.sl d (i+1) 0 c]:=by
 simp[iX,h]
theorem kv {n i:Nat} (c:Nat) (f:Nat->Nat->Int) (h:i<n):((dC n c f).map mS)[i]?=some ⟨42,2,lc fZ (dz c (f i))⟩:=by
 rw[aH,dm _ _ h];rfl
def upd (f:Nat->Nat->Int) (i j:Nat) (v:Int):Nat->Nat->Int:=fun a=>if a=i then(fun b=>if b=j then v else f i b)else f a
theorem vU {n i j:Nat} (c:Nat) (f:Nat->Nat->Int) (v:Int):((dC n c f).map mS).set i ⟨42,2,(lc fZ (dz c (f i))).set j [.p (.raw (.bool (decide (v<0)))),.p (.sl (ls fU (bT v.natAbs)))]⟩=(dC n c (upd f i j v)).map mS:=by
 have e:(⟨42,2,(lc fZ (dz c (f i))).set j [.p (.raw (.bool (decide (v<0)))),.p (.sl (ls fU (bT v.natAbs)))]⟩:OObj)=mS (dz c fun b=>if b=j then v else f i b):=by
  rw[<- po,mS,<- vP];rfl
 rw[e,<- List.map_set,Bi];rfl
theorem ij {n c:Nat} {f g:Nat->Nat->Int} (h: ∀i j,i<n->j<c->f i j=g i j):(dC n c f).map mS=(dC n c g).map mS:=by rw[i7 h]
theorem oU (d e n c:Nat) (f:Nat->Nat->Int):(qv d n c f).map (renO e)=qv e n c f:=by rw[<- zE,<- zE,Bk]
theorem AW {H:OH} {d n c:Nat} {f:Nat->Nat->Int} (h:H d=qv d n c f):tn H d:=fun r o ho e he x hx=>by
 rw[h]at ho
 cases r with
 |succ r=>
  rw[ah,aH]at ho
  obtain⟨l,hl,rfl⟩:=Option.map_eq_some_iff.1 ho
  exact .inl (gu _ _ l e he x hx)
 |zero=>
  simp at ho
  subst ho
  simp only at he
  obtain⟨k,hk⟩:=List.mem_iff_getElem?.1 he
  have hkn:k<n:=by
   have:=(List.getElem?_eq_some_iff.1 hk).1
   rwa[dT,aG]at this
  rw[d5 d c hkn]at hk
  injection hk with hk
  subst hk
  simp at hx
  subst hx
  refine .inr ⟨k+1,0,c,mS (dz c (f k)),rfl,?_,gu _ _ _⟩
  rw[h,ah,aH,dm _ _ hkn];rfl
theorem L7 {H:OH} {d n c:Nat} {f:Nat->Nat->Int} (h:H d=qv d n c f):gT H d (.one (.sl d 0 0 n))=eF (dC n c f):=by
 have e:((iX d (aj n c)).map (List.map (kn H d)))=ls (fR fZ) (dC n c f):=by
  apply List.ext_getElem?
  intro i
  rw[aH,ch]
  by_cases hi:i<n
  ·rw[d5 d c hi,dm _ _ hi]
   simp only[am,List.map_cons,List.map_nil,kn,h,ah,kv _ _ hi,fR,eB,vO,kq]
   rw[List.drop_zero,List.take_of_length_le (by rw[dj];omega)]
  rw[aC (by rw[dT,aG];omega),aC (by rw[cT];omega)];rfl
 simp only[gT,gh,if_true,h,ag]
 rw[List.drop_zero,List.take_of_length_le (by rw[dT,aG];omega),e]
abbrev dx (M:List (List Int)):TV:= .one (.p (.sl (ls (fR fI) M)))
def KM (M:List (List Int)):TV:= .tup [(false,[.p (.sl (ls (fR fZ) M))]),(false,[.p (.raw (.bool true))])]
structure ov (n:Nat) where
 i:Nat
 hi:i<=n
def part (f:Nat->Nat->Int) (i j:Nat):Nat->Nat->Int:=fun a b=>if a<i\/(a=i/\b<j)then f a b else 0
theorem nA (f:Nat->Nat->Int) (i j a b:Nat):upd (part f i j) i j (f i j) a b=part f i (j+1) a b:=by
 unfold upd part
 by_cases h1:a=i
 ·subst h1
  by_cases h2:b=j
  ·subst h2;simp
  have:b<j+1↔b<j:=by omega
  simp[h2,this]
 simp[h1]
theorem pa {c:Nat} (f:Nat->Nat->Int) (i a b:Nat) (hb:b<c):part f i c a b=part f (i+1) 0 a b:=by
 unfold part
 by_cases h1:a<i
 ·rw[if_pos (.inl h1),if_pos (.inl (by omega))]
 by_cases h2:a=i
 ·rw[if_pos (.inr ⟨h2,hb⟩),if_pos (.inl (by omega))]
 rw[if_neg (by omega),if_neg (by omega)]
theorem o9 {n:Nat} (f:Nat->Nat->Int) (a b:Nat) (ha:a<n):part f n 0 a b=f a b:=by
 unfold part;rw[if_pos (.inl ha)]
theorem C3 (f:Nat->Nat->Int):part f 0 0=fun _ _=>0:=by
 funext a b;unfold part;rw[if_neg (by omega)]
theorem yI (n c:Nat) (f:Nat->Nat->Int) (hn1:1<=n) (hn:n<=16) (hc1:1<=c) (hc:c<=16) (hf: ∀i j,i<n->j<c-> -9223372036854775808<=f i j/\f i j<=9223372036854775807):
  CallC Tryz.prog 59 [dx (dC n c f)] ⟨[],KM (dC n c f)⟩:=by
 have hml:=cT n c f
 have h0:=dm (n:=n) c f (i:=0) (by omega)
 have hZ:=JE n c hn hc
 rw[HT,zE]at hZ
 refine bG Tryz.func59 rfl (by kernel_rfl) ?_;rw[Tryz.ntmps59]
 (refine aL [] fun K hK=>?_;simp(disch:=omega) only[kc,aM,dx,aj,aN,ab];apply hK)
 (refine aP (aL [] fun K hK=>?_);simp(disch:=omega) only[kc,aM,aa,be,aZ,bv,bE,hml,aU,aO,aR,aX,aN,ab,aS,cp,bP,cQ,b7];apply hK)
 refine bL rfl (bi ?_)
 show da _ _ _ _
 (refine aP (aL [] fun K hK=>?_);simp(disch:=omega) only[kc,aM,aa,be,aZ,bv,bE,hml,aN,ab];apply hK)
 refine cC (G:=ov n) (fun g=>⟨[dx (dC n c f),jk,.raw (.slice none 0 0),.raw (.bool false),jk,jk,jk,jk,jk,jk,jk,jk,jk,jk,jk,jk,jk,dx (dC n c f),.raw (.int .i64 (n:Int)),.raw (.int .i64 (g.i:Int)),jk,jk,jk,jk,jk,jk,jk,jk,jk,jk,jk,jk,jk,jk,jk,jk,jk,jk,jk,jk,jk,jk,jk,jk,jk,jk,jk,jk,jk,jk,jk,jk,jk,jk,jk,jk,jk,jk,jk,jk,jk,jk,jk,jk,jk,jk,jk,jk,jk,jk,jk,jk,jk,jk,jk,jk,jk,jk],Hm []⟩) (fun g=>n-g.i) ⟨0,by omega⟩ ?_ ?_
 ·refine aT trivial ?_
  simp[di,b9,b8]
 rintro⟨i,hi⟩
 simp only
 by_cases hm:i<n
 ·have hr:=dm c f hm
  (refine aL [] fun K hK=>?_;simp(disch:=omega) only[kc,aM,dx,Hm,aU,aO,aR,aX,aS,cw];apply hK)
  refine aP (bJ rfl (bi ?_))
  refine aP (bA ?_)
  (refine aL [] fun K hK=>?_;simp(disch:=omega) only[kc,aM,aa,aQ,aZ,aW,bv,ch,hr,fR,db,packT,dc];apply hK)
  (refine aL [] fun K hK=>?_;simp(disch:=omega) only[kc,aM,aa,be,aZ,ca,bE,dj,aU,aO,aR,aX,aN,ab,aS,cp,bP,cQ,b7,aQ,aW,Int.reduceToNat,bv,ch,h0,fR,db,packT,dc,cw];apply hK)
  refine bL rfl (bi ?_)
  show da _ _ _ _
  ((refine bK [] [] (by simp) fun K hK=>?_);simp(disch:=omega) only[kc,aM,aU,aO,aR,aX,aN,ab,aS,cd];apply hK)
  refine⟨⟨i+1,by omega⟩,by simp only;omega,aT trivial ?_⟩
  simp[di,b9,b8]
 (refine aL [] fun K hK=>?_;simp(disch:=omega) only[kc,aM,dx,Hm,aU,aO,aR,aX,aS,cp];apply hK)
 refine aP (bL rfl (ck ?_))
 show da _ _ _ _
 (refine aL [⟨6,_,_,_,hZ⟩] fun K hK=>?_;simp(disch:=omega) only[kc,bj.a,aM,aa,be,aZ,bv,bE,hml,aQ,aN,ab,aW,Int.reduceToNat,ch,h0,fR,db,packT,dc,ca,dj,aY,bU,bI,ac,bO,cq,ae,List.isEmpty_cons,bV,bW,bs,Bool.not_false,noRefTV,bf,Bool.or_false,bQ,bM,renO];apply hK)
 (refine aP (aL [] fun K hK=>?_);simp(disch:=omega) only[kc,aM,aa,be,aZ,bv,bE,hml,aN,ab];apply hK)
 refine cC (G:=ov n) (fun g=>⟨[dx (dC n c f),jk,.raw (.slice none 0 0),.raw (.bool false),jk,jk,.one (.sl 47 0 0 n),jk,jk,jk,jk,jk,jk,jk,jk,jk,jk,jk,jk,jk,jk,jk,jk,jk,jk,jk,jk,jk,jk,jk,jk,jk,jk,jk,jk,jk,jk,jk,jk,jk,jk,jk,jk,jk,jk,jk,jk,jk,jk,.raw (.int .i64 (n:Int)),.raw (.int .i64 (g.i:Int)),jk,jk,jk,jk,jk,jk,jk,jk,jk,jk,jk,jk,jk,jk,jk,jk,jk,jk,jk,jk,jk,jk,jk,jk,jk,jk,jk],Hm [(47,qv 47 n c (part f g.i 0))]⟩) (fun g=>n-g.i) ⟨0,by omega⟩ ?_ ?_
 ·refine aT ⟨?_,trivial⟩ ?_
  ·rw[C3];exact oU 0 47 n c _
  simp[di,b9,b8]
 rintro⟨i,hi⟩
 simp only
 by_cases hm2:i<n
 ·have hr:=dm c f hm2
  (refine aL [] fun K hK=>?_;simp(disch:=omega) only[kc,aM,dx,Hm,aU,aO,aR,aX,aS,cw];apply hK)
  refine aP (bJ rfl (bi ?_))
  refine aP (bA ?_)
  (refine aL [] fun K hK=>?_;simp(disch:=omega) only[kc,aM];apply hK)
  (refine aL [] fun K hK=>?_;simp(disch:=omega) only[kc,aM,aa,aQ,aZ,aW,bv,ch,hr,fR,db,packT,dc,be,ca,bE,dj,aN,ab];apply hK)
  refine cC (G:=ov c) (fun g=>⟨[dx (dC n c f),jk,.raw (.slice none 0 0),.raw (.bool false),jk,jk,.one (.sl 47 0 0 n),.raw (.int .i64 (i:Int)),jk,jk,jk,jk,jk,jk,jk,jk,jk,jk,jk,jk,jk,jk,jk,jk,jk,jk,jk,jk,jk,jk,jk,jk,jk,jk,jk,jk,jk,jk,jk,jk,jk,jk,jk,jk,jk,jk,jk,jk,jk,.raw (.int .i64 (n:Int)),.raw (.int .i64 (i:Int)),jk,jk,jk,jk,jk,jk,.raw (.int .i64 (c:Int)),.raw (.int .i64 (g.i:Int)),jk,jk,jk,jk,jk,jk,jk,jk,jk,jk,jk,jk,jk,jk,jk,jk,jk,jk,jk],Hm [(47,qv 47 n c (part f i g.i))]⟩) (fun g=>c-g.i) ⟨0,by omega⟩ ?_ ?_
  ·refine aT ⟨rfl,trivial⟩ ?_
   simp[di,b9,b8]
  rintro⟨j,hj⟩
  simp only
  by_cases hm3:j<c
  ·have hjr:=cu (f i) hm3
   have hS:=ws (f i j) (hf i j hm2 hm3).1 (hf i j hm2 hm3).2
   have g1:=d5 (n:=n) (i:=i) 47 c hm2
   have g2:=kv c (part f i j) hm2
   have g3:=cu (part f i j i) hm3
   (refine aL [] fun K hK=>?_;simp(disch:=omega) only[kc,aM,dx,Hm,aU,aO,aR,aX,aS,cw];apply hK)
   refine aP (bJ rfl (bi ?_))
   refine aP (bA ?_)
   (refine aL [] fun K hK=>?_;simp(disch:=omega) only[kc,aM];apply hK)
   ((refine gP cJ [⟨12,_,_,_,hS⟩] [] (by kernel_rfl) (by simp) fun K hK=>?_);simp(disch:=omega) only[kc,tZ,bj.a,aM,aa,aQ,aZ,aW,cb,dy,cQ,g1,packT,dD,bv,ch,hr,fR,db,dc,ca,hjr,fI,dJ,et,aY,bU,bI,ac,bO,cq,ae,bV,bW,bs,noRefTV,bf,bQ,bM,cE,g2,bS,bo,ew,cU,dp,fZ,g3,cellsOf,ai,isPure,bu,vU,bz,bx];apply hK)
   show da _ _ _ _
   ((refine bK [] [] (by simp) fun K hK=>?_);simp(disch:=omega) only[kc,aM,aU,aO,aR,aX,aN,ab,aS,cd];apply hK)
   refine⟨⟨j+1,by omega⟩,by simp only;omega,aT ⟨?_,trivial⟩ ?_⟩
   ·show _::_=_::_
    rw[ij fun a b _ _=>nA f i j a b]
   simp[di,b9,b8]
  have hjc:j=c:=by omega
  subst hjc
  (refine aL [] fun K hK=>?_;simp(disch:=omega) only[kc,aM,dx,Hm,aU,aO,aR,aX,aS,cp];apply hK)
  refine aP (bL rfl (ck ?_))
  show da _ _ _ _
  ((refine bK [] [] (by simp) fun K hK=>?_);simp(disch:=omega) only[kc,aM,aU,aO,aR,aX,aN,ab,aS,cd];apply hK)
  refine⟨⟨i+1,by omega⟩,by simp only;omega,aT ⟨?_,trivial⟩ ?_⟩
  ·show _::_=_::_
   rw[ij fun a b _ hb=>pa f i a b hb]
  simp[di,b9,b8]
 have hin:i=n:=by omega
 subst hin
 (refine aL [] fun K hK=>?_;simp(disch:=omega) only[kc,aM,dx,Hm,aU,aO,aR,aX,aS,cp];apply hK)
 refine aP (bL rfl (ck ?_))
 show da _ _ _ _
 have e:qv 47 i c (part f i 0)=qv 47 i c f:=by
  show _::_=_::_
  rw[ij fun a b ha _=>o9 f a b ha]
 rw[e]
 refine da.weak ((fp 47 (AW rfl)).trans (aT (tm:=[jk,jk,jk,jk,jk,jk,eF (dC i c f),jk,jk,jk,jk,jk,jk,jk,jk,jk,jk,jk,jk,jk,jk,jk,jk,jk,jk,jk,jk,jk,jk,jk,jk,jk,jk,jk,jk,jk,jk,jk,jk,jk,jk,jk,jk,jk,jk,jk,jk,jk,jk,jk,jk,jk,jk,jk,jk,jk,jk,jk,jk,jk,jk,jk,jk,jk,jk,jk,jk,jk,jk,jk,jk,jk,jk,jk,jk,jk,jk,jk]) (l:=[]) trivial (by simp[di,b9,b8];exact(L7 (H:=Hm [(47,qv 47 i c f)]) (d:=47) (n:=i) (c:=c) (f:=f) rfl).symm))) ?_
 (refine aL [] fun K hK=>?_;simp(disch:=omega) only[kc,aM,aa,eF,Hm,aN,ab];apply hK)
 (refine bC ⟨.inr rfl,bF rfl ?_ rfl⟩;simp(disch:=omega) only[cH,Tryz.results59,eP,bH,ah,ag,Option.bind_some,dF,am,KM])
theorem LH (n c:Nat) (f:Nat->Nat->Int) (hn1:1<=n) (hn:n<=16) (hc1:1<=c) (hc:c<=16) (hf: ∀i j,i<n->j<c-> -9223372036854775808<=f i j/\f i j<=9223372036854775807):
  CallC Tryz.prog 23 [dx (dC n c f)] ⟨[],eF (dC n c f)⟩:=by
 have hF:=yI n c f hn1 hn hc1 hc hf
 refine bG Tryz.func23 rfl (by kernel_rfl) ?_;rw[Tryz.ntmps23]
 (refine aL [] fun K hK=>?_;simp(disch:=omega) only[kc,aM,dx,aj,aN,ab];apply hK)
 (refine aL [⟨1,_,_,_,hF⟩] fun K hK=>?_;simp(disch:=omega) only[kc,dx,KM,bj.a,aM,aa,aY,bU,bI,ac,bO,cq,ae,bV,bW,bs,noRefTV,bf,bQ,bM,cK,aU];apply hK)
 (refine aL [] fun K hK=>?_;simp(disch:=omega) only[kc,aM];apply hK)
 (refine bC ⟨.inr rfl,bF rfl ?_ rfl⟩;simp(disch:=omega) only[cH,Tryz.results23,bH,ah,ag,eF])
abbrev tE (l:List Nat):TV:= .one (.p (.sl (ls fN l)))
theorem Hl (k more:Nat) (hk:k<=16) (hm:more<=16):CallC Tryz.prog 133 [.raw (.int .i64 (k:Int)),.raw (.int .i64 (more:Int))] ⟨[],tE (List.range k++[more])⟩:=by
 refine bG Tryz.func133 rfl (by kernel_rfl) ?_;rw[Tryz.ntmps133]
 (refine aL [] fun K hK=>?_;simp(disch:=omega) only[kc,aM,aa,aj,aN,ab];apply hK)
 (refine aL [] fun K hK=>?_;simp(disch:=omega) only[kc,aM,aN,ab];apply hK)
 (refine aP (aL [] fun K hK=>?_);simp(disch:=omega) only[kc,aM,aN,ab];apply hK)
 refine cC (G:=ov k) (fun g=>⟨[.raw (.int .i64 (k:Int)),.raw (.int .i64 (more:Int)),jk,jk,.raw (.slice none 0 0),.one (.sl 15 0 0 g.i),.raw (.int .i64 (g.i:Int)),jk,jk,jk,jk,jk,jk,jk,jk,jk,jk,jk,jk,jk],Hm [(15,[⟨3,1,lc fN (List.range g.i)⟩])]⟩) (fun g=>k-g.i) ⟨0,by omega⟩ ?_ ?_
 ·refine(iz (k:=5) (d:=15) 3 1 (by omega) rfl rfl).trans (aT ⟨rfl,trivial⟩ ?_)
  simp[di,b9,b8]
 rintro⟨i,hi⟩
 simp only
 by_cases hm:i<k
 ·(refine aP (aL [] fun K hK=>?_);simp(disch:=omega) only[kc,aM,aa,Hm,aU,aO,aR,aX,aS,cw];apply hK)
  refine bJ rfl (bi ?_)
  refine aP (bA ?_)
  ((refine bK [] [] (by simp) fun K hK=>?_);simp(disch:=omega) only[kc,aM,aa,cX,bU,bI,iK,yy,s9,gU,cellsOf,isPure,Nat.reduceMul,ap,List.contains_nil,lI,cQ,dX,kG,cU,eo,Gk,eW,gE,List.length_range,fW,gI,and_true,fq,f4,xy,ew,bz,bx];apply hK)
  show da _ _ _ _
  ((refine bK [] [] (by simp) fun K hK=>?_);simp(disch:=omega) only[kc,aM,aa,aU,aO,aR,aX,aN,ab,aS,cd];apply hK)
  refine⟨⟨i+1,by omega⟩,by simp only;omega,aT ⟨?_,trivial⟩ ?_⟩
  ·rw[List.range_succ];rfl
  simp[di,b9,b8]
 have hik:i=k:=by omega
 subst hik
 (refine aP (aL [] fun K hK=>?_);simp(disch:=omega) only[kc,aM,aa,Hm,aU,aO,aR,aX,aS,cp];apply hK)
 refine bL rfl (ck ?_)
 show da _ _ _ _
 (refine aL [] fun K hK=>?_;simp(disch:=omega) only[kc,aM,aa,cX,bU,bI,iK,yy,s9,gU,cellsOf,isPure,Nat.reduceMul,ap,List.contains_nil,lI,cQ,dX,kG,cU,eo,Gk,eW,gE,List.length_range,fW,gI,and_true,fq,f4,xy,ew,bz,bx];apply hK)
 refine bC ⟨.inr rfl,kQ 15 (eE rfl) ?_ rfl⟩
 have eT:List.take (i+1) (List.range i++[more])=List.range i++[more]:=List.take_of_length_le (by simp)
 simp(disch:=omega) only[kc,cH,Tryz.results133,bH,gT,gh,bD,cQ,eB,eT,eZ,tE]
structure L1 (n:Nat) where
 i:Nat
 hi:i<=n
theorem r6 (l:List Int) (v:Int):lc fZ l++[[.p (.raw (.bool (decide (v<0)))),.p (.sl (ls fU (bT v.natAbs)))]]=lc fZ (l++[v]):=by simp[lc,fZ]
theorem EJ (M:List (List Int)) (r:List Int):lc (fR fZ) M++[[.p (.sl (ls fZ r))]]=lc (fR fZ) (M++[r]):=by simp[lc,fR]
theorem uS {α β:Type} {l:List α} {i:Nat} {x:α} (g:α->β) (h:l[i]?=some x):(l.take i).map g++[g x]=(l.take (i+1)).map g:=by
 rw[List.take_add_one,h];simp
theorem DD (n c:Nat) (f:Nat->Nat->Int) (rs cs:List Nat) (hn:n<=16) (hc:c<=16) (hr: ∀x∈rs,x<n) (hs: ∀x∈cs,x<c) (lr:rs.length<=17) (lcs:cs.length<=17):
  CallC Tryz.prog 132 [eF (dC n c f),tE rs,tE cs] ⟨[],eF (rs.map fun i=>cs.map (f i))⟩:=by
 have hml:=cT n c f
 refine bG Tryz.func132 rfl (by kernel_rfl) ?_;rw[Tryz.ntmps132]
 (refine aL [] fun K hK=>?_;simp(disch:=omega) only[kc,aM,eF,tE,aa,aj,aN,ab];apply hK)
 (refine aL [] fun K hK=>?_;simp(disch:=omega) only[kc,aM,aN,ab];apply hK)
 (refine aP (aL [] fun K hK=>?_);simp(disch:=omega) only[kc,aM,aa,be,aZ,iK,bE,aN,ab];apply hK)
 refine cC (G:=L1 rs.length) (fun g=>⟨[eF (dC n c f),tE rs,tE cs,jk,jk,jk,.raw (.slice none 0 0),.one (.sl 39 0 0 g.i),jk,jk,jk,jk,jk,tE rs,.raw (.int .i64 (rs.length:Int)),.raw (.int .i64 (g.i:Int)),jk,jk,jk,jk,jk,jk,jk,jk,jk,jk,jk,jk,jk,jk,jk,jk,jk,jk,jk,jk,jk,jk,jk,jk,jk,jk],Hm [(39,[⟨84,1,lc (fR fZ) ((rs.take g.i).map fun i=>cs.map (f i))⟩])]⟩) (fun g=>rs.length-g.i) ⟨0,by omega⟩ ?_ ?_
 ·refine(iz (k:=7) (d:=39) 84 1 (by omega) rfl rfl).trans (aT ⟨rfl,trivial⟩ ?_)
  simp[di,b9,b8]
 rintro⟨i,hi⟩
 simp only
 by_cases hm:i<rs.length
 ·obtain⟨r,hri⟩:=getElem?_of_lt hm
  have hrn:=hr r (aE hri)
  have hrow:=dm c f hrn
  (refine aL [] fun K hK=>?_;simp(disch:=omega) only[kc,aM,eF,tE,Hm,aU,aO,aR,aX,aS,cw];apply hK)
  refine aP (bJ rfl (bi ?_))
  refine aP (bA ?_)
  (refine aL [] fun K hK=>?_;simp(disch:=omega) only[kc,aM,aa,aQ,aZ,aW,iK,ch,hri,fN,s9,packT,BM];apply hK)
  (refine aL [] fun K hK=>?_;simp(disch:=omega) only[kc,aM,aN,ab];apply hK)
  (refine aP (aL [] fun K hK=>?_);simp(disch:=omega) only[kc,aM,aa,be,aZ,iK,bE,aN,ab];apply hK)
  refine cC (G:=L1 cs.length) (fun g=>⟨[eF (dC n c f),tE rs,tE cs,jk,jk,jk,.raw (.slice none 0 0),.one (.sl 39 0 0 i),jk,.raw (.int .i64 (r:Int)),.one (.sl 34 0 0 g.i),jk,jk,tE rs,.raw (.int .i64 (rs.length:Int)),.raw (.int .i64 (i:Int)),jk,jk,jk,tE cs,.raw (.int .i64 (cs.length:Int)),.raw (.int .i64 (g.i:Int)),jk,jk,jk,jk,jk,jk,jk,jk,jk,jk,jk,jk,jk,jk,jk,jk,jk,jk,jk,jk],Hm [(39,[⟨84,1,lc (fR fZ) ((rs.take i).map fun i=>cs.map (f i))⟩]),(34,[⟨42,2,lc fZ ((cs.take g.i).map (f r))⟩])]⟩) (fun g=>cs.length-g.i) ⟨0,by omega⟩ ?_ ?_
  ·refine(iz (k:=10) (d:=34) 42 2 (by omega) rfl rfl).trans (aT ⟨rfl,rfl,trivial⟩ ?_)
   simp[di,b9,b8]
  rintro⟨j,hj⟩
  simp only
  by_cases hm2:j<cs.length
  ·obtain⟨s,hsj⟩:=getElem?_of_lt hm2
   have hsc:=hs s (aE hsj)
   have hent:=cu (f r) hsc
   have eL:((cs.take j).map (f r)).length=j:=by simp;omega
   (refine aL [] fun K hK=>?_;simp(disch:=omega) only[kc,aM,eF,tE,Hm,aU,aO,aR,aX,aS,cw];apply hK)
   refine aP (bJ rfl (bi ?_))
   refine aP (bA ?_)
   (refine aL [] fun K hK=>?_;simp(disch:=omega) only[kc,aM,aa,aQ,aZ,aW,iK,ch,hsj,fN,s9,packT,BM];apply hK)
   ((refine bK [] [] (by simp) fun K hK=>?_);simp(disch:=omega) only[kc,aM,aa,aQ,aZ,aW,cb,ch,hrow,fR,dy,packT,dD,cE,hent,fZ,bS,cf,ai,cX,bU,bI,cx,gU,cellsOf,isPure,Nat.reduceMul,ap,List.contains_nil,lI,cQ,dX,kG,cU,eo,af,kC,eW,gE,eL,fW,gI,and_true,fq,f4,r6,uS (f r) hsj,ew,bz,bx,ak];apply hK)
   show da _ _ _ _
   ((refine bK [] [] (by simp) fun K hK=>?_);simp(disch:=omega) only[kc,aM,aU,aO,aR,aX,aN,ab,aS,cd];apply hK)
   refine⟨⟨j+1,by omega⟩,by simp only;omega,aT ⟨rfl,rfl,trivial⟩ ?_⟩
   simp[di,b9,b8]
  have hjc:j=cs.length:=by omega
  subst hjc
  (refine aL [] fun K hK=>?_;simp(disch:=omega) only[kc,aM,eF,tE,Hm,aU,aO,aR,aX,aS,cp];apply hK)
  refine aP (bL rfl (ck ?_))
  show da _ _ _ _
  refine da.weak ((fp 34 (eE rfl)).trans (aT (tm:=[eF (dC n c f),tE rs,tE cs,jk,jk,jk,.raw (.slice none 0 0),.one (.sl 39 0 0 i),jk,jk,.one (.p (.sl (ls fZ (cs.map (f r))))),jk,jk,tE rs,.raw (.int .i64 (rs.length:Int)),.raw (.int .i64 (i:Int)),jk,jk,jk,jk,jk,jk,jk,jk,jk,jk,jk,jk,jk,jk,jk,jk,jk,jk,jk,jk,jk,jk,jk,jk,jk,jk]) (l:=[(39,[⟨84,1,lc (fR fZ) ((rs.take i).map fun i=>cs.map (f i))⟩])]) ⟨rfl,trivial⟩ (by simp[di,b9,b8,gT,gh,Hm,eB,eZ,List.take_of_length_le]))) ?_
  have eL:((rs.take i).map fun i=>cs.map (f i)).length=i:=by simp;omega
  have eS:=uS (fun i=>cs.map (f i)) hri
  ((refine bK [] [] (by simp) fun K hK=>?_);simp(disch:=omega) only[kc,aM,aa,eF,tE,Hm,cX,bU,bI,cb,jQ,dy,gU,cellsOf,isPure,Nat.reduceMul,ap,List.contains_nil,lI,cQ,dX,kG,cU,eo,nF,eW,gE,eL,fW,gI,and_true,fq,f4,EJ,eS,ew,bz,bx];apply hK)
  show da _ _ _ _
  ((refine bK [] [] (by simp) fun K hK=>?_);simp(disch:=omega) only[kc,aM,aU,aO,aR,aX,aN,ab,aS,cd];apply hK)
  refine⟨⟨i+1,by omega⟩,by simp only;omega,aT ⟨rfl,trivial⟩ ?_⟩
  simp[di,b9,b8]
 have hin:i=rs.length:=by omega
 subst hin
 (refine aL [] fun K hK=>?_;simp(disch:=omega) only[kc,aM,eF,tE,Hm,aU,aO,aR,aX,aS,cp];apply hK)
 refine aP (bL rfl (ck ?_))
 show da _ _ _ _
 (refine aL [] fun K hK=>?_;simp(disch:=omega) only[kc,aM];apply hK)
 refine bC ⟨.inr rfl,kQ 39 (eE rfl) ?_ rfl⟩
 have eT:List.take rs.length (List.map (fun i=>cs.map (f i)) rs)=rs.map fun i=>cs.map (f i):=List.take_of_length_le (by simp)
 simp(disch:=omega) only[kc,cH,Tryz.results132,bH,List.take_length,gT,gh,cQ,eB,eT,eZ,eF]
abbrev og:List AV:=[.raw (.slice none 0 0)]
theorem nj {α:Type} {A:List α} {x:α} {l:List α} {i:Nat} (h:A.length=i):(A++x::l)[i]?=some x:=by
 rw[List.getElem?_append_right (by omega),h,Nat.sub_self];rfl
theorem nk {α:Type} {A:List α} {x y:α} {l:List α} {i:Nat} (h:A.length=i):(A++x::l).set i y=A++y::l:=by
 rw[List.set_append_right _ _ (by omega),h,Nat.sub_self];rfl
theorem FF (k:Nat->Nat->Bool) (R:List (List Int)):(R.map mS).map (fq k)=R.map mS:=by
 rw[List.map_map]
 exact List.map_congr_left fun r _=>by simp[fq,mS,f4]
theorem yi (d i c:Nat):(iX d (aj i c)).map (List.map (bx fun x y=>x==d&&y==i+1))=iX d (aj i c):=by
 apply List.ext_getElem?
 intro k
 rw[aH]
 by_cases h:k<i
 ·rw[d5 d c h]
  have:k≠i:=by omega
  simp[bx,this]
 rw[aC (by rw[dT,aG];omega)];rfl
def Ha (d n c:Nat) (f:Nat->Nat->Int) (i:Nat):List OObj:=⟨84,1,iX d (aj i c)++aj (n-i) og⟩::(dC i c f).map mS
def KL (d n c:Nat) (f:Nat->Nat->Int) (i j:Nat):List OObj:=⟨84,1,iX d (aj i c)++[.sl d (i+1) 0 (j+1)]::aj (n-i-1) og⟩::((dC i c f).map mS++[mS (dz (j+1) (f i))])
def Lw (d n c:Nat) (f:Nat->Nat->Int) (i:Nat):Nat->List OObj
 |0=>Ha d n c f i
 |j+1=>KL d n c f i j
theorem r7 (i c:Nat) (f:Nat->Nat->Int):dC (i+1) c f=dC i c f++[dz c (f i)]:=by simp[dC,List.range_succ]
theorem pY (j:Nat) (g:Nat->Int):dz (j+1) g=dz j g++[g j]:=by simp[dz,List.range_succ]
theorem JV {d n c i:Nat} (f:Nat->Nat->Int) (hc:1<=c) (hi:i<n):Lw d n c f i c=Ha d n c f (i+1):=by
 obtain⟨j,rfl⟩: ∃j,c=j+1:=⟨c-1,by omega⟩
 show KL d n (j+1) f i j=_
 unfold KL Ha
 rw[r7,List.replicate_succ' (n:=i),mW,aG]
 simp[Nat.sub_sub]
theorem JU (d n c:Nat) (f:Nat->Nat->Int):Ha d n c f n=qv d n c f:=by
 unfold Ha;simp
theorem Hb {d n c i:Nat} (f:Nat->Nat->Int) (hi:i<n):Ha d n c f i=⟨84,1,iX d (aj i c)++og::aj (n-i-1) og⟩::(dC i c f).map mS:=by
 unfold Ha
 rw[show n-i=n-i-1+1 by omega,List.replicate_succ];rfl
theorem Jv (n c:Nat) (f:Nat->Nat->Int) (hn:n<=17) (hc1:1<=c) (hc:c<=17) (hf: ∀i j,i<n->j<c->Bg (f i j)):
  CallC Tryz.prog 54 [eF (dC n c f)] ⟨qv 0 n c f,.one (.sl 0 0 0 n)⟩:=by
 have hml:=cT n c f
 refine bG Tryz.func54 rfl (by kernel_rfl) ?_;rw[Tryz.ntmps54]
 (refine aL [] fun K hK=>?_;simp(disch:=omega) only[kc,aM,eF,aj,aN,ab];apply hK)
 (refine aL [] fun K hK=>?_;simp(disch:=omega) only[kc,aM,aa,be,aZ,cb,bE,hml,cY,bU,bI,jQ,dy,nF,Int.natCast_nonneg,ab,and_true,cQ];apply hK)
 (refine aP (aL [] fun K hK=>?_);simp(disch:=omega) only[kc,aM,aa,be,aZ,cb,bE,hml,aN,ab];apply hK)
 refine cC (G:=ov n) (fun g=>⟨[eF (dC n c f),jk,.raw (.slice none 0 0),.one (.sl 9 0 0 n),jk,jk,jk,jk,jk,jk,jk,.raw (.int .i64 (n:Int)),.raw (.int .i64 (g.i:Int)),jk,jk,jk,jk,jk,jk,jk,jk,jk,jk,jk,jk,jk,jk,jk,jk,jk,jk,jk,jk,jk,jk,jk,jk,jk],Hm [(9,Ha 9 n c f g.i)]⟩) (fun g=>n-g.i) ⟨0,by omega⟩ ?_ ?_
 ·refine aT ⟨?_,trivial⟩ ?_
  ·show[_]=_
   simp[Ha,iX,dC]
  simp[di,b9,b8]
 rintro⟨i,hi⟩
 simp only
 by_cases hm:i<n
 ·have hrow:=dm c f hm
  have hmi:=cT i c f
  have hsl:(iX 9 (aj i c)).length=i:=by rw[dT,aG]
  have hrl:((dC i c f).map mS).length=i:=by rw[aF,hmi]
  (refine aL [] fun K hK=>?_;simp(disch:=omega) only[kc,aM,eF,Hm,aU,aO,aR,aX,aS,cw];apply hK)
  refine aP (bJ rfl (bi ?_))
  refine aP (bA ?_)
  (refine aL [] fun K hK=>?_;simp(disch:=omega) only[kc,aM];apply hK)
  (refine aL [] fun K hK=>?_;simp(disch:=omega) only[kc,aM,aa,aQ,aZ,aW,cb,ch,hrow,fR,dy,packT,dD,be,cE,bE,dj,aN,ab];apply hK)
  refine cC (G:=ov c) (fun g=>⟨[eF (dC n c f),jk,.raw (.slice none 0 0),.one (.sl 9 0 0 n),.raw (.int .i64 (i:Int)),jk,jk,jk,jk,jk,jk,.raw (.int .i64 (n:Int)),.raw (.int .i64 (i:Int)),jk,jk,jk,jk,jk,.one (.p (.sl (ls fZ (dz c (f i))))),.raw (.int .i64 (c:Int)),.raw (.int .i64 (g.i:Int)),jk,jk,jk,jk,jk,jk,jk,jk,jk,jk,jk,jk,jk,jk,jk,jk,jk],Hm [(9,Lw 9 n c f i g.i)]⟩) (fun g=>c-g.i) ⟨0,by omega⟩ ?_ ?_
  ·refine aT ⟨rfl,trivial⟩ ?_
   simp[di,b9,b8]
  rintro⟨j,hj⟩
  simp only
  by_cases hm2:j<c
  ·have hent:=cu (f i) hm2
   have hN:=Kc (f i j) (hf i j hm hm2)
   cases j with
   |zero=>
    rw[Lw,Hb f hm]
    (refine aL [] fun K hK=>?_;simp(disch:=omega) only[kc,aM,eF,Hm,aU,aO,aR,aX,aS,cw];apply hK)
    refine aP (bJ rfl (bi ?_))
    refine aP (bA ?_)
    (refine aL [] fun K hK=>?_;simp(disch:=omega) only[kc,aM,aa,aQ,aZ,aW,cE,ch,hent,fZ,bS,packT,cf,ai,cy,bU,bI,cx,ab,cQ,af,bo,ew,cU,bD,cellsOf,isPure,bu,bz,bx];apply hK)
    ((refine gP cJ [⟨7,_,_,_,hN⟩] [] (by kernel_rfl) (by simp) fun K hK=>?_);simp(disch:=omega) only[kc,tZ,bj.a,aM,aa,aQ,aZ,aW,cb,bD,af,d4,dy,cQ,nj hsl,packT,dD,bS,cf,ai,aY,bU,bI,ac,bO,cq,ae,bV,bW,bs,isPure,noRefTV,bf,bQ,bM,cX,cE,cx,gU,cellsOf,Nat.reduceMul,ap,List.contains_nil,lI,dX,kG,cU,eo,kC,fW,gI,and_true,bo,ew,bu,nk hsl,aF,hmi,bz,bx,ak];apply hK)
    show da _ _ _ _
    ((refine bK [] [] (by simp) fun K hK=>?_);simp(disch:=omega) only[kc,aM,aU,aO,aR,aX,aN,ab,aS,cd];apply hK)
    refine⟨⟨1,by omega⟩,by simp only;omega,aT ⟨?_,trivial⟩ ?_⟩
    ·rfl
    simp[di,b9,b8]
   |succ j=>
    have h01:(0==i+1)=false:=by simp
    rw[Lw,KL]
    (refine aL [] fun K hK=>?_;simp(disch:=omega) only[kc,aM,eF,Hm,aU,aO,aR,aX,aS,cw];apply hK)
    refine aP (bJ rfl (bi ?_))
    refine aP (bA ?_)
    (refine aL [] fun K hK=>?_;simp(disch:=omega) only[kc,aM,aa,aQ,aZ,aW,cE,ch,hent,fZ,bS,packT,cf,ai,cy,bU,bI,cx,ab,cQ,af,bo,ew,cU,bD,cellsOf,isPure,bu,bz,bx];apply hK)
    ((refine gP cJ [⟨7,_,_,_,hN⟩] [] (by kernel_rfl) (by simp) fun K hK=>?_);simp(disch:=omega) only[kc,tZ,bj.a,aM,aa,mS,aQ,aZ,aW,cb,bD,af,d4,dy,cQ,nj hsl,packT,dD,bS,cf,ai,aY,bU,bI,ac,bO,cq,ae,bV,bW,bs,isPure,noRefTV,bf,bQ,bM,cX,cE,cx,gU,cellsOf,Nat.reduceMul,ap,List.contains_nil,lI,dX,kG,cU,eo,nj hrl,kC,eW,gE,dj,fW,gI,and_true,fq,List.map_append,yi,bx,List.map_replicate,FF,f4,r6,nk hrl,ew,bz,h01,ak,bo,bu,nk hsl,reduceCtorEq,false_and,and_false,List.length_append,hrl];apply hK)
    show da _ _ _ _
    ((refine bK [] [] (by simp) fun K hK=>?_);simp(disch:=omega) only[kc,aM,aU,aO,aR,aX,aN,ab,aS,cd];apply hK)
    refine⟨⟨j+1+1,by omega⟩,by simp only;omega,aT ⟨?_,trivial⟩ ?_⟩
    ·show _=KL 9 n c f i (j+1)
     rw[KL,mS,pY (j+1)];rfl
    simp[di,b9,b8]
  have hjc:j=c:=by omega
  subst hjc
  (refine aL [] fun K hK=>?_;simp(disch:=omega) only[kc,aM,eF,Hm,aU,aO,aR,aX,aS,cp];apply hK)
  refine aP (bL rfl (ck ?_))
  show da _ _ _ _
  rw[JV f hc1 hm]
  ((refine bK [] [] (by simp) fun K hK=>?_);simp(disch:=omega) only[kc,aM,aU,aO,aR,aX,aN,ab,aS,cd];apply hK)
  refine⟨⟨i+1,by omega⟩,by simp only;omega,aT ⟨rfl,trivial⟩ ?_⟩
  simp[di,b9,b8]
 have hin:i=n:=by omega
 subst hin
 (refine aL [] fun K hK=>?_;simp(disch:=omega) only[kc,aM,eF,Hm,aU,aO,aR,aX,aS,cp];apply hK)
 refine aP (bL rfl (ck ?_))
 show da _ _ _ _
 rw[JU]
 (refine aL [] fun K hK=>?_;simp(disch:=omega) only[kc,aM];apply hK)
 refine bC ⟨.inr rfl,_,eg.refl _,?_⟩
 refine⟨.one (.sl 9 0 0 i),9,?_,rfl,?_,rfl⟩
 ·simp(disch:=omega) only[cH,Tryz.results54,bH,ah,ag]
 exact(oU 9 0 _ _ _).symm
theorem oD {P:Program} {c z:Code} {Q:Exit->AS->Prop} {s S:AS} (h1:da P c (mq (fun s'=>eg s' S) Q) s) (h2:da P z Q S):da P c (mq (da P z Q) Q) s:=h1.mono fun e s' h=>by
 cases e with
 |normal=>exact da.weak h h2
 |_=>exact h
theorem Sz.mul {a b:Int} {k l:Nat} (ha:Sz a k) (hb:Sz b l):Sz (a*b) (k+l):=by
 unfold Sz at*;rw[Int.natAbs_mul,Nat.pow_add];exact Nat.mul_lt_mul'' ha hb
theorem Sz.sub {a b:Int} {k:Nat} (ha:Sz a k) (hb:Sz b k):Sz (a-b) (k+1):=by
 unfold Sz at*
 have:=Int.natAbs_sub_le a b
 rw[Nat.pow_succ]
 generalize 4294967296^k=p at*
 omega
theorem Sz.add {a b:Int} {k:Nat} (ha:Sz a k) (hb:Sz b k):Sz (a+b) (k+1):=by
 unfold Sz at*
 have:=Int.natAbs_add_le a b
 rw[Nat.pow_succ]
 generalize 4294967296^k=p at*
 omega
theorem Sz.ediv {a:Int} {k:Nat} (ha:Sz a k) (b:Int):Sz (a/b) k:=ha.le (Int.natAbs_ediv_le_natAbs a b)
theorem Fi {f:Nat->Nat->Int} {n k:Nat}: ∀m p,n-p=m->piv f n k p<n->p<=piv f n k p/\f (piv f n k p) k≠0
 |0,p,hm,h=>by rw[qO (by omega)]at h;omega
 |m+1,p,hm,h=>by
  by_cases h0:f p k=0
  ·rw[vZ (by omega) h0]at h⊢
   have:=Fi m (p+1) (by omega) h
   exact⟨by omega,this.2⟩
  rw[vY (by omega) h0]at h⊢
  exact⟨by omega,h0⟩
theorem zM {f:Nat->Nat->Int} {n k:Nat}: ∀m p,n-p=m->piv f n k p<=n
 |0,p,hm=>by rw[qO (by omega)];omega
 |m+1,p,hm=>by
  by_cases h0:f p k=0
  ·rw[vZ (by omega) h0];exact zM m (p+1) (by omega)
  rw[vY (by omega) h0];omega
def ip (k:Nat) (last:Int) (g:Nat->Nat->Int) (i j:Nat):Nat->Nat->Int:=fun a b=>if k<a/\k<b/\(a<i\/(a=i/\b<j))then(g k k*g a b-g a k*g k b)/last else g a b
theorem H5 {k i j:Nat} (last:Int) (g:Nat->Nat->Int) (hi:k<i) (hj:k<j) (a b:Nat):upd (ip k last g i j) i j ((g k k*g i j-g i k*g k j)/last) a b=ip k last g i (j+1) a b:=by
 unfold upd ip
 by_cases h1:a=i
 ·subst h1
  by_cases h2:b=j
  ·subst h2;simp[hi,hj]
  have:b<j+1↔b<j:=by omega
  simp[h2,this]
 simp[h1]
theorem Kf {k n:Nat} (last:Int) (g:Nat->Nat->Int) (i a b:Nat) (hb:b<n):ip k last g i n a b=ip k last g (i+1) (k+1) a b:=by
 unfold ip
 have:(k<a/\k<b/\(a<i\/a=i/\b<n))↔(k<a/\k<b/\(a<i+1\/a=i+1/\b<k+1)):=by omega
 simp only[this]
theorem H6 (k:Nat) (last:Int) (g:Nat->Nat->Int):ip k last g (k+1) (k+1)=g:=by
 funext a b
 unfold ip
 rw[if_neg (by omega)]
theorem Ke {k n:Nat} (last:Int) (g:Nat->Nat->Int) (a b:Nat) (ha:a<n):ip k last g n (k+1) a b=Je k last g a b:=by
 unfold ip Je
 have:(k<a/\k<b/\(a<n\/a=n/\b<k+1))↔(k<a/\k<b):=by omega
 simp only[this]
theorem oZ {k i j a b:Nat} (last:Int) (g:Nat->Nat->Int) (h: ¬(k<a/\k<b/\(a<i\/(a=i/\b<j)))):ip k last g i j a b=g a b:=by
 unfold ip;rw[if_neg h]
theorem HZ {d n p k:Nat} (g:Nat->Nat->Int) (hp:p<n) (hk:k<n) (hne:k≠p) (r:Nat):(qv d n n (swp p k g))[r]?=
  (((⟨84,1,((iX d (aj n n)).set p [.sl d (k+1) 0 n]).set k [.sl d (p+1) 0 n]⟩::(dC n n g).map mS:List OObj))[sw (p+1) (k+1) r]?).map (tb d (p+1) (k+1)):=by
 cases r with
 |zero=>
  rw[show sw (p+1) (k+1) 0=0 by simp[sw]]
  simp only[ag,am,tb]
  congr 2
  apply List.ext_getElem?
  intro i
  rw[aH,List.getElem?_set,List.getElem?_set,List.length_set,dT,aG]
  by_cases hi:i<n
  ·rw[d5 d n hi]
   by_cases h1:k=i
   ·subst h1
    simp[hi,kV,oy,sw]
   by_cases h2:p=i
   ·subst h2
    simp[h1,hi,kV,oy,sw]
   have h1': ¬i=k:=fun e=>h1 e.symm
   have h2': ¬i=p:=fun e=>h2 e.symm
   simp[h1,h2,h1',h2',kV,oy,sw]
  have h1: ¬k=i:=by omega
  have h2: ¬p=i:=by omega
  rw[if_neg h1,if_neg h2,aC (by rw[dT,aG];omega)];rfl
 |succ r=>
  have hsw:sw (p+1) (k+1) (r+1)=sw p k r+1:=by
   unfold sw
   by_cases h1:r=p
   ·simp[h1]
   by_cases h2:r=k
   ·simp[h1,h2,hne]
   simp[h1,h2]
  have hO: ∀l:List Int,tb d (p+1) (k+1) (mS l)=mS l:=fun l=>by
   simp only[tb,mS,lc,List.map_map]
   congr 1
  rw[hsw,ah,ah,aH,aH]
  by_cases hr:r<n
  ·have hs:sw p k r<n:=by unfold sw;split<;>(try split)<;>omega
   rw[dm _ _ hr,dm _ _ hs]
   simp only[am,hO]
   congr 3
   unfold swp sw
   by_cases h1:r=p
   ·simp[h1]
   by_cases h2:r=k
   ·simp[h1,h2,hne]
   simp[h1,h2]
  have hs: ¬sw p k r<n:=by unfold sw;rw[if_neg (by omega),if_neg (by omega)];exact hr
  rw[aC (by rw[cT];omega),aC (by rw[cT];omega)];rfl
structure Mc (n:Nat) (f:Nat->Nat->Int) where
 k:Nat
 g:Nat->Nat->Int
 last:Int
 neg:Bool
 b:Nat
 hk:k<=n
 hv:detG n k g last neg=detF n f
 hl:last≠0
 hb:b+1<=1025*2^k
 sg: ∀i j,i<n->j<n->Sz (g i j) b
 sl:Sz last b
structure Mh (n k:Nat) (g:Nat->Nat->Int) where
 p:Nat
 hkp:k<=p
 hp:p<=n
 hv:piv g n k p=piv g n k k
structure L0 (n k:Nat) where
 i:Nat
 hk:k+1<=i
 hi:i<=n
abbrev yX (v:Int):List OObj:=w7 (decide (v<0)) (bT v.natAbs)
theorem Bx:sg 0=0:=rfl
theorem Ji {z:Int} (h:z≠0):sg z≠0:=by unfold sg;split<;>simp[h]
theorem lB {k:Nat} (h:k<=16):2^k<=65536:=Nat.pow_le_pow_right (n:=2) (by omega) h
theorem tc (n:Nat) (f:Nat->Nat->Int) (hn1:1<=n) (hn:n<=16) (hf: ∀i j,i<n->j<n->Sz (f i j) 1024):
  CallC Tryz.prog 22 [eF (dC n n f)] ⟨[],tZ (detF n f)⟩:=by
 have hC:=Jv n n f (by omega) hn1 (by omega) (fun i j hi hj=>(hf i j hi hj).mono (by omega))
 have hS:=ws 1 (by omega) (by omega)
 refine bG Tryz.func22 rfl (by kernel_rfl) ?_;rw[Tryz.ntmps22]
 (refine aL [] fun K hK=>?_;simp(disch:=omega) only[kc,aM,eF,aj,cy,bU,bI,cx,ab,aa,cQ];apply hK)
 (refine aL [⟨1,_,_,_,hC⟩] fun K hK=>?_;simp(disch:=omega) only[kc,eF,bj.a,aM,aa,aY,bU,bI,ac,bO,cq,ae,List.isEmpty_cons,bV,bW,bs,Bool.not_false,noRefTV,bf,Bool.or_false,bQ,bM,renO,bD,af];apply hK)
 (refine aL [] fun K hK=>?_;simp(disch:=omega) only[kc,aM,aa,be,aZ,cb];apply hK)
 (refine aL [⟨0,_,_,_,hS⟩] fun K hK=>?_;simp(disch:=omega) only[kc,tZ,cp,bj.a,aM,aa,aY,bU,bI,ac,bO,aN,ab,cq,ae,bV,bW,bs,noRefTV,bf,bQ,bM,cy,cx,cQ,bD,af,d4,bo,ew,cU,bS,cellsOf,ai,isPure,bu,bz,bx];apply hK)
 (refine aP (aL [] fun K hK=>?_);simp(disch:=omega) only[kc,aM,aN,ab];apply hK)
 refine cC (G:=Mc n f) (fun g=>⟨[jk,jk,.one (.ptr 2 0 0 0),.one (.sl 12 0 0 n),.raw (.int .i64 (n:Int)),.one (.ptr 5 0 0 0),.raw (.bool g.neg),.raw (.int .i64 (g.k:Int)),jk,jk,jk,jk,jk,jk,jk,jk,jk,jk,jk,jk,jk,jk,jk,jk,jk,jk,jk,jk,jk,jk,jk,jk,jk,jk,jk,jk,jk,jk,jk,jk,jk,jk,jk,jk,jk,jk,jk,jk,jk,jk,jk,jk,jk,jk,jk,jk,jk,jk,jk,jk,jk,jk,jk,jk,jk,jk,jk,jk,jk,jk,jk,jk,jk,jk,jk,jk,jk,jk,jk,jk,jk,jk,jk,jk,jk,jk,jk,jk,jk,jk,jk,jk,jk,jk,jk,jk,jk,jk,jk,jk,jk,jk,jk,jk,jk,jk,jk,jk,jk,jk,jk,jk,jk,jk,jk,jk,jk,jk,jk,jk,jk,jk,jk,jk,jk],Hm [(2,yW),(5,yX g.last),(12,qv 12 n n g.g)]⟩) (fun g=>n-g.k) ⟨0,f,1,false,1024,by omega,rfl,by omega,by omega,hf,wv (by omega)⟩ ?_ ?_
 ·refine aT ⟨rfl,rfl,?_,trivial⟩ ?_
  ·exact oU 0 12 n n f
  simp[di,b9,b8]
 rintro⟨k,g,last,neg,b,hk,hv,hl,hb,sgz,slz⟩
 simp only
 by_cases hm:k<n
 ·have h2k:=lB (k:=k) (by omega)
  have hbb:b<=67174400:=by omega
  have hvk:detG n k g last neg=if piv g n k k=n then 0 else detG n (k+1) (Je k last (KP n k g)) (KP n k g k k) (neg !=decide (k<piv g n k k)):=by rw[detG,if_pos hm]
  (refine aP (aL [] fun K hK=>?_);simp(disch:=omega) only[kc,aM,aa,Hm,aU,aO,aR,aX,aS,cw];apply hK)
  refine bJ rfl (bi ?_)
  refine aP (bA ?_)
  (refine aL [] fun K hK=>?_;simp(disch:=omega) only[kc,aM];apply hK)
  refine aP (oD (S:=⟨[jk,jk,.one (.ptr 2 0 0 0),.one (.sl 12 0 0 n),.raw (.int .i64 (n:Int)),.one (.ptr 5 0 0 0),.raw (.bool neg),.raw (.int .i64 (k:Int)),.raw (.int .i64 ((piv g n k k:Nat):Int)),jk,jk,jk,jk,jk,jk,jk,jk,jk,jk,jk,jk,jk,jk,jk,jk,jk,jk,jk,jk,jk,jk,jk,jk,jk,jk,jk,jk,jk,jk,jk,jk,jk,jk,jk,jk,jk,jk,jk,jk,jk,jk,jk,jk,jk,jk,jk,jk,jk,jk,jk,jk,jk,jk,jk,jk,jk,jk,jk,jk,jk,jk,jk,jk,jk,jk,jk,jk,jk,jk,jk,jk,jk,jk,jk,jk,jk,jk,jk,jk,jk,jk,jk,jk,jk,jk,jk,jk,jk,jk,jk,jk,jk,jk,jk,jk,jk,jk,jk,jk,jk,jk,jk,jk,jk,jk,jk,jk,jk,jk,jk,jk,jk,jk,jk,jk],Hm [(2,yW),(5,yX last),(12,qv 12 n n g)]⟩) ?_ ?_)
  ·refine cC (G:=Mh n k g) (fun q=>⟨[jk,jk,.one (.ptr 2 0 0 0),.one (.sl 12 0 0 n),.raw (.int .i64 (n:Int)),.one (.ptr 5 0 0 0),.raw (.bool neg),.raw (.int .i64 (k:Int)),.raw (.int .i64 (q.p:Int)),jk,jk,jk,jk,jk,jk,jk,jk,jk,jk,jk,jk,jk,jk,jk,jk,jk,jk,jk,jk,jk,jk,jk,jk,jk,jk,jk,jk,jk,jk,jk,jk,jk,jk,jk,jk,jk,jk,jk,jk,jk,jk,jk,jk,jk,jk,jk,jk,jk,jk,jk,jk,jk,jk,jk,jk,jk,jk,jk,jk,jk,jk,jk,jk,jk,jk,jk,jk,jk,jk,jk,jk,jk,jk,jk,jk,jk,jk,jk,jk,jk,jk,jk,jk,jk,jk,jk,jk,jk,jk,jk,jk,jk,jk,jk,jk,jk,jk,jk,jk,jk,jk,jk,jk,jk,jk,jk,jk,jk,jk,jk,jk,jk,jk,jk,jk],Hm [(2,yW),(5,yX last),(12,qv 12 n n g)]⟩) (fun q=>n-q.p) ⟨k,by omega,by omega,rfl⟩ ?_ ?_
   ·refine aT ⟨rfl,rfl,rfl,trivial⟩ ?_
    simp[di,b9,b8]
   rintro⟨p,hkp,hp,hpv⟩
   simp only
   by_cases hpn:p<n
   ·have g1:=d5 (n:=n) (i:=p) 12 n hpn
    have g2:=kv n g hpn
    have g3:=cu (g p) hm
    have hSg:=qb (g p k) ((sgz p k hpn hm).mono (by omega))
    by_cases h0:g p k=0
    ·rw[h0]at hSg g3
     (refine aP (aL [⟨11,_,_,_,hSg⟩] fun K hK=>?_);simp(disch:=omega) only[kc,tZ,cp,Bx,bj.a,aM,aa,Hm,aU,aO,aR,aX,aS,cw,bP,aQ,aZ,aW,cb,af,cQ,d4,dy,g1,packT,dD,cE,g2,bS,dp,fZ,g3,cf,ai,aY,bU,bI,ac,bO,cq,ae,bV,bW,bs,isPure,noRefTV,bf,bQ,bM,aN,ab,b7];apply hK)
     refine bJ rfl (bi ?_)
     refine bA ?_
     ((refine bK [] [] (by simp) fun K hK=>?_);simp(disch:=omega) only[kc,aM,aa,aU,aO,aR,aX,aN,ab,aS,cd];apply hK)
     refine⟨⟨p+1,by omega,by omega,?_⟩,by simp only;omega,aT ⟨rfl,rfl,rfl,trivial⟩ ?_⟩
     ·rw[<- hpv,vZ hpn h0]
     simp[di,b9,b8]
    have hs0:=Ji h0
    (refine aP (aL [⟨11,_,_,_,hSg⟩] fun K hK=>?_);simp(disch:=omega) only[kc,tZ,bj.a,aM,aa,Hm,aU,aO,aR,aX,aS,cw,bP,aQ,aZ,aW,cb,af,cQ,d4,dy,g1,packT,dD,cE,g2,bS,dp,fZ,g3,cf,ai,aY,bU,bI,ac,bO,cq,ae,bV,bW,bs,isPure,noRefTV,bf,bQ,bM,aN,ab,cp,b7];apply hK)
    refine bL rfl (ck ?_)
    show eg _ _
    have hpe:piv g n k k=p:=by rw[<- hpv,vY hpn h0]
    refine aT ⟨rfl,rfl,rfl,trivial⟩ ?_
    simp[di,b9,b8,hpe]
   have hpe:piv g n k k=p:=by rw[<- hpv,qO hpn];omega
   (refine aP (aL [] fun K hK=>?_);simp(disch:=omega) only[kc,aM,aa,Hm,aU,aO,aR,aX,aS,cp,bP,aQ,aZ,Option.map_none,aY,bU,bI,List.find?_nil,bO,aN,ab,cQ,b7];apply hK)
   refine bL rfl (ck ?_)
   show eg _ _
   refine aT ⟨rfl,rfl,rfl,trivial⟩ ?_
   simp[di,b9,b8,hpe]
  have hpl:=zM (f:=g) (n:=n) (k:=k) (n-k) k rfl
  have hpn':=Fi (f:=g) (n:=n) (k:=k) (n-k) k rfl
  generalize hpp:piv g n k k=p at*
  by_cases hpn:p=n
  ·rw[if_pos hpn]at hvk
   (refine aP (aL [] fun K hK=>?_);simp(disch:=omega) only[kc,aM,aa,Hm,aU,aO,aR,aX,aS,cw];apply hK)
   refine bJ rfl ?_
   (refine aL [] fun K hK=>?_;simp(disch:=omega) only[kc,aM,jL,aZ,cx,jx,ab,iC,bo,ew,cU,bS,af,d4,cellsOf,aa,ai,isPure,cQ,bu,bz,bx];apply hK)
   refine da.weak (jd 2) ?_
   refine bC ⟨.inr rfl,bF rfl ?_ rfl⟩
   rw[<- hv,hvk]
   simp(disch:=omega) only[kc,cH,Tryz.results22,bH,zH,bD,af,d4,cQ,zO,Ak,BV,packT,bS,cf,aa,ai,tZ,cp]
   simp[ef,ls]
  rw[if_neg hpn]at hvk
  obtain⟨hkp,hpk0⟩:=hpn' (by omega)
  (refine aP (aL [] fun K hK=>?_);simp(disch:=omega) only[kc,aM,aa,Hm,aU,aO,aR,aX,aS,cp];apply hK)
  refine bL rfl (bi ?_)
  show da _ _ _ _
  (refine aP (aL [] fun K hK=>?_);simp(disch:=omega) only[kc,aM,aa,aU,aO,aR,aX,aS];apply hK)
  refine oD (S:=⟨[jk,jk,.one (.ptr 2 0 0 0),.one (.sl 12 0 0 n),.raw (.int .i64 (n:Int)),.one (.ptr 5 0 0 0),.raw (.bool (neg !=decide (k<p))),.raw (.int .i64 (k:Int)),jk,jk,jk,jk,jk,jk,jk,jk,jk,jk,jk,jk,jk,jk,jk,jk,jk,jk,jk,jk,jk,jk,jk,jk,jk,jk,jk,jk,jk,jk,jk,jk,jk,jk,jk,jk,jk,jk,jk,jk,jk,jk,jk,jk,jk,jk,jk,jk,jk,jk,jk,jk,jk,jk,jk,jk,jk,jk,jk,jk,jk,jk,jk,jk,jk,jk,jk,jk,jk,jk,jk,jk,jk,jk,jk,jk,jk,jk,jk,jk,jk,jk,jk,jk,jk,jk,jk,jk,jk,jk,jk,jk,jk,jk,jk,jk,jk,jk,jk,jk,jk,jk,jk,jk,jk,jk,jk,jk,jk,jk,jk,jk,jk,jk,jk,jk,jk],Hm [(2,yW),(5,yX last),(12,qv 12 n n (swp p k g))]⟩) ?_ ?_
  ·by_cases hlt:k<p
   ·have g1:=d5 (n:=n) (i:=p) 12 n (by omega)
    have g2:=d5 (n:=n) (i:=k) 12 n (by omega)
    refine bJ rfl ?_
    have g4:((iX 12 (aj n n)).set p [.sl 12 (k+1) 0 n])[k]?=some [.sl 12 (k+1) 0 n]:=by
     rw[List.getElem?_set_ne (by omega),g2]
    (refine cL cJ [] [] (by kernel_rfl) (by simp) fun K hK=>?_;simp(disch:=omega) only[kc,aM,aa,cw,aQ,aZ,aW,cb,af,d4,dy,cQ,g2,packT,dD,g1,bo,ew,cU,bu,bz,bx,bD,g4,ap,reduceCtorEq,false_and,and_false,aF];apply hK)
    ((refine bK [] [] (by simp) fun K hK=>?_);simp(disch:=omega) only[kc,aM,aa,dM,aU,fD];apply hK)
    refine(u6 12 (p+1) (k+1) (qv 12 n n (swp p k g)) (HZ g (by omega) hm (by omega))).trans (aT ⟨rfl,rfl,rfl,trivial⟩ ?_)
    simp[di,b9,b8,F8,kV,oy,sw,hlt]
   have hpk:p=k:=by omega
   subst hpk
   refine bL rfl (bi ?_)
   show eg _ _
   rw[ym]
   refine aT ⟨rfl,rfl,rfl,trivial⟩ ?_
   simp[di,b9,b8]
  rw[KP,hpp]at hvk
  have hkk:swp p k g k k≠0:=by
   unfold swp
   by_cases h:k=p
   ·subst h;rw[if_pos rfl];exact hpk0
   rw[if_neg h,if_pos rfl];exact hpk0
  have hsz: ∀i j,i<n->j<n->Sz (swp p k g i j) b:=fun i j hi hj=>by
   unfold swp
   split
   ·exact sgz k j hm hj
   split
   ·exact sgz p j (by omega) hj
   exact sgz i j hi hj
  generalize swp p k g=g' at*
  generalize(neg !=decide (k<p))=neg' at*
  (refine aP (aL [] fun K hK=>?_);simp(disch:=omega) only[kc,aM,aa,Hm,aU,aO,aR,aX,aN,ab,aS,cd];apply hK)
  refine cC (G:=L0 n k) (fun q=>⟨[jk,jk,.one (.ptr 2 0 0 0),.one (.sl 12 0 0 n),.raw (.int .i64 (n:Int)),.one (.ptr 5 0 0 0),.raw (.bool neg'),.raw (.int .i64 (k:Int)),jk,.raw (.int .i64 (q.i:Int)),jk,jk,jk,jk,jk,jk,jk,jk,jk,jk,jk,jk,jk,jk,jk,jk,jk,jk,jk,jk,jk,jk,jk,jk,jk,jk,jk,jk,jk,jk,jk,jk,jk,jk,jk,jk,jk,jk,jk,jk,jk,jk,jk,jk,jk,jk,jk,jk,jk,jk,jk,jk,jk,jk,jk,jk,jk,jk,jk,jk,jk,jk,jk,jk,jk,jk,jk,jk,jk,jk,jk,jk,jk,jk,jk,jk,jk,jk,jk,jk,jk,jk,jk,jk,jk,jk,jk,jk,jk,jk,jk,jk,jk,jk,jk,jk,jk,jk,jk,jk,jk,jk,jk,jk,jk,jk,jk,jk,jk,jk,jk,jk,jk,jk,jk],Hm [(2,yW),(5,yX last),(12,qv 12 n n (ip k last g' q.i (k+1)))]⟩) (fun q=>n-q.i) ⟨k+1,by omega,by omega⟩ ?_ ?_
  ·rw[H6]
   refine aT ⟨rfl,rfl,rfl,trivial⟩ ?_
   simp[di,b9,b8]
  rintro⟨i,hki,hin⟩
  simp only
  by_cases hi:i<n
  ·(refine aP (aL [] fun K hK=>?_);simp(disch:=omega) only[kc,aM,aa,Hm,aU,aO,aR,aX,aS,cw];apply hK)
   refine bJ rfl (bi ?_)
   refine aP (bA ?_)
   (refine aL [] fun K hK=>?_;simp(disch:=omega) only[kc,aM,aa,aU,aO,aR,aX,aN,ab,aS,cd];apply hK)
   refine cC (G:=L0 n k) (fun q=>⟨[jk,jk,.one (.ptr 2 0 0 0),.one (.sl 12 0 0 n),.raw (.int .i64 (n:Int)),.one (.ptr 5 0 0 0),.raw (.bool neg'),.raw (.int .i64 (k:Int)),jk,.raw (.int .i64 (i:Int)),.raw (.int .i64 (q.i:Int)),jk,jk,jk,jk,jk,jk,jk,jk,jk,jk,jk,jk,jk,jk,jk,jk,jk,jk,jk,jk,jk,jk,jk,jk,jk,jk,jk,jk,jk,jk,jk,jk,jk,jk,jk,jk,jk,jk,jk,jk,jk,jk,jk,jk,jk,jk,jk,jk,jk,jk,jk,jk,jk,jk,jk,jk,jk,jk,jk,jk,jk,jk,jk,jk,jk,jk,jk,jk,jk,jk,jk,jk,jk,jk,jk,jk,jk,jk,jk,jk,jk,jk,jk,jk,jk,jk,jk,jk,jk,jk,jk,jk,jk,jk,jk,jk,jk,jk,jk,jk,jk,jk,jk,jk,jk,jk,jk,jk,jk,jk,jk,jk,jk,jk],Hm [(2,yW),(5,yX last),(12,qv 12 n n (ip k last g' i q.i))]⟩) (fun q=>n-q.i) ⟨k+1,by omega,by omega⟩ ?_ ?_
   ·refine aT ⟨rfl,rfl,rfl,trivial⟩ ?_
    simp[di,b9,b8]
   rintro⟨j,hkj,hjn⟩
   simp only
   by_cases hj:j<n
   ·have a1:=d5 (n:=n) (i:=i) 12 n hi
    have a2:=d5 (n:=n) (i:=k) 12 n hm
    have a3:=kv n (ip k last g' i j) hi
    have a4:=kv n (ip k last g' i j) hm
    have a5:(dz n (ip k last g' i j k))[k]?=some (g' k k):=by rw[cu _ hm,oZ _ _ (by omega)]
    have a6:(dz n (ip k last g' i j i))[j]?=some (g' i j):=by rw[cu _ hj,oZ _ _ (by omega)]
    have a7:(dz n (ip k last g' i j i))[k]?=some (g' i k):=by rw[cu _ hm,oZ _ _ (by omega)]
    have a8:(dz n (ip k last g' i j k))[j]?=some (g' k j):=by rw[cu _ hj,oZ _ _ (by omega)]
    have z1:=hsz k k hm hm
    have z2:=hsz i j hi hj
    have z3:=hsz i k hi hm
    have z4:=hsz k j hm hj
    have c1:=I2 (g' k k) (g' i j) (z1.mono (by omega)) (z2.mono (by omega))
    have c2:=I2 (g' i k) (g' k j) (z3.mono (by omega)) (z4.mono (by omega))
    have c3:=I6 (g' k k*g' i j) (g' i k*g' k j) ((z1.mul z2).mono (by omega)) ((z3.mul z4).mono (by omega))
    have c4:=K0 (g' k k*g' i j-g' i k*g' k j) last hl (((z1.mul z2).sub (z3.mul z4)).mono (by omega)) (slz.mono (by omega))
    (refine aP (aL [] fun K hK=>?_);simp(disch:=omega) only[kc,aM,aa,Hm,aU,aO,aR,aX,aS,cw];apply hK)
    refine bJ rfl (bi ?_)
    refine aP (bA ?_)
    ((refine gP cJ [⟨19,_,_,_,c1⟩,⟨34,_,_,_,c2⟩,⟨35,_,_,_,c3⟩,⟨37,_,_,_,c4⟩] [] (by kernel_rfl) (by simp) fun K hK=>?_);simp(disch:=omega) only[kc,tZ,bj.a,aM,aa,aQ,aZ,aW,cb,af,d4,dy,cQ,a1,packT,dD,a2,cE,a4,bS,dp,fZ,a5,cf,ai,a3,a6,aY,bU,bI,ac,bO,cq,ae,bV,bW,bs,isPure,noRefTV,bf,bQ,bM,a7,a8,ak,bo,ew,cU,cellsOf,bu,vU,bz,bx];apply hK)
    show da _ _ _ _
    ((refine bK [] [] (by simp) fun K hK=>?_);simp(disch:=omega) only[kc,aM,aa,aU,aO,aR,aX,aN,ab,aS,cd];apply hK)
    refine⟨⟨j+1,by omega,by omega⟩,by simp only;omega,aT ⟨rfl,rfl,?_,trivial⟩ ?_⟩
    ·show _::_=_::_
     rw[ij fun a b _ _=>H5 last g' hki hkj a b]
    simp[di,b9,b8]
   have hjn':j=n:=by omega
   subst hjn'
   (refine aP (aL [] fun K hK=>?_);simp(disch:=omega) only[kc,aM,aa,Hm,aU,aO,aR,aX,aS,cp];apply hK)
   refine bL rfl (ck ?_)
   show da _ _ _ _
   ((refine bK [] [] (by simp) fun K hK=>?_);simp(disch:=omega) only[kc,aM,aa,aU,aO,aR,aX,aN,ab,aS,cd];apply hK)
   refine⟨⟨i+1,by omega,by omega⟩,by simp only;omega,aT ⟨rfl,rfl,?_,trivial⟩ ?_⟩
   ·show _::_=_::_
    rw[ij fun a b _ hb=>Kf last g' i a b hb]
   simp[di,b9,b8]
  have hin':i=n:=by omega
  subst hin'
  have a2:=d5 (n:=i) (i:=k) 12 i hm
  have a4:=kv i (ip k last g' i (k+1)) hm
  have a5:(dz i (ip k last g' i (k+1) k))[k]?=some (g' k k):=by rw[cu _ hm,oZ _ _ (by omega)]
  (refine aP (aL [] fun K hK=>?_);simp(disch:=omega) only[kc,aM,aa,Hm,aU,aO,aR,aX,aS,cp];apply hK)
  refine bL rfl (ck ?_)
  show da _ _ _ _
  ((refine bK [] [] (by simp) fun K hK=>?_);simp(disch:=omega) only[kc,aM,aa,aQ,aZ,aW,cb,af,d4,dy,cQ,a2,packT,dD,cE,a4,bS,dp,fZ,a5,cf,ai,bo,ew,cU,cellsOf,isPure,bu,bz,bx];apply hK)
  show da _ _ _ _
  ((refine bK [] [] (by simp) fun K hK=>?_);simp(disch:=omega) only[kc,aM,aa,aU,aO,aR,aX,aN,ab,aS,cd];apply hK)
  refine⟨⟨k+1,Je k last g',g' k k,neg',2*b+1,by omega,by rw[<- hvk,hv],hkk,by rw[Nat.pow_succ];omega,fun x y hx hy=>?_,(hsz k k hm hm).mono (by omega)⟩,by simp only;omega,aT ⟨rfl,rfl,?_,trivial⟩ ?_⟩
  ·unfold Je
   split
   ·exact((((hsz k k hm hm).mul (hsz x y hx hy)).sub ((hsz x k hx hm).mul (hsz k y hm hy))).ediv last).mono (by omega)
   exact(hsz x y hx hy).mono (by omega)
  ·show _::_=_::_
   rw[ij fun a b ha _=>Ke last g' a b ha]
  simp[di,b9,b8]
 have hkn:k=n:=by omega
 subst hkn
 rw[detG,if_neg hm]at hv
 have h2k:=lB (k:=k) hn
 have hN:=Jd last (slz.mono (by omega))
 (refine aP (aL [] fun K hK=>?_);simp(disch:=omega) only[kc,aM,aa,Hm,aU,aO,aR,aX,aS,cp];apply hK)
 refine bL rfl (ck ?_)
 show da _ _ _ _
 (refine aP (aL [] fun K hK=>?_);simp(disch:=omega) only[kc,aM];apply hK)
 cases neg with
 |true=>
  rw[if_pos rfl]at hv
  refine bJ rfl ?_
  (refine aL [⟨1,_,_,_,hN⟩] fun K hK=>?_;simp(disch:=omega) only[kc,tZ,bj.a,aM,aa,aZ,af,d4,packT,bS,cf,ai,aY,bU,bI,ac,bO,cq,ae,bV,bW,bs,isPure,noRefTV,bf,bQ,bM,bo,ew,cU,cellsOf,cQ,bu,bz,bx];apply hK)
  rw[<- hv]
  (refine bC ⟨.inr rfl,bF rfl ?_ rfl⟩;simp(disch:=omega) only[kc,cH,Tryz.results22,bH,bD,af,d4,packT,bS,cf,aa,ai,tZ])
 |false=>
  rw[if_neg (by simp)]at hv
  refine bL rfl (bi ?_)
  show da _ _ _ _
  (refine aL [] fun K hK=>?_;simp(disch:=omega) only[kc,aM,aZ,af,d4,packT,bS,cf,aa,ai,bo,ew,cU,cellsOf,isPure,cQ,bu,bz,bx];apply hK)
  rw[<- hv]
  (refine bC ⟨.inr rfl,bF rfl ?_ rfl⟩;simp(disch:=omega) only[kc,cH,Tryz.results22,bH,bD,af,d4,packT,bS,cf,aa,ai,tZ])
section
section
variable {P:Program}
theorem pp {items:List (fh P)} (hI:iL P items) {ow:List Nat} {ops:Array Oper} {w0:World} {O X:Nat->Prop} {Q:Exit->Act->World->Prop} {suf:List Nat}: ∀(l:List Oper) (k:Nat) (s s':AS) (a:Act) (w:World),(∀(j:Nat) o,l[j]?=some o->ops[k+j]?=some o)->
  jG P items ow ops (l.zipIdx k) s=some s'->iW w0 O X s a w->(∀a' w',iW w0 O X s' a' w'->wpOps P ops Q suf a' w')->wpOps P ops Q (List.range' k l.length++suf) a w
 |[],k,s,s',a,w,_,h,r,hQ=>by
  simp only[List.zipIdx_nil,jG]at h
  injection h with h
  subst h
  exact hQ a w r
 |o::l,k,s,s',a,w,hl,h,r,hQ=>by
  simp only[List.zipIdx_cons,jG]at h
  split at h
  ·rename_i s1 hs1
   simp only[List.length_cons,List.range'_succ,List.cons_append,wpOps]
   have ho:ops[k]?=some o:=by have:=hl 0 o rfl;simpa using this
   rw[ho]
   simp only
   have:=jT (Q:=Q) hI r hs1 (K:=wpOps P ops Q (List.range' (k+1) l.length++suf)) (fun v w' hr=>pp hI l (k+1) s1 s' _ _ (fun j o hj=>by have:=hl (j+1) o (by simpa using hj);rwa[show k+(j+1)=k+1+j by omega]at this) h hr hQ)
   split at this
   ·rename_i hw;rw[if_pos hw];exact .inl this
   rename_i hw;rw[if_neg hw];exact this
  cases h
end
end
end Go.Proofs.YtfgeomlagfomgaaGreatDoor
