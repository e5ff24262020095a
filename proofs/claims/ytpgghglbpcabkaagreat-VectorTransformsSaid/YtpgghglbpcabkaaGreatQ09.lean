/-
  Part 10 of a proof (walks and plain facts).
-/
import Derived.Test.YtpgghglbpcabkaaGreatQ08
set_option linter.all false
set_option maxRecDepth 100000
set_option maxHeartbeats 64000000
namespace Go.Proofs.YtpgghglbpcabkaaGreat
open Go.RowKit
section
def yE:PV->PV
 | .raw (.slice none 0 0)=> .sl []
 |x=>x
def yA:AV->AV
 | .p x=> .p (yE x)
 |x=>x
def zO (o:OObj):OObj:={o with elems:=o.elems.map (List.map yA)}
theorem Ip {X:Nat->Prop} {w:World} {x:PV} {v:Value} (h:dy X w x v):dy X w (yE x) v:=by
 unfold yE
 split
 ·cases h;exact .nil none 0
 ·exact h
theorem Io {ρ:gm} {H:OH} {X:Nat->Prop} {w:World} {x:AV} {v:Value} (h:x.rel ρ H X w v):(yA x).rel ρ H X w v:=by
 cases x with
 |p x=>exact Ip h
 |sl a r off len=>exact h
 |ptr a r i j=>exact h
 |junk=>exact h
section
variable {H:OH} {d:Nat}
def zH (H:OH) (d:Nat):OH:=aJ H d ((H d).map zO)
theorem qg {a r:Nat} {o:OObj} (h:(zH H d a)[r]?=some o): ∃o',(H a)[r]?=some o'/\((a=d/\o=zO o')\/o=o'):=by
 unfold zH at h
 by_cases ha:a=d
 ·subst ha
  rw[cz,List.getElem?_map]at h
  obtain⟨o',h1,h2⟩:=Option.map_eq_some_iff.1 h
  exact⟨o',h1,.inl ⟨rfl,h2.symm⟩⟩
 ·rw[bO ha]at h
  exact⟨o,h,.inr rfl⟩
theorem F5 {a r:Nat} {o:OObj} (h:(H a)[r]?=some o): ∃o',(zH H d a)[r]?=some o'/\o'.es=o.es/\o'.elems.length=o.elems.length:=by
 unfold zH
 by_cases ha:a=d
 ·subst ha
  exact⟨zO o,by rw[cz,List.getElem?_map,h];rfl,rfl,by simp[zO]⟩
 ·exact⟨o,by rw[bO ha];exact h,rfl,rfl⟩
theorem IJ (X:Nat->Prop) (ρ:gm):Xo X ρ (zH H d)=Xo X ρ H:=by
 funext b
 apply propext
 constructor
 ·rintro(h|⟨a,r,o,c,h1,h2⟩)
  ·exact .inl h
  ·obtain⟨o',g1,_⟩:=qg h1
   exact .inr ⟨a,r,o',c,g1,h2⟩
 ·rintro(h|⟨a,r,o,c,h1,h2⟩)
  ·exact .inl h
  ·obtain⟨o',g1,_⟩:=F5 (d:=d) h1
   exact .inr ⟨a,r,o',c,g1,h2⟩
theorem yB {ρ:gm} {X:Nat->Prop} {w:World} {x:AV} {v:Value} (h:x.rel ρ H X w v):x.rel ρ (zH H d) X w v:=by
 cases x with
 |p x=>exact h
 |junk=>trivial
 |sl a r off len=>
  obtain⟨o,h1,h2,h3⟩:=h
  obtain⟨o',g1,g2,g3⟩:=F5 (d:=d) h1
  exact⟨o',g1,by omega,by rw[g2];exact h3⟩
 |ptr a r i j=>
  obtain⟨o,b,c,h1,h2,h3,h4⟩:=h
  obtain⟨o',g1,g2,g3⟩:=F5 (d:=d) h1
  exact⟨o',b,c,g1,h2,by omega,by rw[g2];exact h4⟩
theorem Kq {ρ:gm} {X:Nat->Prop} {w:World} {t:TV} {v:Value} (h:t.rel ρ H X w v):t.rel ρ (zH H d) X w v:=by
 have agg: ∀{cs:List AV} {v:Value},dv ρ H X w cs v->dv ρ (zH H d) X w cs v:=fun{cs v} ⟨vs,h1,h2,h3⟩=>
  ⟨vs,h1,h2,fun j x hx=>by obtain⟨u,u1,u2,u3⟩:=h3 j x hx;exact⟨u,u1,u2,yB u3⟩⟩
 cases t with
 |one x=>exact yB (x:=x) h
 |agg cs=>exact agg h
 |fn f cs=>obtain⟨u,h1,h2⟩:=h;exact⟨u,agg h1,h2⟩
 |tup ts=>
  obtain⟨vs,h1,h2,h3⟩:=h
  refine⟨vs,h1,h2,fun j b cs hj=>?_⟩
  obtain⟨u,u1,u2⟩:=h3 j b cs hj
  refine⟨u,u1,?_⟩
  rcases u2 with⟨e,g⟩|⟨e,x,hx,g⟩
  ·exact .inl ⟨e,agg g⟩
  ·exact .inr ⟨e,x,hx,yB g⟩
theorem F6 {ρ:gm} {X:Nat->Prop} {w:World} {a r:Nat} {o:OObj} (h:objRel ρ H X w a r o):objRel ρ (zH H d) X w a r (zO o)/\objRel ρ (zH H d) X w a r o:=by
 obtain⟨h1,h2,h3⟩:=h
 refine⟨⟨fun e he=>?_,h2,?_⟩,⟨h1,h2,?_⟩⟩
 ·simp only[zO,List.mem_map]at he
  obtain⟨e',he',rfl⟩:=he
  simp only[List.length_map,zO]
  exact h1 e' he'
 ·cases hρ:ρ a r with
  |none=>rw[hρ]at h3;simp only at h3⊢;simp[zO,h3]
  |some bc=>
   obtain⟨b,c⟩:=bc
   rw[hρ]at h3
   obtain⟨cells,g1,g2,g3,g4,g5⟩:=h3
   refine⟨cells,g1,g2,by simpa[zO] using g3,g4,fun i e j x hi hj=>?_⟩
   simp only[zO,List.getElem?_map]at hi
   obtain⟨e',he',rfl⟩:=Option.map_eq_some_iff.1 hi
   simp only[List.getElem?_map]at hj
   obtain⟨x',hx',rfl⟩:=Option.map_eq_some_iff.1 hj
   obtain⟨v,v1,v2,v3⟩:=g5 i e' j x' he' hx'
   exact⟨v,v1,v2,Io (yB v3)⟩
 ·cases hρ:ρ a r with
  |none=>rw[hρ]at h3;exact h3
  |some bc=>
   obtain⟨b,c⟩:=bc
   rw[hρ]at h3
   obtain⟨cells,g1,g2,g3,g4,g5⟩:=h3
   refine⟨cells,g1,g2,g3,g4,fun i e j x hi hj=>?_⟩
   obtain⟨v,v1,v2,v3⟩:=g5 i e j x hi hj
   exact⟨v,v1,v2,yB v3⟩
end
theorem gL {s:AS} (d:Nat):dG s ⟨s.tmps,zH s.H d⟩:=by
 rintro w0 O X a w ⟨h1,hsz,ρ,hinv,htm⟩
 refine⟨h1,hsz,ρ,⟨hinv.keep,fun a r o ho=>?_,fun a r a' r' o o' b c c' ho ho' hb hb'=>?_,fun a r o b c ho hb=>?_,hinv.bar,fun a r o ho=>?_⟩,fun t x hx=>?_⟩
 ·obtain⟨o',g1,g2⟩:=qg ho
  show objRel ρ (zH s.H d) (Xo X ρ (zH s.H d)) w a r o
  rw[IJ]
  rcases g2 with⟨_,rfl⟩|rfl
  ·exact(F6 (hinv.objs a r o' g1)).1
  ·exact(F6 (hinv.objs a r o g1)).2
 ·obtain⟨p,g1,_⟩:=qg ho
  obtain⟨p',g2,_⟩:=qg ho'
  exact hinv.inj a r a' r' p p' b c c' g1 g2 hb hb'
 ·obtain⟨p,g1,_⟩:=qg ho
  exact hinv.old a r p b c g1 hb
 ·obtain⟨o',g1,g2⟩:=qg ho
  have:=hinv.self a r o' g1
  rcases g2 with⟨_,rfl⟩|rfl
  ·intro e he x hx
   simp only[zO,List.mem_map]at he
   obtain⟨e',he',rfl⟩:=he
   simp only[List.mem_map]at hx
   obtain⟨x',hx',rfl⟩:=hx
   have:=this e' he' x' hx'
   cases x'<;>first|exact this|trivial
  ·exact this
 ·obtain⟨v,v1,v2⟩:=htm t x hx
  refine⟨v,v1,?_⟩
  show x.rel ρ (zH s.H d) (Xo X ρ (zH s.H d)) w v
  rw[IJ]
  exact Kq v2
theorem Gq {s:AS} (k:Nat) (hk:s.tmps[k]?=some (.raw (.slice none 0 0))):dG s ⟨s.tmps.set k (.one (.p (.sl []))),s.H⟩:=by
 rintro w0 O X a w ⟨h1,hsz,ρ,hinv,htm⟩
 refine⟨h1,by simpa using hsz,ρ,hinv,fun t x hx=>?_⟩
 by_cases htk:t=k
 ·subst htk
  obtain⟨v,v1,v2⟩:=htm t _ hk
  have hlt:=(List.getElem?_eq_some_iff.1 hk).1
  rw[List.getElem?_set_self hlt]at hx
  injection hx with hx
  subst hx
  have v2:dy (Xo X ρ s.H) w (.raw (.slice none 0 0)) v:=v2
  cases v2
  exact⟨_,v1,dy.nil none 0⟩
 ·rw[List.getElem?_set_ne (fun h=>htk h.symm)]at hx
  exact htm t x hx
end
def gY (d:Nat) (l:List Nat):List (List AV):=l.mapIdx fun k c=>[.sl d (k+1) 0 c]
def lN (r:List Int):OObj:=⟨53,2,lc fZ r⟩
def IC (d:Nat) (R:List (List Int)):List OObj:=⟨91,1,gY d (R.map List.length)⟩::R.map lN
def IK (d n c i:Nat):List OObj:=⟨91,1,gY d (List.replicate i c)++List.replicate (n-i) [.p (.sl [])]⟩::List.replicate i (lN (List.replicate c 0))
theorem dN (d:Nat) (l:List Nat):(gY d l).length=l.length:=by simp[gY]
theorem mm (d:Nat) (l:List Nat) (c:Nat):gY d (l++[c])=gY d l++[[.sl d (l.length+1) 0 c]]:=by simp[gY,List.mapIdx_append]
theorem IF (d:Nat) (l:List Nat):(gY d l).map (List.map yA)=gY d l:=by
 apply List.ext_getElem?
 intro k
 simp only[gY,List.getElem?_map,List.getElem?_mapIdx]
 cases l[k]?<;>rfl
theorem Kj (r:List Int):(lc fZ r).map (List.map yA)=lc fZ r:=by simp[lc,fZ,yA,yE]
theorem Do (d n c:Nat):([⟨91,1,List.replicate n [.raw (.slice none 0 0)]⟩]:List OObj).map zO=IK d n c 0:=by
 simp[IK,zO,gY,yA,yE]
theorem F7 (d n c:Nat):IK d n c n=IC d (List.replicate n (List.replicate c 0)):=by
 simp[IK,IC]
theorem wP {d n c i:Nat} (hi:i<n):(gY d (List.replicate i c)++List.replicate (n-i) [AV.p (PV.sl [])])[i]?=some [.p (.sl [])]:=by
 rw[List.getElem?_append_right (by simp[dN]),dN,List.length_replicate,Nat.sub_self,List.getElem?_replicate,if_pos (by omega)]
theorem F8 {d n c i:Nat} (hi:i<n):
  ((⟨91,1,(gY d (List.replicate i c)++List.replicate (n-i) [AV.p (PV.sl [])]).set i [.sl d (i+1) 0 c]⟩::List.replicate i (lN (List.replicate c 0))++[⟨53,2,List.replicate c [.raw (.bool false),.raw (.slice none 0 0)]⟩]:List OObj)).map zO=IK d n c (i+1):=by
 have e1:(gY d (List.replicate i c)++List.replicate (n-i) [AV.p (PV.sl [])]).set i [.sl d (i+1) 0 c]=gY d (List.replicate (i+1) c)++List.replicate (n-(i+1)) [AV.p (PV.sl [])]:=by
  rw[List.set_append_right _ _ (by simp[dN]),dN,List.length_replicate,Nat.sub_self,List.replicate_succ' (n:=i),mm,List.length_replicate,List.append_assoc]
  congr 1
  rw[show n-i=n-(i+1)+1 by omega,List.replicate_succ]
  rfl
 rw[e1]
 simp only[List.cons_append,List.map_cons,List.map_append,List.map_replicate,IK]
 congr 1
 ·simp[zO,IF,yA,yE]
 ·rw[List.replicate_succ']
  congr 1
  ·congr 1
   simp[zO,lN,Kj]
  ·simp[zO,lN,lc,fZ,yA,yE,dx,ls]
theorem BA (d e:Nat) (l:List Nat):(gY d l).map (List.map (aE e))=gY e l:=by
 apply List.ext_getElem?
 intro k
 simp only[gY,List.getElem?_map,List.getElem?_mapIdx]
 cases l[k]?<;>rfl
theorem H7 (e:Nat) (r:List Int):dm e (lN r)=lN r:=by simp[dm,lN,pL]
theorem Bj (d e:Nat) (R:List (List Int)):(IC d R).map (dm e)=IC e R:=by
 simp only[IC,List.map_cons,List.map_map]
 congr 1
 ·simp[dm,BA]
 ·exact List.map_congr_left fun r _=>H7 e r
structure K9 (n:Nat) where
 i:Nat
 hi:i<=n
theorem vj (n c:Nat) (hn:n<=16) (hc:c<=16):CallC Tryz.prog 53 [.raw (.int .i64 (n:Int)),.raw (.int .i64 (c:Int))] ⟨IC 0 (List.replicate n (List.replicate c 0)),.one (.sl 0 0 0 n)⟩:=by
 refine ax Tryz.func53 rfl (by kernel_rfl) ?_;rw[Tryz.ntmps53]
 (refine aa [] fun K hK=>?_;simp(disch:=omega) only[kc,ab,Nat.reduceAdd,List.replicate,ac,Value.oneCell'];apply hK)
 (refine aa [] fun K hK=>?_;simp(disch:=omega) only[kc,ab,Nat.reduceAdd,bZ,aN,aC,aZ,kG,cw,pp,Int.natCast_nonneg,Value.oneCell',and_true,bH];apply hK)
 (refine ae (aa [] fun K hK=>?_);simp(disch:=omega) only[kc,ab,Nat.reduceAdd,aw,au,aZ,ac,Value.oneCell'];apply hK)
 refine bD (G:=K9 n) (fun g=>⟨[.raw (.int .i64 (n:Int)),.raw (.int .i64 (c:Int)),jk,jk,.raw (.slice none 0 0),.one (.sl 8 0 0 n),jk,jk,jk,jk,.raw (.int .i64 (n:Int)),.raw (.int .i64 (g.i:Int)),jk,jk,jk,jk,jk,jk,jk,jk,jk],Hm [(8,IK 8 n c g.i)]⟩) (fun g=>n-g.i) ⟨0,by omega⟩ ?_ ?_
 ·refine(gL 8).trans (aj ⟨Do 8 n c,trivial⟩ ?_)
  simp[b9,bo,bj]
 ·rintro⟨i,hi⟩
  simp only
  by_cases hm:i<n
  ·(refine aa [] fun K hK=>?_;simp(disch:=omega) only[kc,ab,Hm,ak,ah,bA];apply hK)
   refine ae (af rfl (fun _=>aq ?_) (fun h=>by simp at h<;>omega))
   refine ae (aI ?_)
   (refine aa [] fun K hK=>?_;simp(disch:=omega) only[kc,ab];apply hK)
   simp only[IK]
   have hg:=wP (d:=8) (c:=c) hm
   ((refine aU [] [] (by simp) fun K hK=>?_);simp(disch:=omega) only[kc,ab,Nat.reduceAdd,bZ,aN,aC,bL,bi,aM,lC,Int.natCast_nonneg,Value.oneCell',and_true,bH,Nat.reduceEqDiff,ag,au,ao,aZ,aJ,cw,az,df,bJ,hg,putCells,cP,List.length_replicate,List.all_replicate,isPure,ite_self,aS,aT,Nat.reduceBEq];apply hK)
   show bT _ _ _ _
   ((refine aU [] [] (by simp) fun K hK=>?_);simp(disch:=omega) only[kc,ab,ak,ac,Value.oneCell',ah,bC];apply hK)
   refine⟨⟨i+1,by omega⟩,by simp only;omega,(gL 8).trans (aj ⟨F8 hm,trivial⟩ ?_)⟩
   simp[b9,bo,bj]
  ·have hin:i=n:=by omega
   subst hin
   (refine aa [] fun K hK=>?_;simp(disch:=omega) only[kc,ab,Hm,ak,ah,bf];apply hK)
   refine ae (af rfl (fun h=>by simp at h<;>omega) (fun _=>bv ?_))
   show bT _ _ _ _
   rw[F7]
   (refine aa [] fun K hK=>?_;simp(disch:=omega) only[kc,ab];apply hK)
   refine ay ⟨.inr rfl,_,dG.refl _,?_⟩
   refine⟨.one (.sl 8 0 0 i),8,?_,rfl,?_,rfl⟩
   ·simp(disch:=omega) only[bE,Tryz.results53,aP,List.getElem?_cons_succ,List.getElem?_cons_zero]
   ·exact(Bj 8 0 _).symm
def sw (p q r:Nat):Nat:=if r=p then q else if r=q then p else r
theorem II (p q r:Nat):sw p q (sw p q r)=r:=by
 unfold sw
 by_cases h1:r=p
 ·subst h1;by_cases h2:q=r<;>simp[h2]
 ·by_cases h2:r=q
  ·subst h2;simp[h1]
  ·simp[h1,h2]
def qO (a p q b r:Nat):Nat:=if b=a then sw p q r else r
theorem vR (a p q b r:Nat):qO a p q b (qO a p q b r)=r:=by
 unfold qO
 by_cases h:b=a<;>simp[h,II]
def mZ (a p q:Nat):AV->AV
 | .sl b r off len=> .sl b (qO a p q b r) off len
 | .ptr b r i j=> .ptr b (qO a p q b r) i j
 |x=>x
def FN (a p q:Nat):TV->TV
 | .one x=> .one (mZ a p q x)
 | .agg cs=> .agg (cs.map (mZ a p q))
 | .fn f cs=> .fn f (cs.map (mZ a p q))
 | .tup ts=> .tup (ts.map fun t=>(t.1,t.2.map (mZ a p q)))
def BD (a p q:Nat) (o:OObj):OObj:={o with elems:=o.elems.map (List.map (mZ a p q))}
theorem vh {s:AS} (a p q:Nat) (F:List OObj) (hF: ∀r:Nat,F[r]?=((s.H a)[sw p q r]?).map (BD a p q)):dG s ⟨s.tmps.map (FN a p q),aJ s.H a F⟩:=by
 rintro w0 O X act w ⟨h1,hsz,ρ,hinv,htm⟩
 have hof: ∀(b r:Nat) o,(s.H b)[r]?=some o-> ∃o':OObj,(aJ s.H a F b)[qO a p q b r]?=some o'/\o'.es=o.es/\o'.elems.length=o.elems.length:=fun b r o ho=>by
  by_cases hb:b=a
  ·subst hb
   refine⟨BD b p q o,?_,rfl,by simp[BD]⟩
   rw[cz,qO,if_pos rfl,hF,II,ho];rfl
  ·exact⟨o,by rw[bO hb,qO,if_neg hb];exact ho,rfl,rfl⟩
 have hget: ∀(b r:Nat) o',(aJ s.H a F b)[r]?=some o'-> ∃o:OObj,(s.H b)[qO a p q b r]?=some o/\((b=a/\o'=BD a p q o)\/(b≠a/\o'=o)):=fun b r o' ho=>by
  by_cases hb:b=a
  ·subst hb
   rw[cz,hF]at ho
   obtain⟨o,g1,g2⟩:=Option.map_eq_some_iff.1 ho
   exact⟨o,by rw[qO,if_pos rfl];exact g1,.inl ⟨rfl,g2.symm⟩⟩
  ·rw[bO hb]at ho
   exact⟨o',by rw[qO,if_neg hb];exact ho,.inr ⟨hb,rfl⟩⟩
 let ρ':gm:=fun b r=>ρ b (qO a p q b r)
 have hρ: ∀b r,ρ' b (qO a p q b r)=ρ b r:=fun b r=>by show ρ b _=_;rw[vR]
 have hXo:Xo X ρ' (aJ s.H a F)=Xo X ρ s.H:=by
  funext b
  apply propext
  constructor
  ·rintro(h|⟨x,r,o,c,g1,g2⟩)
   ·exact .inl h
   ·obtain⟨o',g3,_⟩:=hget x r o g1
    exact .inr ⟨x,_,o',c,g3,g2⟩
  ·rintro(h|⟨x,r,o,c,g1,g2⟩)
   ·exact .inl h
   ·obtain⟨o',g3,_⟩:=hof x r o g1
    exact .inr ⟨x,_,o',c,g3,by rw[hρ];exact g2⟩
 have hav: ∀(Y:Nat->Prop) x v,AV.rel ρ s.H Y w x v->AV.rel ρ' (aJ s.H a F) Y w (mZ a p q x) v:=fun Y x v h=>by
  cases x with
  |p x=>exact h
  |junk=>trivial
  |sl b r off len=>
   obtain⟨o,g1,g2,g3⟩:=h
   obtain⟨o',k1,k2,k3⟩:=hof b r o g1
   exact⟨o',k1,by omega,by rw[hρ,k2];exact g3⟩
  |ptr b r i j=>
   obtain⟨o,b',c,g1,g2,g3,g4⟩:=h
   obtain⟨o',k1,k2,k3⟩:=hof b r o g1
   exact⟨o',b',c,k1,by rw[hρ];exact g2,by omega,by rw[k2];exact g4⟩
 have hagg: ∀(Y:Nat->Prop) cs v,dv ρ s.H Y w cs v->dv ρ' (aJ s.H a F) Y w (cs.map (mZ a p q)) v:=fun Y cs v ⟨vs,g1,g2,g3⟩=>by
  refine⟨vs,g1,by simpa using g2,fun j x hx=>?_⟩
  rw[List.getElem?_map]at hx
  obtain⟨y,hy,rfl⟩:=Option.map_eq_some_iff.1 hx
  obtain⟨u,u1,u2,u3⟩:=g3 j y hy
  exact⟨u,u1,u2,hav Y y u u3⟩
 refine⟨h1,by simpa using hsz,ρ',⟨hinv.keep,fun b r o' ho=>?_,fun b r b' r' o o' x c c' ho ho' hb hb'=>?_,fun b r o x c ho hb=>?_,hinv.bar,fun b r o' ho=>?_⟩,fun t x hx=>?_⟩
 ·obtain⟨o,g1,g2⟩:=hget b r o' ho
  have hob:=hinv.objs b _ o g1
  have hself:=hinv.self b _ o g1
  show objRel ρ' (aJ s.H a F) (Xo X ρ' (aJ s.H a F)) w b r o'
  rw[hXo]
  obtain⟨q1,q2,q3⟩:=hob
  rcases g2 with⟨rfl,rfl⟩|⟨hb,rfl⟩
  ·refine⟨fun e he=>?_,q2,?_⟩
   ·simp only[BD,List.mem_map]at he
    obtain⟨e',he',rfl⟩:=he
    simp only[List.length_map,BD]
    exact q1 e' he'
   ·show match ρ b (qO b p q b r)with|none=>_|some (b,c)=>_
    cases hr:ρ b (qO b p q b r)with
    |none=>rw[hr]at q3;simp only at q3⊢;simp[BD,q3]
    |some bc=>
     obtain⟨b2,c⟩:=bc
     rw[hr]at q3
     obtain⟨cells,p1,p2,p3,p4,p5⟩:=q3
     refine⟨cells,p1,p2,by simpa[BD] using p3,p4,fun i e j x hi hj=>?_⟩
     simp only[BD,List.getElem?_map]at hi
     obtain⟨e',he',rfl⟩:=Option.map_eq_some_iff.1 hi
     simp only[List.getElem?_map]at hj
     obtain⟨x',hx',rfl⟩:=Option.map_eq_some_iff.1 hj
     obtain⟨v,v1,v2,v3⟩:=p5 i e' j x' he' hx'
     exact⟨v,v1,v2,hav _ _ _ v3⟩
  ·refine⟨q1,q2,?_⟩
   show match ρ b (qO a p q b r)with|none=>_|some (b,c)=>_
   cases hr:ρ b (qO a p q b r)with
   |none=>rw[hr]at q3;exact q3
   |some bc=>
    obtain⟨b2,c⟩:=bc
    rw[hr]at q3
    obtain⟨cells,p1,p2,p3,p4,p5⟩:=q3
    refine⟨cells,p1,p2,p3,p4,fun i e j x hi hj=>?_⟩
    obtain⟨v,v1,v2,v3⟩:=p5 i e j x hi hj
    have hs:=hself e (List.mem_of_getElem? hi) x (List.mem_of_getElem? hj)
    have hx:mZ a p q x=x:=by
     cases x with
     |sl z _ _ _=>have hs:z=b:=hs;subst hs;simp[mZ,qO,hb]
     |ptr z _ _ _=>have hs:z=b:=hs;subst hs;simp[mZ,qO,hb]
     |p z=>rfl
     |junk=>rfl
    have:=hav _ _ _ v3
    rw[hx]at this
    exact⟨v,v1,v2,this⟩
 ·obtain⟨o1,g1,_⟩:=hget b r o ho
  obtain⟨o2,g2,_⟩:=hget b' r' o' ho'
  obtain⟨e1,e2⟩:=hinv.inj b _ b' _ o1 o2 x c c' g1 g2 hb hb'
  subst e1
  refine⟨rfl,?_⟩
  rw[<- vR a p q b r,e2,vR]
 ·obtain⟨o1,g1,_⟩:=hget b r o ho
  exact hinv.old b _ o1 x c g1 hb
 ·obtain⟨o,g1,g2⟩:=hget b r o' ho
  have hs:=hinv.self b _ o g1
  rcases g2 with⟨rfl,rfl⟩|⟨hb,rfl⟩
  ·intro e he x hx
   simp only[BD,List.mem_map]at he
   obtain⟨e',he',rfl⟩:=he
   simp only[List.mem_map]at hx
   obtain⟨x',hx',rfl⟩:=hx
   have:=hs e' he' x' hx'
   cases x'<;>first|exact this|trivial
  ·exact hs
 ·simp only[List.getElem?_map]at hx
  obtain⟨y,hy,rfl⟩:=Option.map_eq_some_iff.1 hx
  obtain⟨v,v1,v2⟩:=htm t y hy
  refine⟨v,v1,?_⟩
  show TV.rel ρ' (aJ s.H a F) (Xo X ρ' (aJ s.H a F)) w (FN a p q y) v
  rw[hXo]
  cases y with
  |one x=>exact hav _ _ _ v2
  |agg cs=>exact hagg _ _ _ v2
  |fn f cs=>obtain⟨u,h1,h2⟩:=v2;exact⟨u,hagg _ _ _ h1,h2⟩
  |tup ts=>
   obtain⟨vs,g1,g2,g3⟩:=v2
   refine⟨vs,g1,by simpa using g2,fun j b cs hj=>?_⟩
   rw[List.getElem?_map]at hj
   obtain⟨z,hz,hzz⟩:=Option.map_eq_some_iff.1 hj
   obtain⟨b',cs'⟩:=z
   simp at hzz
   obtain⟨rfl,rfl⟩:=hzz
   obtain⟨u,u1,u2⟩:=g3 j b' cs' hz
   refine⟨u,u1,?_⟩
   rcases u2 with⟨u2,u3⟩|⟨u2,q',rfl,u4⟩
   ·exact .inl ⟨u2,hagg _ _ _ u3⟩
   ·exact .inr ⟨u2,_,rfl,hav _ _ _ u4⟩
abbrev gV (d n c:Nat) (f:Nat->Nat->Int):List OObj:=⟨91,1,gY d (List.replicate n c)⟩::(cd n c f).map lN
theorem EL (n c:Nat) (f:Nat->Nat->Int):(cd n c f).map List.length=List.replicate n c:=by
 apply List.ext_getElem?
 intro i
 rw[List.getElem?_map,List.getElem?_replicate]
 by_cases h:i<n
 ·rw[cS _ _ h,if_pos h];simp[cq]
 ·rw[List.getElem?_eq_none (by rw[bQ];omega),if_neg h];rfl
theorem pN (d n c:Nat) (f:Nat->Nat->Int):IC d (cd n c f)=gV d n c f:=by rw[IC,EL]
theorem qZ (n c:Nat):List.replicate n (List.replicate c (0:Int))=cd n c fun _ _=>0:=by
 apply List.ext_getElem?
 intro i
 rw[List.getElem?_replicate]
 by_cases h:i<n
 ·rw[cS _ _ h,if_pos h]
  congr 1
  apply List.ext_getElem?
  intro j
  rw[List.getElem?_replicate]
  by_cases h:j<c
  ·rw[bK _ h,if_pos h]
  ·rw[List.getElem?_eq_none (by rw[cq];omega),if_neg h]
 ·rw[List.getElem?_eq_none (by rw[bQ];omega),if_neg h]
theorem cX {n i:Nat} (d c:Nat) (h:i<n):(gY d (List.replicate n c))[i]?=some [.sl d (i+1) 0 c]:=by
 simp[gY,h]
theorem eY {n i:Nat} (c:Nat) (f:Nat->Nat->Int) (h:i<n):((cd n c f).map lN)[i]?=some ⟨53,2,lc fZ (de c (f i))⟩:=by
 rw[List.getElem?_map,cS _ _ h];rfl
def upd (f:Nat->Nat->Int) (i j:Nat) (v:Int):Nat->Nat->Int:=fun a=>if a=i then(fun b=>if b=j then v else f i b)else f a
theorem jO {n i j:Nat} (c:Nat) (f:Nat->Nat->Int) (v:Int):((cd n c f).map lN).set i ⟨53,2,(lc fZ (de c (f i))).set j [.p (.raw (.bool (decide (v<0)))),.p (.sl (ls fU (be v.natAbs)))]⟩=(cd n c (upd f i j v)).map lN:=by
 have e:(⟨53,2,(lc fZ (de c (f i))).set j [.p (.raw (.bool (decide (v<0)))),.p (.sl (ls fU (be v.natAbs)))]⟩:OObj)=lN (de c fun b=>if b=j then v else f i b):=by
  rw[<- x8,lN,<- EF];rfl
 rw[e,<- List.map_set,vU];rfl
theorem dt {n c:Nat} {f g:Nat->Nat->Int} (h: ∀i j,i<n->j<c->f i j=g i j):(cd n c f).map lN=(cd n c g).map lN:=by rw[ko h]
theorem gM (d e n c:Nat) (f:Nat->Nat->Int):(gV d n c f).map (dm e)=gV e n c f:=by rw[<- pN,<- pN,Bj]
theorem jJ {H:OH} {d n c:Nat} {f:Nat->Nat->Int} (h:H d=gV d n c f):vJ H d:=fun r o ho e he x hx=>by
 rw[h]at ho
 cases r with
 |succ r=>
  rw[List.getElem?_cons_succ,List.getElem?_map]at ho
  obtain⟨l,hl,rfl⟩:=Option.map_eq_some_iff.1 ho
  exact .inl (jv _ _ l e he x hx)
 |zero=>
  simp at ho
  subst ho
  simp only at he
  obtain⟨k,hk⟩:=List.mem_iff_getElem?.1 he
  have hkn:k<n:=by
   have:=(List.getElem?_eq_some_iff.1 hk).1
   rwa[dN,List.length_replicate]at this
  rw[cX d c hkn]at hk
  injection hk with hk
  subst hk
  simp at hx
  subst hx
  refine .inr ⟨k+1,0,c,lN (de c (f k)),rfl,?_,jv _ _ _⟩
  rw[h,List.getElem?_cons_succ,List.getElem?_map,cS _ _ hkn];rfl
theorem IA {H:OH} {d n c:Nat} {f:Nat->Nat->Int} (h:H d=gV d n c f):gH H d (.one (.sl d 0 0 n))=ci (cd n c f):=by
 have e:((gY d (List.replicate n c)).map (List.map (ke H d)))=ls (fR fZ) (cd n c f):=by
  apply List.ext_getElem?
  intro i
  rw[List.getElem?_map,bG]
  by_cases hi:i<n
  ·rw[cX d c hi,cS _ _ hi]
   simp only[Option.map_some,List.map_cons,List.map_nil,ke,h,List.getElem?_cons_succ,eY _ _ hi,fR,eB,A9,Ba]
   rw[List.drop_zero,List.take_of_length_le (by rw[cq];omega)]
  ·rw[List.getElem?_eq_none (by rw[dN,List.length_replicate];omega),List.getElem?_eq_none (by rw[bQ];omega)];rfl
 simp only[gH,fu,if_true,h,List.getElem?_cons_zero]
 rw[List.drop_zero,List.take_of_length_le (by rw[dN,List.length_replicate];omega),e]
abbrev ck (M:List (List Int)):TV:= .one (.p (.sl (ls (fR fI) M)))
def Ek:TV:= .tup [(false,[.p (.raw (.slice none 0 0))]),(false,[.p (.raw (.bool false))])]
def xy (M:List (List Int)):TV:= .tup [(false,[.p (.sl (ls (fR fZ) M))]),(false,[.p (.raw (.bool true))])]
structure mz (n:Nat) where
 i:Nat
 hi:i<=n
def part (f:Nat->Nat->Int) (i j:Nat):Nat->Nat->Int:=fun a b=>if a<i\/(a=i/\b<j)then f a b else 0
theorem ji (f:Nat->Nat->Int) (i j a b:Nat):upd (part f i j) i j (f i j) a b=part f i (j+1) a b:=by
 unfold upd part
 by_cases h1:a=i
 ·subst h1
  by_cases h2:b=j
  ·subst h2;simp
  ·have:b<j+1↔b<j:=by omega
   simp[h2,this]
 ·simp[h1]
theorem kv {c:Nat} (f:Nat->Nat->Int) (i a b:Nat) (hb:b<c):part f i c a b=part f (i+1) 0 a b:=by
 unfold part
 by_cases h1:a<i
 ·rw[if_pos (.inl h1),if_pos (.inl (by omega))]
 ·by_cases h2:a=i
  ·rw[if_pos (.inr ⟨h2,hb⟩),if_pos (.inl (by omega))]
  ·rw[if_neg (by omega),if_neg (by omega)]
theorem ku {n:Nat} (f:Nat->Nat->Int) (a b:Nat) (ha:a<n):part f n 0 a b=f a b:=by
 unfold part;rw[if_pos (.inl ha)]
theorem uP (f:Nat->Nat->Int):part f 0 0=fun _ _=>0:=by
 funext a b;unfold part;rw[if_neg (by omega)]
theorem nk (n c:Nat) (f:Nat->Nat->Int) (hn1:1<=n) (hn:n<=16) (hc1:1<=c) (hc:c<=16) (hf: ∀i j,i<n->j<c-> -9223372036854775808<=f i j/\f i j<=9223372036854775807):
  CallC Tryz.prog 23 [ck (cd n c f)] ⟨[],xy (cd n c f)⟩:=by
 have hml:=bQ n c f
 have h0:=cS (n:=n) c f (i:=0) (by omega)
 have hZ:=vj n c hn hc
 rw[qZ,pN]at hZ
 refine ax Tryz.func23 rfl (by kernel_rfl) ?_;rw[Tryz.ntmps23]
 (refine aa [] fun K hK=>?_;simp(disch:=omega) only[kc,ab,ck,List.replicate,ac,Value.oneCell'];apply hK)
 (refine ae (aa [] fun K hK=>?_);simp(disch:=omega) only[kc,ab,Nat.reduceAdd,aw,au,aL,aR,hml,ak,ac,Value.oneCell',ah,bf,aB,bH,aQ];apply hK)
 refine af rfl (fun h=>by simp at h<;>omega) (fun _=>aq ?_)
 show bT _ _ _ _
 (refine ae (aa [] fun K hK=>?_);simp(disch:=omega) only[kc,ab,Nat.reduceAdd,aw,au,aL,aR,hml,ac,Value.oneCell'];apply hK)
 refine bD (G:=mz n) (fun g=>⟨[ck (cd n c f),jk,.raw (.slice none 0 0),.raw (.bool false),jk,jk,jk,jk,jk,jk,jk,jk,jk,jk,jk,jk,jk,ck (cd n c f),.raw (.int .i64 (n:Int)),.raw (.int .i64 (g.i:Int)),jk,jk,jk,jk,jk,jk,jk,jk,jk,jk,jk,jk,jk,jk,jk,jk,jk,jk,jk,jk,jk,jk,jk,jk,jk,jk,jk,jk,jk,jk,jk,jk,jk,jk,jk,jk,jk,jk,jk,jk,jk,jk,jk,jk,jk,jk,jk,jk,jk,jk,jk,jk,jk,jk,jk,jk,jk,jk],Hm []⟩) (fun g=>n-g.i) ⟨0,by omega⟩ ?_ ?_
 ·refine aj trivial ?_
  simp[b9,bo,bj]
 ·rintro⟨i,hi⟩
  simp only
  by_cases hm:i<n
  ·have hr:=cS c f hm
   (refine aa [] fun K hK=>?_;simp(disch:=omega) only[kc,ab,ck,Hm,ak,ah,bA];apply hK)
   refine ae (af rfl (fun _=>aq ?_) (fun h=>by simp at h<;>omega))
   refine ae (aI ?_)
   (refine aa [] fun K hK=>?_;simp(disch:=omega) only[kc,ab,Nat.reduceAdd,ag,au,ao,aL,bG,hr,fR,b7,aA,ce];apply hK)
   (refine aa [] fun K hK=>?_;simp(disch:=omega) only[kc,ab,Nat.reduceAdd,aw,au,bM,aR,cq,ak,ac,Value.oneCell',ah,bf,aB,bH,aQ,ag,ao,Int.reduceToNat,aL,bG,h0,fR,b7,aA,ce,bA];apply hK)
   refine af rfl (fun h=>by simp at h<;>omega) (fun _=>aq ?_)
   show bT _ _ _ _
   ((refine aU [] [] (by simp) fun K hK=>?_);simp(disch:=omega) only[kc,ab,ak,ac,Value.oneCell',ah,bC];apply hK)
   refine⟨⟨i+1,by omega⟩,by simp only;omega,aj trivial ?_⟩
   simp[b9,bo,bj]
  ·(refine aa [] fun K hK=>?_;simp(disch:=omega) only[kc,ab,ck,Hm,ak,ah,bf];apply hK)
   refine ae (af rfl (fun h=>by simp at h<;>omega) (fun _=>bv ?_))
   show bT _ _ _ _
   (refine aa [⟨6,_,_,_,hZ⟩] fun K hK=>?_;simp(disch:=omega) only[kc,ar.a,ab,Nat.reduceAdd,aw,au,aL,aR,hml,ag,ac,Value.oneCell',ao,Int.reduceToNat,bG,h0,fR,b7,aA,ce,bM,cq,ai,aN,aC,List.find?_cons,aD,aX,CallRes.plain,List.isEmpty_cons,aF,aH,ap,Bool.not_false,noRefTV,am,Bool.or_false,aG,aE,dm];apply hK)
   (refine ae (aa [] fun K hK=>?_);simp(disch:=omega) only[kc,ab,Nat.reduceAdd,aw,au,aL,aR,hml,ac,Value.oneCell'];apply hK)
   refine bD (G:=mz n) (fun g=>⟨[ck (cd n c f),jk,.raw (.slice none 0 0),.raw (.bool false),jk,jk,.one (.sl 47 0 0 n),jk,jk,jk,jk,jk,jk,jk,jk,jk,jk,jk,jk,jk,jk,jk,jk,jk,jk,jk,jk,jk,jk,jk,jk,jk,jk,jk,jk,jk,jk,jk,jk,jk,jk,jk,jk,jk,jk,jk,jk,jk,jk,.raw (.int .i64 (n:Int)),.raw (.int .i64 (g.i:Int)),jk,jk,jk,jk,jk,jk,jk,jk,jk,jk,jk,jk,jk,jk,jk,jk,jk,jk,jk,jk,jk,jk,jk,jk,jk,jk,jk],Hm [(47,gV 47 n c (part f g.i 0))]⟩) (fun g=>n-g.i) ⟨0,by omega⟩ ?_ ?_
   ·refine aj ⟨?_,trivial⟩ ?_
    ·rw[uP];exact gM 0 47 n c _
    ·simp[b9,bo,bj]
   ·rintro⟨i,hi⟩
    simp only
    by_cases hm2:i<n
    ·have hr:=cS c f hm2
     (refine aa [] fun K hK=>?_;simp(disch:=omega) only[kc,ab,ck,Hm,ak,ah,bA];apply hK)
     refine ae (af rfl (fun _=>aq ?_) (fun h=>by simp at h<;>omega))
     refine ae (aI ?_)
     (refine aa [] fun K hK=>?_;simp(disch:=omega) only[kc,ab];apply hK)
     (refine aa [] fun K hK=>?_;simp(disch:=omega) only[kc,ab,Nat.reduceAdd,ag,au,ao,aL,bG,hr,fR,b7,aA,ce,aw,bM,aR,cq,ac,Value.oneCell'];apply hK)
     refine bD (G:=mz c) (fun g=>⟨[ck (cd n c f),jk,.raw (.slice none 0 0),.raw (.bool false),jk,jk,.one (.sl 47 0 0 n),.raw (.int .i64 (i:Int)),jk,jk,jk,jk,jk,jk,jk,jk,jk,jk,jk,jk,jk,jk,jk,jk,jk,jk,jk,jk,jk,jk,jk,jk,jk,jk,jk,jk,jk,jk,jk,jk,jk,jk,jk,jk,jk,jk,jk,jk,jk,.raw (.int .i64 (n:Int)),.raw (.int .i64 (i:Int)),jk,jk,jk,jk,jk,jk,.raw (.int .i64 (c:Int)),.raw (.int .i64 (g.i:Int)),jk,jk,jk,jk,jk,jk,jk,jk,jk,jk,jk,jk,jk,jk,jk,jk,jk,jk,jk],Hm [(47,gV 47 n c (part f i g.i))]⟩) (fun g=>c-g.i) ⟨0,by omega⟩ ?_ ?_
     ·refine aj ⟨rfl,trivial⟩ ?_
      simp[b9,bo,bj]
     ·rintro⟨j,hj⟩
      simp only
      by_cases hm3:j<c
      ·have hjr:=bK (f i) hm3
       have hS:=gB (f i j) (hf i j hm2 hm3).1 (hf i j hm2 hm3).2
       have g1:=cX (n:=n) (i:=i) 47 c hm2
       have g2:=eY c (part f i j) hm2
       have g3:=bK (part f i j i) hm3
       (refine aa [] fun K hK=>?_;simp(disch:=omega) only[kc,ab,ck,Hm,ak,ah,bA];apply hK)
       refine ae (af rfl (fun _=>aq ?_) (fun h=>by simp at h<;>omega))
       refine ae (aI ?_)
       (refine aa [] fun K hK=>?_;simp(disch:=omega) only[kc,ab];apply hK)
       ((refine dW bY [⟨12,_,_,_,hS⟩] [] (by kernel_rfl) (by simp) fun K hK=>?_);simp(disch:=omega) only[kc,tZ,ar.a,ab,Nat.reduceAdd,ag,au,ao,aZ,cw,bH,g1,aA,cu,aL,bG,hr,fR,b7,ce,bM,hjr,fI,dL,fF,ai,aN,aC,List.find?_cons,aD,aX,CallRes.plain,aF,aH,ap,noRefTV,am,aG,aE,bL,g2,aM,az,df,bJ,cb,fZ,g3,cellsOf,Nat.le_refl,isPure,putCells,jO,aS,aT];apply hK)
       show bT _ _ _ _
       ((refine aU [] [] (by simp) fun K hK=>?_);simp(disch:=omega) only[kc,ab,ak,ac,Value.oneCell',ah,bC];apply hK)
       refine⟨⟨j+1,by omega⟩,by simp only;omega,aj ⟨?_,trivial⟩ ?_⟩
       ·show _::_=_::_
        rw[dt fun a b _ _=>ji f i j a b]
       ·simp[b9,bo,bj]
      ·have hjc:j=c:=by omega
       subst hjc
       (refine aa [] fun K hK=>?_;simp(disch:=omega) only[kc,ab,ck,Hm,ak,ah,bf];apply hK)
       refine ae (af rfl (fun h=>by simp at h<;>omega) (fun _=>bv ?_))
       show bT _ _ _ _
       ((refine aU [] [] (by simp) fun K hK=>?_);simp(disch:=omega) only[kc,ab,ak,ac,Value.oneCell',ah,bC];apply hK)
       refine⟨⟨i+1,by omega⟩,by simp only;omega,aj ⟨?_,trivial⟩ ?_⟩
       ·show _::_=_::_
        rw[dt fun a b _ hb=>kv f i a b hb]
       ·simp[b9,bo,bj]
    ·have hin:i=n:=by omega
     subst hin
     (refine aa [] fun K hK=>?_;simp(disch:=omega) only[kc,ab,ck,Hm,ak,ah,bf];apply hK)
     refine ae (af rfl (fun h=>by simp at h<;>omega) (fun _=>bv ?_))
     show bT _ _ _ _
     have e:gV 47 i c (part f i 0)=gV 47 i c f:=by
      show _::_=_::_
      rw[dt fun a b ha _=>ku f a b ha]
     rw[e]
     refine bT.weak ((cQ 47 (jJ rfl)).trans (aj (tm:=[jk,jk,jk,jk,jk,jk,ci (cd i c f),jk,jk,jk,jk,jk,jk,jk,jk,jk,jk,jk,jk,jk,jk,jk,jk,jk,jk,jk,jk,jk,jk,jk,jk,jk,jk,jk,jk,jk,jk,jk,jk,jk,jk,jk,jk,jk,jk,jk,jk,jk,jk,jk,jk,jk,jk,jk,jk,jk,jk,jk,jk,jk,jk,jk,jk,jk,jk,jk,jk,jk,jk,jk,jk,jk,jk,jk,jk,jk,jk,jk]) (l:=[]) trivial (by simp[b9,bo,bj];exact(IA (H:=Hm [(47,gV 47 i c f)]) (d:=47) (n:=i) (c:=c) (f:=f) rfl).symm))) ?_
     (refine aa [] fun K hK=>?_;simp(disch:=omega) only[kc,ab,Nat.reduceAdd,ci,Hm,ac,Value.oneCell'];apply hK)
     (refine ay ⟨.inr rfl,aO rfl ?_ rfl⟩;simp(disch:=omega) only[bE,Tryz.results23,cY,aP,List.getElem?_cons_succ,List.getElem?_cons_zero,Option.bind_some,bX,Option.map_some,xy])
structure KX (M:List (List Int)) where
 i:Nat
 hi:i<=M.length
 ok: ∀r∈M.take i,rOk (M.headD []).length r
theorem qj (M:List (List Int)) (hM: ¬vg M):CallC Tryz.prog 23 [ck M] ⟨[],Ek⟩:=by
 by_cases h1:M.length<1
 ·refine ax Tryz.func23 rfl (by kernel_rfl) ?_;rw[Tryz.ntmps23]
  (refine aa [] fun K hK=>?_;simp(disch:=omega) only[kc,ab,ck,List.replicate,ac,Value.oneCell'];apply hK)
  (refine ae (aa [] fun K hK=>?_);simp(disch:=omega) only[kc,ab,Nat.reduceAdd,aw,au,aL,aR,ak,ac,Value.oneCell',ah,bA,aB,reduceCtorEq,Option.map_none,aQ];apply hK)
  refine af rfl (fun _=>?_) (fun h=>by simp at h<;>omega)
  (refine aa [] fun K hK=>?_;simp(disch:=omega) only[kc,ab,ac,Value.oneCell'];apply hK)
  (refine ay ⟨.inr rfl,aO rfl ?_ rfl⟩;simp(disch:=omega) only[bE,Tryz.results23,cY,aP,List.getElem?_cons_succ,List.getElem?_cons_zero,Option.bind_some,bX,Option.map_some,Ek])
 by_cases h2:16<M.length
 ·refine ax Tryz.func23 rfl (by kernel_rfl) ?_;rw[Tryz.ntmps23]
  (refine aa [] fun K hK=>?_;simp(disch:=omega) only[kc,ab,ck,List.replicate,ac,Value.oneCell'];apply hK)
  (refine ae (aa [] fun K hK=>?_);simp(disch:=omega) only[kc,ab,Nat.reduceAdd,aw,au,aL,aR,ak,ac,Value.oneCell',ah,bf,aB,bH,bA,aQ];apply hK)
  refine af rfl (fun _=>?_) (fun h=>by simp at h<;>omega)
  (refine aa [] fun K hK=>?_;simp(disch:=omega) only[kc,ab,ac,Value.oneCell'];apply hK)
  (refine ay ⟨.inr rfl,aO rfl ?_ rfl⟩;simp(disch:=omega) only[bE,Tryz.results23,cY,aP,List.getElem?_cons_succ,List.getElem?_cons_zero,Option.bind_some,bX,Option.map_some,Ek])
 have h0:=gI (M:=M) (by omega)
 refine ax Tryz.func23 rfl (by kernel_rfl) ?_;rw[Tryz.ntmps23]
 (refine aa [] fun K hK=>?_;simp(disch:=omega) only[kc,ab,ck,List.replicate,ac,Value.oneCell'];apply hK)
 (refine ae (aa [] fun K hK=>?_);simp(disch:=omega) only[kc,ab,Nat.reduceAdd,aw,au,aL,aR,ak,ac,Value.oneCell',ah,bf,aB,bH,aQ];apply hK)
 refine af rfl (fun h=>by simp at h<;>omega) (fun _=>aq ?_)
 show bT _ _ _ _
 (refine ae (aa [] fun K hK=>?_);simp(disch:=omega) only[kc,ab,Nat.reduceAdd,aw,au,aL,aR,ac,Value.oneCell'];apply hK)
 refine bD (G:=KX M) (fun g=>⟨[ck M,jk,.raw (.slice none 0 0),.raw (.bool false),jk,jk,jk,jk,jk,jk,jk,jk,jk,jk,jk,jk,jk,ck M,.raw (.int .i64 (M.length:Int)),.raw (.int .i64 (g.i:Int)),jk,jk,jk,jk,jk,jk,jk,jk,jk,jk,jk,jk,jk,jk,jk,jk,jk,jk,jk,jk,jk,jk,jk,jk,jk,jk,jk,jk,jk,jk,jk,jk,jk,jk,jk,jk,jk,jk,jk,jk,jk,jk,jk,jk,jk,jk,jk,jk,jk,jk,jk,jk,jk,jk,jk,jk,jk,jk],Hm []⟩) (fun g=>M.length-g.i) ⟨0,by omega,fun r hr=>by simp at hr⟩ ?_ ?_
 ·refine aj trivial ?_
  simp[b9,bo,bj]
 ·rintro⟨i,hi,ok⟩
  simp only
  by_cases hm:i<M.length
  ·obtain⟨r,hr⟩:=getElem?_of_lt hm
   (refine aa [] fun K hK=>?_;simp(disch:=omega) only[kc,ab,ck,Hm,ak,ah,bA];apply hK)
   refine ae (af rfl (fun _=>aq ?_) (fun h=>by simp at h<;>omega))
   refine ae (aI ?_)
   (refine aa [] fun K hK=>?_;simp(disch:=omega) only[kc,ab,Nat.reduceAdd,ag,au,ao,aL,bG,hr,fR,b7,aA,ce];apply hK)
   by_cases c1:r.length<1
   ·(refine aa [] fun K hK=>?_;simp(disch:=omega) only[kc,ab,Nat.reduceAdd,aw,au,bM,aR,ak,ac,Value.oneCell',ah,bA,aB,reduceCtorEq,Option.map_none,aQ,ag,ao,Int.reduceToNat,aL];apply hK)
    refine af rfl (fun _=>?_) (fun h=>by simp at h<;>omega)
    (refine aa [] fun K hK=>?_;simp(disch:=omega) only[kc,ab,ac,Value.oneCell'];apply hK)
    (refine ay ⟨.inr rfl,aO rfl ?_ rfl⟩;simp(disch:=omega) only[bE,Tryz.results23,cY,aP,List.getElem?_cons_succ,List.getElem?_cons_zero,Option.bind_some,bX,Option.map_some,Ek])
   by_cases c2:16<r.length
   ·(refine aa [] fun K hK=>?_;simp(disch:=omega) only[kc,ab,Nat.reduceAdd,aw,au,bM,aR,ak,ac,Value.oneCell',ah,bf,aB,bH,bA,aQ,reduceCtorEq,Option.map_none,ag,ao,Int.reduceToNat,aL];apply hK)
    refine af rfl (fun _=>?_) (fun h=>by simp at h<;>omega)
    (refine aa [] fun K hK=>?_;simp(disch:=omega) only[kc,ab,ac,Value.oneCell'];apply hK)
    (refine ay ⟨.inr rfl,aO rfl ?_ rfl⟩;simp(disch:=omega) only[bE,Tryz.results23,cY,aP,List.getElem?_cons_succ,List.getElem?_cons_zero,Option.bind_some,bX,Option.map_some,Ek])
   by_cases c3:r.length=(M.headD []).length
   ·(refine aa [] fun K hK=>?_;simp(disch:=omega) only[kc,ab,Nat.reduceAdd,aw,au,bM,aR,ak,ac,Value.oneCell',ah,bf,aB,bH,aQ,ag,ao,Int.reduceToNat,aL,bG,h0,fR,b7,aA,ce,bA];apply hK)
    refine af rfl (fun h=>by simp at h<;>omega) (fun _=>aq ?_)
    show bT _ _ _ _
    ((refine aU [] [] (by simp) fun K hK=>?_);simp(disch:=omega) only[kc,ab,ak,ac,Value.oneCell',ah,bC];apply hK)
    refine⟨⟨i+1,by omega,fun r' hr'=>?_⟩,by simp only;omega,aj trivial ?_⟩
    ·rw[List.take_add_one,hr]at hr'
     rcases List.mem_append.1 hr' with h|h
     ·exact ok r' h
     ·have:r'=r:=by simpa using h
      subst this
      exact⟨by omega,by omega,c3⟩
    ·simp[b9,bo,bj]
   ·(refine aa [] fun K hK=>?_;simp(disch:=omega) only[kc,ab,Nat.reduceAdd,aw,au,bM,aR,ak,ac,Value.oneCell',ah,bf,aB,bH,aQ,ag,ao,Int.reduceToNat,aL,bG,h0,fR,b7,aA,ce,Bool.not_false];apply hK)
    refine af rfl (fun _=>?_) (fun h=>by simp at h<;>omega)
    (refine aa [] fun K hK=>?_;simp(disch:=omega) only[kc,ab,ac,Value.oneCell'];apply hK)
    (refine ay ⟨.inr rfl,aO rfl ?_ rfl⟩;simp(disch:=omega) only[bE,Tryz.results23,cY,aP,List.getElem?_cons_succ,List.getElem?_cons_zero,Option.bind_some,bX,Option.map_some,Ek])
  ·exact absurd ⟨by omega,by omega,fun r hr=>ok r (by rw[List.take_of_length_le (by omega)];exact hr)⟩ hM
theorem Gk (n c:Nat) (f:Nat->Nat->Int) (hn1:1<=n) (hn:n<=16) (hc1:1<=c) (hc:c<=16) (hf: ∀i j,i<n->j<c-> -9223372036854775808<=f i j/\f i j<=9223372036854775807):
  CallC Tryz.prog 26 [ck (cd n c f)] ⟨[],ci (cd n c f)⟩:=by
 have hF:=nk n c f hn1 hn hc1 hc hf
 refine ax Tryz.func26 rfl (by kernel_rfl) ?_;rw[Tryz.ntmps26]
 (refine aa [] fun K hK=>?_;simp(disch:=omega) only[kc,ab,ck,List.replicate,ac,Value.oneCell'];apply hK)
 (refine aa [⟨1,_,_,_,hF⟩] fun K hK=>?_;simp(disch:=omega) only[kc,ck,xy,ar.a,ab,Nat.reduceAdd,ai,aN,aC,List.find?_cons,aD,aX,CallRes.plain,aF,aH,ap,noRefTV,am,aG,aE,aV,ak];apply hK)
 (refine aa [] fun K hK=>?_;simp(disch:=omega) only[kc,ab];apply hK)
 (refine ay ⟨.inr rfl,aO rfl ?_ rfl⟩;simp(disch:=omega) only[bE,Tryz.results26,aP,List.getElem?_cons_succ,List.getElem?_cons_zero,ci])
abbrev qR (l:List Nat):TV:= .one (.p (.sl (ls fN l)))
theorem GR (k more:Nat) (hk:k<=16) (hm:more<=16):CallC Tryz.prog 128 [.raw (.int .i64 (k:Int)),.raw (.int .i64 (more:Int))] ⟨[],qR (List.range k++[more])⟩:=by
 refine ax Tryz.func128 rfl (by kernel_rfl) ?_;rw[Tryz.ntmps128]
 (refine aa [] fun K hK=>?_;simp(disch:=omega) only[kc,ab,Nat.reduceAdd,List.replicate,ac,Value.oneCell'];apply hK)
 (refine aa [] fun K hK=>?_;simp(disch:=omega) only[kc,ab,ac,Value.oneCell'];apply hK)
 (refine ae (aa [] fun K hK=>?_);simp(disch:=omega) only[kc,ab,ac,Value.oneCell'];apply hK)
 refine bD (G:=mz k) (fun g=>⟨[.raw (.int .i64 (k:Int)),.raw (.int .i64 (more:Int)),jk,jk,.raw (.slice none 0 0),.one (.sl 15 0 0 g.i),.raw (.int .i64 (g.i:Int)),jk,jk,jk,jk,jk,jk,jk,jk,jk,jk,jk,jk,jk],Hm [(15,[⟨3,1,lc fN (List.range g.i)⟩])]⟩) (fun g=>k-g.i) ⟨0,by omega⟩ ?_ ?_
 ·refine(fG (k:=5) (d:=15) 3 1 (by omega) rfl rfl).trans (aj ⟨rfl,trivial⟩ ?_)
  simp[b9,bo,bj]
 ·rintro⟨i,hi⟩
  simp only
  by_cases hm:i<k
  ·(refine ae (aa [] fun K hK=>?_);simp(disch:=omega) only[kc,ab,Nat.reduceAdd,Hm,ak,ah,bA];apply hK)
   refine af rfl (fun _=>aq ?_) (fun h=>by simp at h<;>omega)
   refine ae (aI ?_)
   ((refine aU [] [] (by simp) fun K hK=>?_);simp(disch:=omega) only[kc,ab,Nat.reduceAdd,b8,aN,aC,fh,mv,lD,fW,cellsOf,isPure,Nat.reduceMul,Nat.reduceLeDiff,List.contains_nil,ka,bH,cW,iX,bJ,newsOf,tC,eI,eJ,List.length_range,ef,eZ,and_true,d7,em,lZ,df,aS,aT];apply hK)
   show bT _ _ _ _
   ((refine aU [] [] (by simp) fun K hK=>?_);simp(disch:=omega) only[kc,ab,Nat.reduceAdd,ak,ac,Value.oneCell',ah,bC];apply hK)
   refine⟨⟨i+1,by omega⟩,by simp only;omega,aj ⟨?_,trivial⟩ ?_⟩
   ·rw[List.range_succ];rfl
   ·simp[b9,bo,bj]
  ·have hik:i=k:=by omega
   subst hik
   (refine ae (aa [] fun K hK=>?_);simp(disch:=omega) only[kc,ab,Nat.reduceAdd,Hm,ak,ah,bf];apply hK)
   refine af rfl (fun h=>by simp at h<;>omega) (fun _=>bv ?_)
   show bT _ _ _ _
   (refine aa [] fun K hK=>?_;simp(disch:=omega) only[kc,ab,Nat.reduceAdd,b8,aN,aC,fh,mv,lD,fW,cellsOf,isPure,Nat.reduceMul,Nat.reduceLeDiff,List.contains_nil,ka,bH,cW,iX,bJ,newsOf,tC,eI,eJ,List.length_range,ef,eZ,and_true,d7,em,lZ,df,aS,aT];apply hK)
   refine ay ⟨.inr rfl,lk 15 (dH rfl) ?_ rfl⟩
   have eT:List.take (i+1) (List.range i++[more])=List.range i++[more]:=List.take_of_length_le (by simp)
   simp(disch:=omega) only[kc,bE,Tryz.results128,aP,gH,fu,aJ,bH,eB,eT,d8,qR]
structure KG (n:Nat) where
 i:Nat
 hi:i<=n
theorem sh (l:List Int) (v:Int):lc fZ l++[[.p (.raw (.bool (decide (v<0)))),.p (.sl (ls fU (be v.natAbs)))]]=lc fZ (l++[v]):=by simp[lc,fZ]
theorem EE (M:List (List Int)) (r:List Int):lc (fR fZ) M++[[.p (.sl (ls fZ r))]]=lc (fR fZ) (M++[r]):=by simp[lc,fR]
theorem uZ {α β:Type} {l:List α} {i:Nat} {x:α} (g:α->β) (h:l[i]?=some x):(l.take i).map g++[g x]=(l.take (i+1)).map g:=by
 rw[List.take_add_one,h];simp
theorem wY (n c:Nat) (f:Nat->Nat->Int) (rs cs:List Nat) (hn:n<=16) (hc:c<=16) (hr: ∀x∈rs,x<n) (hs: ∀x∈cs,x<c) (lr:rs.length<=17) (lcs:cs.length<=17):
  CallC Tryz.prog 127 [ci (cd n c f),qR rs,qR cs] ⟨[],ci (rs.map fun i=>cs.map (f i))⟩:=by
 have hml:=bQ n c f
 refine ax Tryz.func127 rfl (by kernel_rfl) ?_;rw[Tryz.ntmps127]
 (refine aa [] fun K hK=>?_;simp(disch:=omega) only[kc,ab,ci,qR,Nat.reduceAdd,List.replicate,ac,Value.oneCell'];apply hK)
 (refine aa [] fun K hK=>?_;simp(disch:=omega) only[kc,ab,ac,Value.oneCell'];apply hK)
 (refine ae (aa [] fun K hK=>?_);simp(disch:=omega) only[kc,ab,Nat.reduceAdd,aw,au,fh,aR,ac,Value.oneCell'];apply hK)
 refine bD (G:=KG rs.length) (fun g=>⟨[ci (cd n c f),qR rs,qR cs,jk,jk,jk,.raw (.slice none 0 0),.one (.sl 39 0 0 g.i),jk,jk,jk,jk,jk,qR rs,.raw (.int .i64 (rs.length:Int)),.raw (.int .i64 (g.i:Int)),jk,jk,jk,jk,jk,jk,jk,jk,jk,jk,jk,jk,jk,jk,jk,jk,jk,jk,jk,jk,jk,jk,jk,jk,jk,jk],Hm [(39,[⟨91,1,lc (fR fZ) ((rs.take g.i).map fun i=>cs.map (f i))⟩])]⟩) (fun g=>rs.length-g.i) ⟨0,by omega⟩ ?_ ?_
 ·refine(fG (k:=7) (d:=39) 91 1 (by omega) rfl rfl).trans (aj ⟨rfl,trivial⟩ ?_)
  simp[b9,bo,bj]
 ·rintro⟨i,hi⟩
  simp only
  by_cases hm:i<rs.length
  ·obtain⟨r,hri⟩:=getElem?_of_lt hm
   have hrn:=hr r (List.mem_of_getElem? hri)
   have hrow:=cS c f hrn
   (refine aa [] fun K hK=>?_;simp(disch:=omega) only[kc,ab,ci,qR,Hm,ak,ah,bA];apply hK)
   refine ae (af rfl (fun _=>aq ?_) (fun h=>by simp at h<;>omega))
   refine ae (aI ?_)
   (refine aa [] fun K hK=>?_;simp(disch:=omega) only[kc,ab,Nat.reduceAdd,ag,au,ao,fh,bG,hri,fN,lD,aA,rm];apply hK)
   (refine aa [] fun K hK=>?_;simp(disch:=omega) only[kc,ab,ac,Value.oneCell'];apply hK)
   (refine ae (aa [] fun K hK=>?_);simp(disch:=omega) only[kc,ab,Nat.reduceAdd,aw,au,fh,aR,ac,Value.oneCell'];apply hK)
   refine bD (G:=KG cs.length) (fun g=>⟨[ci (cd n c f),qR rs,qR cs,jk,jk,jk,.raw (.slice none 0 0),.one (.sl 39 0 0 i),jk,.raw (.int .i64 (r:Int)),.one (.sl 34 0 0 g.i),jk,jk,qR rs,.raw (.int .i64 (rs.length:Int)),.raw (.int .i64 (i:Int)),jk,jk,jk,qR cs,.raw (.int .i64 (cs.length:Int)),.raw (.int .i64 (g.i:Int)),jk,jk,jk,jk,jk,jk,jk,jk,jk,jk,jk,jk,jk,jk,jk,jk,jk,jk,jk,jk],Hm [(39,[⟨91,1,lc (fR fZ) ((rs.take i).map fun i=>cs.map (f i))⟩]),(34,[⟨53,2,lc fZ ((cs.take g.i).map (f r))⟩])]⟩) (fun g=>cs.length-g.i) ⟨0,by omega⟩ ?_ ?_
   ·refine(fG (k:=10) (d:=34) 53 2 (by omega) rfl rfl).trans (aj ⟨rfl,rfl,trivial⟩ ?_)
    simp[b9,bo,bj]
   ·rintro⟨j,hj⟩
    simp only
    by_cases hm2:j<cs.length
    ·obtain⟨s,hsj⟩:=getElem?_of_lt hm2
     have hsc:=hs s (List.mem_of_getElem? hsj)
     have hent:=bK (f r) hsc
     have eL:((cs.take j).map (f r)).length=j:=by simp;omega
     (refine aa [] fun K hK=>?_;simp(disch:=omega) only[kc,ab,ci,qR,Hm,ak,ah,bA];apply hK)
     refine ae (af rfl (fun _=>aq ?_) (fun h=>by simp at h<;>omega))
     refine ae (aI ?_)
     (refine aa [] fun K hK=>?_;simp(disch:=omega) only[kc,ab,Nat.reduceAdd,ag,au,ao,fh,bG,hsj,fN,lD,aA,rm];apply hK)
     ((refine aU [] [] (by simp) fun K hK=>?_);simp(disch:=omega) only[kc,ab,Nat.reduceAdd,ag,au,ao,aZ,bG,hrow,fR,cw,aA,cu,bL,hent,fZ,aM,aW,Nat.le_refl,b8,aN,aC,bi,fW,cellsOf,isPure,Nat.reduceMul,Nat.reduceLeDiff,List.contains_nil,ka,bH,cW,iX,bJ,newsOf,Nat.reduceEqDiff,lC,eI,eJ,eL,ef,eZ,and_true,d7,em,sh,uZ (f r) hsj,df,aS,aT,Nat.reduceBEq];apply hK)
     show bT _ _ _ _
     ((refine aU [] [] (by simp) fun K hK=>?_);simp(disch:=omega) only[kc,ab,ak,ac,Value.oneCell',ah,bC];apply hK)
     refine⟨⟨j+1,by omega⟩,by simp only;omega,aj ⟨rfl,rfl,trivial⟩ ?_⟩
     simp[b9,bo,bj]
    ·have hjc:j=cs.length:=by omega
     subst hjc
     (refine aa [] fun K hK=>?_;simp(disch:=omega) only[kc,ab,ci,qR,Hm,ak,ah,bf];apply hK)
     refine ae (af rfl (fun h=>by simp at h<;>omega) (fun _=>bv ?_))
     show bT _ _ _ _
     refine bT.weak ((cQ 34 (dH rfl)).trans (aj (tm:=[ci (cd n c f),qR rs,qR cs,jk,jk,jk,.raw (.slice none 0 0),.one (.sl 39 0 0 i),jk,jk,.one (.p (.sl (ls fZ (cs.map (f r))))),jk,jk,qR rs,.raw (.int .i64 (rs.length:Int)),.raw (.int .i64 (i:Int)),jk,jk,jk,jk,jk,jk,jk,jk,jk,jk,jk,jk,jk,jk,jk,jk,jk,jk,jk,jk,jk,jk,jk,jk,jk,jk]) (l:=[(39,[⟨91,1,lc (fR fZ) ((rs.take i).map fun i=>cs.map (f i))⟩])]) ⟨rfl,trivial⟩ (by simp[b9,bo,bj,gH,fu,Hm,eB,d8,List.take_of_length_le]))) ?_
     have eL:((rs.take i).map fun i=>cs.map (f i)).length=i:=by simp;omega
     have eS:=uZ (fun i=>cs.map (f i)) hri
     ((refine aU [] [] (by simp) fun K hK=>?_);simp(disch:=omega) only[kc,ab,Nat.reduceAdd,ci,qR,Hm,b8,aN,aC,aZ,kG,cw,fW,cellsOf,isPure,Nat.reduceMul,Nat.reduceLeDiff,List.contains_nil,ka,bH,cW,iX,bJ,newsOf,pp,eI,eJ,eL,ef,eZ,and_true,d7,em,EE,eS,df,aS,aT];apply hK)
     show bT _ _ _ _
     ((refine aU [] [] (by simp) fun K hK=>?_);simp(disch:=omega) only[kc,ab,ak,ac,Value.oneCell',ah,bC];apply hK)
     refine⟨⟨i+1,by omega⟩,by simp only;omega,aj ⟨rfl,trivial⟩ ?_⟩
     simp[b9,bo,bj]
  ·have hin:i=rs.length:=by omega
   subst hin
   (refine aa [] fun K hK=>?_;simp(disch:=omega) only[kc,ab,ci,qR,Hm,ak,ah,bf];apply hK)
   refine ae (af rfl (fun h=>by simp at h<;>omega) (fun _=>bv ?_))
   show bT _ _ _ _
   (refine aa [] fun K hK=>?_;simp(disch:=omega) only[kc,ab];apply hK)
   refine ay ⟨.inr rfl,lk 39 (dH rfl) ?_ rfl⟩
   have eT:List.take rs.length (List.map (fun i=>cs.map (f i)) rs)=rs.map fun i=>cs.map (f i):=List.take_of_length_le (by simp)
   simp(disch:=omega) only[kc,bE,Tryz.results127,aP,List.take_length,gH,fu,bH,eB,eT,d8,ci]
abbrev n4:List AV:=[.raw (.slice none 0 0)]
theorem mM {α:Type} {A:List α} {x:α} {l:List α} {i:Nat} (h:A.length=i):(A++x::l)[i]?=some x:=by
 rw[List.getElem?_append_right (by omega),h,Nat.sub_self];rfl
theorem mN {α:Type} {A:List α} {x y:α} {l:List α} {i:Nat} (h:A.length=i):(A++x::l).set i y=A++y::l:=by
 rw[List.set_append_right _ _ (by omega),h,Nat.sub_self];rfl
theorem Fw (k:Nat->Nat->Bool) (R:List (List Int)):(R.map lN).map (d7 k)=R.map lN:=by
 rw[List.map_map]
 exact List.map_congr_left fun r _=>by simp[d7,lN,em]
theorem yo (d i c:Nat):(gY d (List.replicate i c)).map (List.map (aT fun x y=>x==d&&y==i+1))=gY d (List.replicate i c):=by
 apply List.ext_getElem?
 intro k
 rw[List.getElem?_map]
 by_cases h:k<i
 ·rw[cX d c h]
  have:k≠i:=by omega
  simp[aT,this]
 ·rw[List.getElem?_eq_none (by rw[dN,List.length_replicate];omega)];rfl
def GK (d n c:Nat) (f:Nat->Nat->Int) (i:Nat):List OObj:=⟨91,1,gY d (List.replicate i c)++List.replicate (n-i) n4⟩::(cd i c f).map lN
def JR (d n c:Nat) (f:Nat->Nat->Int) (i j:Nat):List OObj:=⟨91,1,gY d (List.replicate i c)++[.sl d (i+1) 0 (j+1)]::List.replicate (n-i-1) n4⟩::((cd i c f).map lN++[lN (de (j+1) (f i))])
def Kv (d n c:Nat) (f:Nat->Nat->Int) (i:Nat):Nat->List OObj
 |0=>GK d n c f i
 |j+1=>JR d n c f i j
theorem sk (i c:Nat) (f:Nat->Nat->Int):cd (i+1) c f=cd i c f++[de c (f i)]:=by simp[cd,List.range_succ]
theorem mU (j:Nat) (g:Nat->Int):de (j+1) g=de j g++[g j]:=by simp[de,List.range_succ]
theorem Ji {d n c i:Nat} (f:Nat->Nat->Int) (hc:1<=c) (hi:i<n):Kv d n c f i c=GK d n c f (i+1):=by
 obtain⟨j,rfl⟩: ∃j,c=j+1:=⟨c-1,by omega⟩
 show JR d n (j+1) f i j=_
 unfold JR GK
 rw[sk,List.replicate_succ' (n:=i),mm,List.length_replicate]
 simp[Nat.sub_sub]
theorem Jh (d n c:Nat) (f:Nat->Nat->Int):GK d n c f n=gV d n c f:=by
 unfold GK;simp
theorem GL {d n c i:Nat} (f:Nat->Nat->Int) (hi:i<n):GK d n c f i=⟨91,1,gY d (List.replicate i c)++n4::List.replicate (n-i-1) n4⟩::(cd i c f).map lN:=by
 unfold GK
 rw[show n-i=n-i-1+1 by omega,List.replicate_succ];rfl
theorem Du (n c:Nat) (f:Nat->Nat->Int) (hn:n<=17) (hc1:1<=c) (hc:c<=17) (hf: ∀i j,i<n->j<c->Bg (f i j)):
  CallC Tryz.prog 60 [ci (cd n c f)] ⟨gV 0 n c f,.one (.sl 0 0 0 n)⟩:=by
 have hml:=bQ n c f
 refine ax Tryz.func60 rfl (by kernel_rfl) ?_;rw[Tryz.ntmps60]
 (refine aa [] fun K hK=>?_;simp(disch:=omega) only[kc,ab,ci,List.replicate,ac,Value.oneCell'];apply hK)
 (refine aa [] fun K hK=>?_;simp(disch:=omega) only[kc,ab,Nat.reduceAdd,aw,au,aZ,aR,hml,bZ,aN,aC,kG,cw,pp,Int.natCast_nonneg,Value.oneCell',and_true,bH];apply hK)
 (refine ae (aa [] fun K hK=>?_);simp(disch:=omega) only[kc,ab,Nat.reduceAdd,aw,au,aZ,aR,hml,ac,Value.oneCell'];apply hK)
 refine bD (G:=mz n) (fun g=>⟨[ci (cd n c f),jk,.raw (.slice none 0 0),.one (.sl 9 0 0 n),jk,jk,jk,jk,jk,jk,jk,.raw (.int .i64 (n:Int)),.raw (.int .i64 (g.i:Int)),jk,jk,jk,jk,jk,jk,jk,jk,jk,jk,jk,jk,jk,jk,jk,jk,jk,jk,jk,jk,jk,jk,jk,jk,jk],Hm [(9,GK 9 n c f g.i)]⟩) (fun g=>n-g.i) ⟨0,by omega⟩ ?_ ?_
 ·refine aj ⟨?_,trivial⟩ ?_
  ·show[_]=_
   simp[GK,gY,cd]
  ·simp[b9,bo,bj]
 ·rintro⟨i,hi⟩
  simp only
  by_cases hm:i<n
  ·have hrow:=cS c f hm
   have hmi:=bQ i c f
   have hsl:(gY 9 (List.replicate i c)).length=i:=by rw[dN,List.length_replicate]
   have hrl:((cd i c f).map lN).length=i:=by rw[List.length_map,hmi]
   (refine aa [] fun K hK=>?_;simp(disch:=omega) only[kc,ab,ci,Hm,ak,ah,bA];apply hK)
   refine ae (af rfl (fun _=>aq ?_) (fun h=>by simp at h<;>omega))
   refine ae (aI ?_)
   (refine aa [] fun K hK=>?_;simp(disch:=omega) only[kc,ab];apply hK)
   (refine aa [] fun K hK=>?_;simp(disch:=omega) only[kc,ab,Nat.reduceAdd,ag,au,ao,aZ,bG,hrow,fR,cw,aA,cu,aw,bL,aR,cq,ac,Value.oneCell'];apply hK)
   refine bD (G:=mz c) (fun g=>⟨[ci (cd n c f),jk,.raw (.slice none 0 0),.one (.sl 9 0 0 n),.raw (.int .i64 (i:Int)),jk,jk,jk,jk,jk,jk,.raw (.int .i64 (n:Int)),.raw (.int .i64 (i:Int)),jk,jk,jk,jk,jk,.one (.p (.sl (ls fZ (de c (f i))))),.raw (.int .i64 (c:Int)),.raw (.int .i64 (g.i:Int)),jk,jk,jk,jk,jk,jk,jk,jk,jk,jk,jk,jk,jk,jk,jk,jk,jk],Hm [(9,Kv 9 n c f i g.i)]⟩) (fun g=>c-g.i) ⟨0,by omega⟩ ?_ ?_
   ·refine aj ⟨rfl,trivial⟩ ?_
    simp[b9,bo,bj]
   ·rintro⟨j,hj⟩
    simp only
    by_cases hm2:j<c
    ·have hent:=bK (f i) hm2
     have hN:=ES (f i j) (hf i j hm hm2)
     cases j with
     |zero=>
      rw[Kv,GL f hm]
      (refine aa [] fun K hK=>?_;simp(disch:=omega) only[kc,ab,ci,Hm,ak,ah,bA];apply hK)
      refine ae (af rfl (fun _=>aq ?_) (fun h=>by simp at h<;>omega))
      refine ae (aI ?_)
      (refine aa [] fun K hK=>?_;simp(disch:=omega) only[kc,ab,Nat.reduceAdd,ag,au,ao,bL,bG,hent,fZ,aM,aA,aW,Nat.le_refl,bu,aN,aC,bi,Value.oneCell',bH,Nat.reduceEqDiff,az,df,bJ,aJ,cellsOf,isPure,putCells,aS,aT];apply hK)
      ((refine dW bY [⟨7,_,_,_,hN⟩] [] (by kernel_rfl) (by simp) fun K hK=>?_);simp(disch:=omega) only[kc,tZ,ar.a,ab,Nat.reduceAdd,ag,au,ao,aZ,aJ,Nat.reduceEqDiff,cP,cw,bH,mM hsl,aA,cu,aM,aW,Nat.le_refl,ai,aN,aC,List.find?_cons,aD,aX,CallRes.plain,aF,aH,ap,isPure,noRefTV,am,aG,aE,b8,bL,bi,fW,cellsOf,Nat.reduceMul,Nat.reduceLeDiff,List.contains_nil,ka,cW,iX,bJ,newsOf,lC,ef,eZ,and_true,az,df,putCells,mN hsl,List.length_map,hmi,aS,aT,Nat.reduceBEq];apply hK)
      show bT _ _ _ _
      ((refine aU [] [] (by simp) fun K hK=>?_);simp(disch:=omega) only[kc,ab,ak,ac,Value.oneCell',ah,bC];apply hK)
      refine⟨⟨1,by omega⟩,by simp only;omega,aj ⟨?_,trivial⟩ ?_⟩
      ·rfl
      ·simp[b9,bo,bj]
     |succ j=>
      have h01:(0==i+1)=false:=by simp
      rw[Kv,JR]
      (refine aa [] fun K hK=>?_;simp(disch:=omega) only[kc,ab,ci,Hm,ak,ah,bA];apply hK)
      refine ae (af rfl (fun _=>aq ?_) (fun h=>by simp at h<;>omega))
      refine ae (aI ?_)
      (refine aa [] fun K hK=>?_;simp(disch:=omega) only[kc,ab,Nat.reduceAdd,ag,au,ao,bL,bG,hent,fZ,aM,aA,aW,Nat.le_refl,bu,aN,aC,bi,Value.oneCell',bH,Nat.reduceEqDiff,az,df,bJ,aJ,cellsOf,isPure,putCells,aS,aT];apply hK)
      ((refine dW bY [⟨7,_,_,_,hN⟩] [] (by kernel_rfl) (by simp) fun K hK=>?_);simp(disch:=omega) only[kc,tZ,ar.a,ab,Nat.reduceAdd,lN,ag,au,ao,aZ,aJ,Nat.reduceEqDiff,cP,cw,bH,mM hsl,aA,cu,aM,aW,Nat.le_refl,ai,aN,aC,List.find?_cons,aD,aX,CallRes.plain,aF,aH,ap,isPure,noRefTV,am,aG,aE,b8,bL,bi,fW,cellsOf,Nat.reduceMul,Nat.reduceLeDiff,List.contains_nil,ka,cW,iX,bJ,newsOf,mM hrl,lC,eI,eJ,cq,ef,eZ,and_true,d7,List.map_append,yo,aT,List.map_replicate,Fw,em,sh,mN hrl,df,aS,h01,Nat.reduceBEq,az,putCells,mN hsl,reduceCtorEq,false_and,List.length_append,hrl];apply hK)
      show bT _ _ _ _
      ((refine aU [] [] (by simp) fun K hK=>?_);simp(disch:=omega) only[kc,ab,ak,ac,Value.oneCell',ah,bC];apply hK)
      refine⟨⟨j+1+1,by omega⟩,by simp only;omega,aj ⟨?_,trivial⟩ ?_⟩
      ·show _=JR 9 n c f i (j+1)
       rw[JR,lN,mU (j+1)];rfl
      ·simp[b9,bo,bj]
    ·have hjc:j=c:=by omega
     subst hjc
     (refine aa [] fun K hK=>?_;simp(disch:=omega) only[kc,ab,ci,Hm,ak,ah,bf];apply hK)
     refine ae (af rfl (fun h=>by simp at h<;>omega) (fun _=>bv ?_))
     show bT _ _ _ _
     rw[Ji f hc1 hm]
     ((refine aU [] [] (by simp) fun K hK=>?_);simp(disch:=omega) only[kc,ab,ak,ac,Value.oneCell',ah,bC];apply hK)
     refine⟨⟨i+1,by omega⟩,by simp only;omega,aj ⟨rfl,trivial⟩ ?_⟩
     simp[b9,bo,bj]
  ·have hin:i=n:=by omega
   subst hin
   (refine aa [] fun K hK=>?_;simp(disch:=omega) only[kc,ab,ci,Hm,ak,ah,bf];apply hK)
   refine ae (af rfl (fun h=>by simp at h<;>omega) (fun _=>bv ?_))
   show bT _ _ _ _
   rw[Jh]
   (refine aa [] fun K hK=>?_;simp(disch:=omega) only[kc,ab];apply hK)
   refine ay ⟨.inr rfl,_,dG.refl _,?_⟩
   refine⟨.one (.sl 9 0 0 i),9,?_,rfl,?_,rfl⟩
   ·simp(disch:=omega) only[bE,Tryz.results60,aP,List.getElem?_cons_succ,List.getElem?_cons_zero]
   ·exact(gM 9 0 _ _ _).symm
end Go.Proofs.YtpgghglbpcabkaaGreat
