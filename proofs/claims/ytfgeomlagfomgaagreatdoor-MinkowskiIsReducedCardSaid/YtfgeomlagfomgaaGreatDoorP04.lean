/-
  Part 5 of a proof (walks and plain facts).
-/
import Derived.Test.YtfgeomlagfomgaaGreatDoorP03
set_option linter.all false
set_option maxRecDepth 100000
set_option maxHeartbeats 64000000
open List renaming all_eq_true → aq
open Go.Result renaming andThen_ok → ar
open List renaming mem_map → au
open List renaming mem_of_getElem? → aE
open List renaming getElem?_map → aH
namespace Go.Proofs.YtfgeomlagfomgaaGreatDoor
open Go.RowKit
section
section
variable {P:Program} {w0 w w':World} {O X:Nat->Prop} {ρ:Rho} {H:OH}
theorem jE (x:AV):bx (fun _ _=>false) x=x:=by cases x<;>rfl
theorem lW (t:TV):bz (fun _ _=>false) t=t:=by
 cases t with
 |one x=>simp[bz,jE]
 |agg cs=>simp only[bz];congr 1;rw[show bx (fun _ _=>false)=id from funext jE];simp
 |fn f cs=>simp only[bz];congr 1;rw[show bx (fun _ _=>false)=id from funext jE];simp
 |tup ts=>simp only[bz];congr 1;rw[show bx (fun _ _=>false)=id from funext jE];simp
theorem li (l:List TV):l.map (bz fun _ _=>false)=l:=by
 rw[show bz (fun _ _=>false)=id from funext lW];simp
theorem qS {ρc:Rho} {F:List OObj} {Y:Nat->Prop} {d:Nat} {ρ':Rho} {H':OH} {Y':Nat->Prop} (hF: ∀(r:Nat) o,F[r]?=some o->(H' d)[r]?=some (renO d o)/\ρ' d r=ρc 0 r)
  (hY: ∀b,b<w.heap.size->Y' b->Xo Y ρc (famH 0 F) b) {x:AV} {v:Value} (h:x.rel ρc (famH 0 F) (Xo Y ρc (famH 0 F)) w v):(bM d x).rel ρ' H' Y' w v:=by
 cases x with
 |p x=>exact ee.weaken hY h
 |sl a r off len=>
  obtain⟨o,h1,h2,h3⟩:=h
  by_cases ha:a=0
  ·subst ha
   obtain⟨f1,f2⟩:=hF r o h1
   exact⟨renO d o,f1,by simpa[renO] using h2,me (by decide) h3 f2⟩
  simp[famH,ha]at h1
 |ptr a r i j=>
  obtain⟨o,b,c,h1,h2,h3,h4⟩:=h
  by_cases ha:a=0
  ·subst ha
   obtain⟨f1,f2⟩:=hF r o h1
   exact⟨renO d o,b,c,f1,by rw[f2];exact h2,by simpa[renO] using h3,h4⟩
  simp[famH,ha]at h1
 |junk=>trivial
theorem nB {ρ':Rho} {H':OH} {Y Y':Nat->Prop} {d:Nat} {t:TV} {v:Value} (h:t.rel ρ H Y w v) (hk: ∀x v,x.rel ρ H Y w v->AV.rel ρ' H' Y' w' (bM d x) v):(bQ d t).rel ρ' H' Y' w' v:=by
 have agg: ∀cs v,dL ρ H Y w cs v->dL ρ' H' Y' w' (cs.map (bM d)) v:=fun cs v h=>by
  obtain⟨vs,h1,h2,h3⟩:=h
  refine⟨vs,h1,by simpa using h2,fun j x hx=>?_⟩
  rw[aH]at hx
  obtain⟨y,hy,rfl⟩:=Option.map_eq_some_iff.1 hx
  obtain⟨u,u1,u2,u3⟩:=h3 j y hy
  exact⟨u,u1,u2,hk _ _ u3⟩
 cases t with
 |one x=>exact hk _ _ h
 |agg cs=>exact agg cs v h
 |fn f cs=>obtain⟨u,h1,h2⟩:=h;exact⟨u,agg cs u h1,h2⟩
 |tup ts=>
  obtain⟨vs,h1,h2,h3⟩:=h
  refine⟨vs,h1,by simpa using h2,fun j b cs hx=>?_⟩
  rw[aH]at hx
  obtain⟨y,hy,hyy⟩:=Option.map_eq_some_iff.1 hx
  obtain⟨b',cs'⟩:=y
  simp at hyy
  obtain⟨rfl,rfl⟩:=hyy
  obtain⟨u,u1,u2⟩:=h3 j b' cs' hy
  refine⟨u,u1,?_⟩
  rcases u2 with⟨u2,u3⟩|⟨u2,x,rfl,u4⟩
  ·exact .inl ⟨u2,agg _ _ u3⟩
  exact .inr ⟨u2,_,rfl,hk _ _ u4⟩
theorem C6 {Z:Nat->Prop} {x:AV} {v:Value} (hp:isPure x=true) (h:x.rel ρ H Z w v):ee Z w (lI x) v:=by
 cases x<;>first|exact h|cases hp
theorem uA {own:Bool} {Y Z:Nat->Prop} (hob: ∀(a r:Nat) (o:OObj),(H a)[r]?=some o->objRel ρ H Y w a r o) (hZ: ∀b,Z b->Y b) (hZo:own=true-> ∀(a r:Nat) (o:OObj) (b c:Nat),(H a)[r]?=some o->ρ a r=some (b,c)-> ¬Z b) {t:TV} {v:Value} (h:t.rel ρ H Y w v) (hn:bs own H t=true):
  (cq H t).rel (fun _ _=>none) (fun _=>[]) Z w v:=by
 have wk: ∀x u,ee Y w x u->ee Z w x u:=fun x u h=>ee.weaken (fun b _ hb=>hZ b hb) h
 unfold bs at hn
 split at hn
 ·rename_i a r off len
  simp only[Bool.and_eq_true]at hn
  obtain⟨ho1,hn⟩:=hn
  obtain⟨o,g1,g2,g3⟩:=h
  rw[g1]at hn
  simp only[aq]at hn
  simp only[cq,g1]
  show ee _ _ _ _
  obtain⟨q1,q2,q3⟩:=hob a r o g1
  have hl:(((o.elems.take (off+len)).drop off).map (List.map lI)).length=len:=by simp;omega
  rcases g3 with⟨gr,gv,gl,go⟩|⟨b,c,cap,gr,gv,hcap,_⟩
  ·rw[List.length_eq_zero_iff.1 (hl.trans gl),gv]
   exact ee.nil _ _
  by_cases hl0:len=0
  ·rw[List.length_eq_zero_iff.1 (hl.trans hl0),gv,hl0]
   exact ee.nil _ _
  rw[gr]at q3
  obtain⟨cells,p1,p2,p3,p4,p5⟩:=q3
  have hsub: ∀(i:Nat) e,(((o.elems.take (off+len)).drop off).map (List.map lI))[i]?=some e-> ∃e',o.elems[off+i]?=some e'/\e=e'.map lI:=fun i e he=>by
   rw[aH]at he
   obtain⟨e',he',rfl⟩:=Option.map_eq_some_iff.1 he
   rw[List.getElem?_drop,List.getElem?_take]at he'
   split at he'
   ·exact⟨e',he',rfl⟩
   cases he'
  have hcell: ∀(i:Nat) e (j:Nat) x,(((o.elems.take (off+len)).drop off).map (List.map lI))[i]?=some e->e[j]?=some x-> ∃u:Value,cells[(off+i)*o.es+j]?=some u/\ee Z w x u:=fun i e j x he hx=>by
   obtain⟨e',he',rfl⟩:=hsub i e he
   rw[aH]at hx
   obtain⟨x',hx',rfl⟩:=Option.map_eq_some_iff.1 hx
   obtain⟨u,u1,u2,u3⟩:=p5 _ e' j x' he' hx'
   exact⟨u,u1,wk _ _ (C6 (hn e' (aE he') x' (aE hx')) u3)⟩
  rw[gv]
  have:=ee.sl (X:=Z) (w:=w) b (off*o.es) o.es cap (((o.elems.take (off+len)).drop off).map (List.map lI)) (fun i j=>(cells[(off+i)*o.es+j]?).getD undef) (hZo ho1 a r o b c g1 gr) (Array.getElem?_eq_some_iff.1 p1).1
   (fun e he=>by
    simp only[au]at he
    obtain⟨e',he',rfl⟩:=he
    rw[List.length_map]
    exact q1 e' (List.mem_of_mem_take (List.mem_of_mem_drop he'))) (by omega) (by omega)
   (fun i e j x he hx=>by
    obtain⟨u,u1,_⟩:=hcell i e j x he hx
    rw[cell_of_row _ b _ cells o.ty (0,0) p1,<- Nat.add_mul,u1]
    rfl)
   (fun i e j x he hx=>by
    obtain⟨u,u1,u2⟩:=hcell i e j x he hx
    simp only[u1,Option.getD_some];exact u2)
  rw[hl]at this
  exact this
 ·rename_i x
  unfold cq
  split
  ·rename_i heq;cases heq
  ·rename_i heq
   injection heq with heq
   injection heq with heq
   subst heq
   have:=(dQ h).1
   subst this
   exact ee.nil _ _
  exact wk _ _ h
 ·rename_i cs
  simp only[aq]at hn
  obtain⟨vs,h1,h2,h3⟩:=h
  refine⟨vs,h1,h2,fun j x hx=>?_⟩
  obtain⟨u,u1,u2,u3⟩:=h3 j x hx
  refine⟨u,u1,u2,?_⟩
  have hp:=hn x (aE hx)
  cases x<;>first|exact wk _ _ u3|cases hp
 ·rename_i f cs
  simp only[aq]at hn
  obtain⟨u0,⟨vs,h1,h2,h3⟩,h4⟩:=h
  refine⟨u0,⟨vs,h1,h2,fun j x hx=>?_⟩,h4⟩
  obtain⟨u,u1,u2,u3⟩:=h3 j x hx
  refine⟨u,u1,u2,?_⟩
  have hp:=hn x (aE hx)
  cases x<;>first|exact wk _ _ u3|cases hp
 cases hn
theorem oY {own:Bool} {Y Z:Nat->Prop} (hob: ∀(a r:Nat) (o:OObj),(H a)[r]?=some o->objRel ρ H Y w a r o) (hZ: ∀b,Z b->Y b) (hZo:own=true-> ∀b,¬Z b) {t:TV} {v:Value} (h:t.rel ρ H Y w v) (hn:bs own H t=true):
  (cq H t).rel (fun _ _=>none) (fun _=>[]) Z w v:=
 uA hob hZ (fun h _ _ _ b _ _ _=>hZo h b) h hn
end
end
section
section
variable {P:Program} {w0 w w':World} {O X:Nat->Prop} {ρ:Rho} {H:OH}
theorem jb {Y:Nat->Prop}:TV.rel ρ H Y w .undef undef:=⟨#[],rfl,rfl,fun j b cs h=>by simp at h⟩
theorem s5 {s:AS} {a:Act} (h1:a.defers=[]) (hsz:a.tmps.size=s.tmps.length) (hinv:Inv w0 O X s.H ρ w) (htm:dN X ρ s a w) {o:Oper} {t:TypeId} {ad x:Operand} (ho:o.op= .store t ad x)
  {fa r i j n:Nat} {ob:OObj} {e cs:List AV} (had:s.ev ad=some (.one (.ptr fa r i j))) (hn:kh P t=some n) (hob:(s.H fa)[r]?=some ob) (he:ob.elems[i]?=some e) (hcs:cs.length=n) (hj:j+n<=e.length)
  (hx:mz ρ s.H (Xo X ρ s.H) w cs (a.eval x).cells) (hself: ∀y∈cs,fP fa y) {K:Act->World->Prop} {Q:Exit->Act->World->Prop}
  (hK: ∀v w',iW w0 O X (AS.put ⟨s.tmps,bD s.H fa ((s.H fa).set r {ob with elems:=ob.elems.set i (bu e j cs)})⟩ o.dst .undef) (a.put o.dst v) w'->K (a.put o.dst v) w'):o.wp P a w K Q:=by
 obtain⟨ob',b,c,g1,g2,g3,g4⟩:=eH htm ad _ had
 rw[hob]at g1
 injection g1 with g1
 subst g1
 obtain⟨x1,x2⟩:=hx
 have hvl:(a.eval x).cells.toList.length=cs.length:=by simpa using x1
 obtain⟨cells,c1,c2,c3,c4⟩:=Di h1 hsz hinv htm (vs:=(a.eval x).cells.toList) (j:=j) hob g2 he (by omega) hvl (fun k y hy=>by
  obtain⟨u,u1,u2⟩:=x2 k y hy
  exact⟨u,by simpa using u1,u2⟩) hself
 have hone: ∀u∈(a.eval x).cells,u.oneCell'=true:=fun u hu=>by
  obtain⟨k,hk,rfl⟩:=Array.getElem_of_mem hu
  obtain⟨y,hy⟩:=getElem?_of_lt (l:=cs) (k:=k) (by rw[<- x1];exact hk)
  obtain⟨u,u1,u2,_⟩:=x2 k y hy
  rw[Array.getElem?_eq_getElem hk]at u1
  injection u1 with u1
  rw[u1];exact u2
 have hrun:=x9 (P:=P) (t:=t) (v:=a.eval x) (by rw[hn,x1,hcs]) c1 (by simpa using c2) hone
 unfold Oper.wp execOp
 simp only[ho,g4]
 rw[Li hrun]
 refine hK undef _ (iR (ρ:=ρ) h1 hsz ?_ ?_ jb)
 ·simpa using c3
 simpa using c4
theorem zg {s:AS} {a:Act} (h1:a.defers=[]) (hsz:a.tmps.size=s.tmps.length) (hinv:Inv w0 O X s.H ρ w) (htm:dN X ρ s a w) {o:Oper} {q:yH} (h:cU P s.ev s.H o.op=some q) {K:Act->World->Prop} {Q:Exit->Act->World->Prop}
  (hK: ∀v w',iW w0 O X (AS.put ⟨s.tmps.map (bz q.k),q.H⟩ o.dst q.t) (a.put o.dst v) w'->K (a.put o.dst v) w'):o.wp P a w K Q:=by
 cases ho:o.op<;>rw[ho]at h<;>simp only[cU]at h<;>try cases h
 case store t ad x=>
  split at h
  ·rename_i fa r i j n had hn
   split at h
   ·rename_i ob hob
    split at h
    ·rename_i e he
     split at h
     ·rename_i a' r' off len hx
      split at h
      ·rename_i haa
       subst haa
       split at h
       ·rename_i hc
        injection h with h
        subst h
        simp only[li]at hK
        have hxr:=eH htm x _ hx
        have hone:(a.eval x).oneCell'=true:=by
         obtain⟨_,_,_,h3⟩:=hxr
         rcases h3 with⟨_,h3,_⟩|⟨_,_,_,_,h3,_⟩<;>rw[h3]<;>rfl
        refine s5 h1 hsz hinv htm ho had hn hob he (cs:=[.sl a' r' off len]) (by simp;omega) (by omega) ⟨by rw[ld hone];rfl,fun k y hy=>?_⟩ (fun y hy=>by simp at hy;subst hy;rfl) hK
        cases k with
        |succ k=>simp at hy
        |zero=>simp at hy;subst hy;exact⟨a.eval x,by rw[ld hone];rfl,hone,hxr⟩
       cases h
      rename_i haa
      split at h
      ·rename_i o2 hH
       split at h
       ·rename_i hc
        obtain⟨c0,c1,c2,c3,c4,c5,c6⟩:=hc
        injection h with h
        subst h
        subst c1 c2
        simp only[aq]at c6
        obtain⟨m1,m2,m3⟩:=CL hinv (a:=fa) (b:=a') c0 haa hH c6
        have htm1:=A3 htm m2
        have hxr:=m3 _ _ _ (eH htm x _ hx)
        have hone:(a.eval x).oneCell'=true:=by
         obtain⟨_,_,_,h3⟩:=hxr
         rcases h3 with⟨_,h3,_⟩|⟨_,_,_,_,h3,_⟩<;>rw[h3]<;>rfl
        have hrl:r<(s.H fa).length:=(List.getElem?_eq_some_iff.1 hob).1
        have hH1:bD (bD s.H fa (s.H fa++[o2])) a' [] fa=s.H fa++[o2]:=by rw[cz (Ne.symm haa),dr]
        have had1:AS.ev ⟨s.tmps.map (bz fun x _=>x==a'),bD (bD s.H fa (s.H fa++[o2])) a' []⟩ ad=some (.one (.ptr fa r i j)):=by
         cases ad with
         |tmp k=>
          simp only[AS.ev,aH]at had⊢
          rw[had]
          simp[bz,bx,Ne.symm haa]
         |const v=>exact had
         |global g=>exact had
         |func f=>exact had
        refine s5 (s:=⟨s.tmps.map (bz fun x _=>x==a'),bD (bD s.H fa (s.H fa++[o2])) a' []⟩) (a:=a) h1 (by simpa using hsz) m1 htm1 ho had1 hn (by show(bD (bD s.H fa (s.H fa++[o2])) a' [] fa)[r]?=some ob;rw[hH1,List.getElem?_append_left hrl];exact hob) he (cs:=[.sl fa (s.H fa).length 0 len]) (by simp;omega) (by omega) ⟨by rw[ld hone];rfl,fun k y hy=>?_⟩ (fun y hy=>by simp at hy;subst hy;rfl) ?_
        ·cases k with
         |succ k=>simp at hy
         |zero=>simp at hy;subst hy;exact⟨a.eval x,by rw[ld hone];rfl,hone,hxr⟩
        intro v w2 hrel
        refine hK v w2 ?_
        have e1:bD (bD (bD s.H fa (s.H fa++[o2])) a' []) fa ((bD (bD s.H fa (s.H fa++[o2])) a' [] fa).set r {ob with elems:=ob.elems.set i (bu e j [.sl fa (s.H fa).length 0 len])})=
          bD (bD s.H fa ((s.H fa).set r {ob with elems:=ob.elems.set i (bu e j [.sl fa (s.H fa).length 0 len])}++[o2])) a' []:=by
         funext z
         rw[hH1]
         by_cases hz1:z=fa
         ·subst hz1
          rw[dr,cz (Ne.symm haa),dr,List.set_append_left _ _ hrl]
         rw[cz hz1]
         by_cases hz2:z=a'
         ·subst hz2;rw[dr,dr]
         rw[cz hz2,cz hz1,cz hz2,cz hz1]
        simp only[e1]at hrel
        exact hrel
       cases h
      cases h
     ·rename_i v hv hx
      split at h
      ·rename_i cs hcs
       split at h
       ·rename_i hc
        obtain⟨c1,c2,c3⟩:=hc
        injection h with h
        subst h
        simp only[li]at hK
        simp only[aq]at c3
        exact s5 h1 hsz hinv htm ho had hn hob he c1 c2 (ko hcs (eH htm x _ hx)) (fun y hy=>gS (c3 y hy)) hK
       cases h
      cases h
     cases h
    cases h
   cases h
  cases h
 case call c=>
  obtain⟨callee,⟨args⟩,⟨argTypes⟩⟩:=c
  split at h
  ·rename_i sx x t t' hcal hargs hty
   simp only at hcal hargs hty
   subst hcal hargs hty
   split at h
   ·rename_i fa r off len news e hs hx hsl
    split at h
    ·rename_i ob z sz by_ hob hz hszo hby
     split at h
     ·rename_i hc
      obtain⟨c0,rfl,rfl,rfl,c4,rfl,rfl,c7,c8,c9,c10⟩:=hc
      injection h with h
      subst h
      simp only[aq]at c4
      obtain⟨tx,htx,hnews⟩:=Option.bind_eq_some_iff.1 hx
      have hobj:=hinv.objs fa r ob hob
      have hpos:0<ob.es:=hobj.2.1
      obtain⟨us,hsrc⟩:=sd hinv.objs hnews (eH htm x tx htx) c10 hpos
      obtain⟨xs,hown,hxs,hvb⟩:=Ie c0 hobj hob (eH htm sx _ hs)
      obtain⟨⟨A,cc,hv,hrd⟩,hul,hone,hpu,hcell⟩:=id hsrc
      obtain⟨ti,zv,hti,hzv,hzc⟩:=kb hz
      obtain⟨ti',hti',hsz'⟩:=py hszo
      rw[hti]at hti';injection hti' with hti';subst hti'
      obtain⟨ti',hti',hby'⟩:=rq hby
      rw[hti]at hti';injection hti' with hti';subst hti'
      obtain⟨v',w1,hrun,hown',hg,hblk⟩:=kR (P:=P) w 0 t o.type ob.ty zv ob.es by_ (fH hsl) (by rw[hti];simp[hzv,hsz',hby']) (by rw[<- c9,<- hzc];simp) hpos _ _ xs hown A news.length cc us hrd hul hone (by unfold maxLen;omega) c7 (Nat.zero_le _)
      obtain⟨ρ',i1,i2,i3⟩:=yT hinv htm hob c10 hxs hown.1 hvb hsrc hown' hg hblk (fun e he x hx=>c4 e he x hx)
      unfold Oper.wp execOp
      have hrun':(execOp a.eval o).run P w= .ok (.value v') w1:=by
       unfold execOp
       simp only[ho,resolve,invoke,builtin,Sem.run_bind,Sem.run_pure,ar,List.map_toArray,List.map_cons,List.map_nil,hv,hrun]
      unfold execOp at hrun'
      rw[hrun']
      exact hK v' w1 (iR h1 (by simpa using hsz) i1 i2 i3)
     cases h
    cases h
   cases h
  cases h
end
end
section
section
variable {P:Program} {w0 w w':World} {O X:Nat->Prop} {ρ:Rho} {H:OH}
theorem nI {f : FuncId} (h : callable P f = true) : ∃ fn, P.funcs[f]? = some fn /\ fn.body.isNone = false /\ (fn.name == "runtime.NumGoroutine") = false := by
 unfold callable at h
 split at h
 ·rename_i fn hf
  simp only[Bool.and_eq_true,Bool.not_eq_true']at h
  exact⟨fn,hf,by cases hb:fn.body<;>simp_all,h.2⟩
 cases h
theorem mR {o:Oper} {c:Call} {f:FuncId} {e:Operand->Value} (ho:o.op= .call c) (hc:c.callee= .value (.func f)) (he:e (.func f)= .func (.func f) #[] #[]) (hf:callable P f=true):
  (execOp e o).run P w= .ok (.enter f (c.args.map e)) w:=by
 obtain⟨fn,h1,h2,h3⟩:=nI hf
 unfold execOp
 simp only[ho,resolve,hc,he,Deferred.ofValue,Sem.run_bind,Sem.run_pure,ar,invoke]
 unfold callFunc
 simp only[Sem.run_bind]
 show Result.andThen (.ok P w) _=_
 rw[ar,h1]
 simp only[h3,h2,Bool.false_eq_true,if_false]
 simp
theorem uL {o:Oper} {c:Call} {x:Operand} {f:FuncId} {e:Operand->Value} {vs:Array Value} (ho:o.op= .call c) (hc:c.callee= .value x) (he:e x= .func (.func f) #[] vs) (hf:callable P f=true):
  (execOp e o).run P w= .ok (.enter f (c.args.map e++vs)) w:=by
 obtain⟨fn,h1,h2,h3⟩:=nI hf
 unfold execOp
 simp only[ho,resolve,hc,he,Deferred.ofValue,Sem.run_bind,Sem.run_pure,ar,invoke]
 unfold callFunc
 simp only[Sem.run_bind]
 show Result.andThen (.ok P w) _=_
 rw[ar,h1]
 simp only[h3,h2,Bool.false_eq_true,if_false]
 simp
theorem tW {Y:Nat->Prop} {q:Option TV} {v:Value} {f:FuncId} {extra:List TV} (hq: ∀t,q=some t->t.rel ρ H Y w v) (h:rr q=some (f,extra)): ∃vs:Array Value,v= .func (.func f) #[] vs/\vs.size=extra.length/\ ∀(j:Nat) t,extra[j]?=some t-> ∃u:Value,vs[j]?=some u/\t.rel ρ H Y w u:=by
 unfold rr at h
 split at h
 ·rename_i f' cs
  injection h with h
  injection h with h h'
  subst h h'
  obtain⟨u,⟨vs,h1,h2,h3⟩,h4⟩:=hq _ rfl
  subst h1
  refine⟨vs,h4,by simpa using h2,fun j t hj=>?_⟩
  rw[aH]at hj
  obtain⟨y,hy,rfl⟩:=Option.map_eq_some_iff.1 hj
  obtain⟨u,u1,u2,u3⟩:=h3 j y hy
  exact⟨u,u1,u3⟩
 ·rename_i f' first caps
  split at h
  ·rename_i hc
   injection h with h
   injection h with h h'
   subst h h'
   have:=(dQ (hq _ rfl)).1
   simp only[Bool.and_eq_true,Array.isEmpty_iff]at hc
   obtain⟨rfl,rfl⟩:=hc
   exact⟨#[],this,rfl,fun j t hj=>by simp at hj⟩
  cases h
 cases h
theorem pX {ρ':Rho} {H':OH} {Y Y':Nat->Prop} {d:Nat} {x:AV} {v:Value} (h:bW x=true) (hr:x.rel ρ H Y w v):(bM d x).rel ρ' H' Y' w' v:=by
 cases x with
 |p x=>
  cases x with
  |raw u=>
   obtain⟨rfl,h1⟩:=dQ (ρ:=ρ) (H:=H) hr
   exact ee.raw _ h1
  |sl xs=>cases h
  |ptr cs=>cases h
 |sl a r off len=>cases h
 |ptr a r i j=>cases h
 |junk=>cases h
theorem Io {ρ':Rho} {H':OH} {Y Y':Nat->Prop} {d:Nat} {t:TV} {v:Value} (h:bV t=true) (hr:t.rel ρ H Y w v):(bQ d t).rel ρ' H' Y' w' v:=by
 have agg: ∀cs v,cs.all bW=true->dL ρ H Y w cs v->dL ρ' H' Y' w' (cs.map (bM d)) v:=fun cs v hc h=>by
  simp only[aq]at hc
  obtain⟨vs,h1,h2,h3⟩:=h
  refine⟨vs,h1,by simpa using h2,fun j x hx=>?_⟩
  rw[aH]at hx
  obtain⟨y,hy,rfl⟩:=Option.map_eq_some_iff.1 hx
  obtain⟨u,u1,u2,u3⟩:=h3 j y hy
  exact⟨u,u1,u2,pX (hc y (aE hy)) u3⟩
 cases t with
 |one x=>exact pX h hr
 |agg cs=>exact agg cs v h hr
 |fn f cs=>obtain⟨u,h1,h2⟩:=hr;exact⟨u,agg cs u h h1,h2⟩
 |tup ts=>
  simp only[bV,aq]at h
  obtain⟨vs,h1,h2,h3⟩:=hr
  refine⟨vs,h1,by simpa using h2,fun j b cs hx=>?_⟩
  rw[aH]at hx
  obtain⟨y,hy,hyy⟩:=Option.map_eq_some_iff.1 hx
  obtain⟨b',cs'⟩:=y
  simp at hyy
  obtain⟨rfl,rfl⟩:=hyy
  obtain⟨u,u1,u2⟩:=h3 j b' cs' hy
  have hall:=h (b',cs') (aE hy)
  refine⟨u,u1,?_⟩
  rcases u2 with⟨u2,u3⟩|⟨u2,x,rfl,u4⟩
  ·exact .inl ⟨u2,agg _ _ (by simpa only[aq] using hall) u3⟩
  exact .inr ⟨u2,_,rfl,pX (hall x (by simp)) u4⟩
theorem oK {it:fh P} {d:Nat} {s:AS} {a:Act} (h1:a.defers=[]) (hsz:a.tmps.size=s.tmps.length) (hinv:Inv w0 O X s.H ρ w) (htm:dN X ρ s a w) {t:TV} {F:List OObj} (ht:bQ d it.res.r=t) (hF:it.res.fam.map (renO d)=F) (hd:F≠[]->s.H d=[])
  {v:Value} {w1:World} {ρc:Rho} (hi:Inv w (fun _=>False) (if it.res.plain then(fun _=>False)else Xo X ρ s.H) (famH 0 it.res.fam) ρc w1) (hr:it.res.r.rel ρc (famH 0 it.res.fam) (Xo (if it.res.plain then(fun _=>False)else Xo X ρ s.H) ρc (famH 0 it.res.fam)) w1 v):
  iW w0 O X (jS s d t F) (a.put (some d) v) w1:=by
 have hext:Ext w w1:=⟨hi.keep.os,hi.keep.tape,hi.keep.output,hi.keep.size,fun k hk=>hi.keep.block k hk id⟩
 by_cases hpl:it.res.plain=true
 ·unfold CallRes.plain at hpl
  simp only[Bool.and_eq_true,List.isEmpty_iff]at hpl
  have hF0:F=[]:=by rw[<- hF,hpl.1];rfl
  subst hF0
  show iW w0 O X (s.put (some d) t) _ _
  refine iR h1 hsz (hinv.grow hext) (htm.grow hext) ?_
  rw[<- ht]
  exact Io hpl.2 hr
 have hpl':it.res.plain=false:=by simpa using hpl
 simp only[hpl',Bool.false_eq_true,if_false]at hi hr
 generalize hYY:Xo X ρ s.H=Y at hi hr
 have hYs: ∀b,Xo X ρ s.H b->Y b:=fun b hb=>by rw[<- hYY];exact hb
 by_cases hfam:it.res.fam=[]
 ·rw[hfam]at hi hr
  have hF0:F=[]:=by rw[<- hF,hfam];rfl
  subst hF0
  show iW w0 O X (s.put (some d) t) _ _
  refine iR h1 hsz (hinv.grow hext) (htm.grow hext) ?_
  rw[<- ht]
  refine nB hr (fun x u hx=>qS (fun r o' ho'=>by simp at ho') (fun b _ hb=> .inl (hYs b hb)) hx)
 have hF0:F≠[]:=by rw[<- hF];simpa using hfam
 have hres:jS s d t F=AS.put ⟨s.tmps,bD s.H d F⟩ (some d) t:=by
  unfold jS
  rw[if_neg (by simpa using hF0)]
 rw[hres]
 have hold: ∀r b n,ρc 0 r=some (b,n)->(∃o',it.res.fam[r]?=some o')->w.heap.size<=b:=fun r b n hr0 ⟨o',ho'⟩=>by
  have:=(hi.old 0 r o' b n (by simpa[famH] using ho') hr0).1
  rcases this with h|h
  ·exact h
  exact h.elim
 have hff: ∀r b n,(if r<it.res.fam.length then ρc 0 r else none)=some (b,n)->(∃o',it.res.fam[r]?=some o')/\ρc 0 r=some (b,n):=fun r b n h=>by
  split at h
  ·rename_i hlt;exact⟨⟨_,List.getElem?_eq_getElem hlt⟩,h⟩
  cases h
 have hnew: ∀(r b n:Nat),(if r<it.res.fam.length then ρc 0 r else none)=some (b,n)->w.heap.size<=b:=fun r b n h=>hold r b n (hff r b n h).2 (hff r b n h).1
 have hmap: ∀x u,AV.rel ρc (famH 0 it.res.fam) (Xo Y ρc (famH 0 it.res.fam)) w1 x u->AV.rel (newρ ρ d fun r=>if r<it.res.fam.length then ρc 0 r else none) (bD s.H d F) (Xo X (newρ ρ d fun r=>if r<it.res.fam.length then ρc 0 r else none) (bD s.H d F)) w1 (bM d x) u:=fun x u hx=>by
  refine qS (fun r o' ho'=>?_) (fun b _ hb=>?_) hx
  ·rw[dr,newρ_eq,if_pos (List.getElem?_eq_some_iff.1 ho').1,<- hF,aH,ho']
   exact⟨rfl,rfl⟩
  rcases hb with hb|⟨x',y',o',n,g1,g2⟩
  ·exact .inl (hYs b (.inl hb))
  by_cases hxd:x'=d
  ·subst hxd
   rw[newρ_eq]at g2
   obtain⟨⟨o2,ho2⟩,g3⟩:=hff y' b n g2
   exact .inr ⟨0,y',o2,n,by simpa[famH] using ho2,g3⟩
  rw[cz hxd]at g1
  rw[newρ_ne hxd]at g2
  exact .inl (hYs b (.inr ⟨x',y',o',n,g1,g2⟩))
 refine vV h1 hsz hinv htm hext (hd hF0) (fun r=>if r<it.res.fam.length then ρc 0 r else none) hnew (fun r r' b n n' g g'=>?_) (fun r o' ho'=>?_) (fun r o' ho'=>?_) ?_
 ·obtain⟨⟨o1,ho1⟩,g1⟩:=hff r b n g
  obtain⟨⟨o2,ho2⟩,g2⟩:=hff r' b n' g'
  exact(hi.inj 0 r 0 r' o1 o2 b n n' (by simpa[famH] using ho1) (by simpa[famH] using ho2) g1 g2).2
 ·rw[<- hF,aH]at ho'
  obtain⟨o2,ho2,rfl⟩:=Option.map_eq_some_iff.1 ho'
  intro e he x hx
  simp only[renO,au]at he
  obtain⟨e',he',rfl⟩:=he
  simp only[au]at hx
  obtain⟨x',hx',rfl⟩:=hx
  cases x'<;>first|rfl|trivial
 ·rw[<- hF,aH]at ho'
  obtain⟨o2,ho2,rfl⟩:=Option.map_eq_some_iff.1 ho'
  have hobj:=hi.objs 0 r o2 (by simpa[famH] using ho2)
  obtain⟨z1,z2,z3⟩:=hobj
  refine⟨fun e he=>?_,z2,?_⟩
  ·simp only[renO,au]at he
   obtain⟨e',he',rfl⟩:=he
   rw[List.length_map];exact z1 e' he'
  rw[newρ_eq,if_pos (List.getElem?_eq_some_iff.1 ho2).1]
  cases hr0:ρc 0 r with
  |none=>rw[hr0]at z3;simp[renO,z3]
  |some bc=>
   obtain⟨b,n⟩:=bc
   rw[hr0]at z3
   obtain⟨cells,p1,p2,p3,p4,p5⟩:=z3
   refine⟨cells,p1,p2,by simpa[renO] using p3,p4,fun i e j z he hz=>?_⟩
   simp only[renO,aH]at he
   obtain⟨e',he',rfl⟩:=Option.map_eq_some_iff.1 he
   rw[aH]at hz
   obtain⟨z',hz',rfl⟩:=Option.map_eq_some_iff.1 hz
   obtain⟨u,u1,u2,u3⟩:=p5 i e' j z' he' hz'
   exact⟨u,u1,u2,hmap z' u u3⟩
 rw[<- ht]
 exact nB hr hmap
def yG (P:Program) (f:FuncId) (args:List TV) (res:CallRes) (w:World):Prop:=
 callable P f=true/\ ∀(X:Nat->Prop) (vs:Array Value),(∀b,X b->b<w.heap.size)->vs.size=args.length->
  (∀(j:Nat) t,args[j]?=some t-> ∃v:Value,vs[j]?=some v/\t.rel (fun _ _=>none) (fun _=>[]) X w v)->
  Calls P f vs w fun e w'=> ∃v,e= .returned v/\ ∃ρ:Rho,
   Inv w (fun _=>False) X (famH 0 res.fam) ρ w'/\res.r.rel ρ (famH 0 res.fam) (Xo X ρ (famH 0 res.fam)) w' v
def lK (P:Program) (items:List (fh P)) (w:World):Prop:= ∀it∈items,yG P it.f it.args it.res w
theorem iL.at {items:List (fh P)} (h:iL P items) (w:World):lK P items w:=fun it hit=>⟨(h it hit).1,fun X vs=>(h it hit).2 X w vs⟩
theorem GY {items:List (fh P)} {ow:List Nat} {i d:Nat} {s:AS} {a:Act} (hI:lK P items w) (h1:a.defers=[]) (hsz:a.tmps.size=s.tmps.length) (hinv:Inv w0 O X s.H ρ w) (htm:dN X ρ s a w) {o:Oper} {c:Call} {f:FuncId} (ho:o.op= .call c) (hcal:c.callee= .value (.func f))
  {t:TV} {F:List OObj} (h:bI P items ow i d s.ev s.H o.op=some (t,F)) (hd:F≠[]->s.H d=[]) (hdst:o.dst=some d) {K:Act->World->Prop} {Q:Exit->Act->World->Prop}
  (hK: ∀v w',iW w0 O X (jS s d t F) (a.put o.dst v) w'->K (a.put o.dst v) w'):o.wp P a w K Q:=by
 rw[ho]at h
 simp only[bI,hcal]at h
 split at h
 ·rename_i it ts hit hts
  split at h
  ·rename_i hc
   obtain⟨c1,c2,c3,_⟩:=hc
   injection h with h
   injection h with ht hF
   subst c1
   obtain⟨e1,e2⟩:=fw hts
   obtain⟨hcallable,hcon⟩:=hI it (List.mem_of_find?_eq_some hit)
   have hrun:=mR (w:=w) ho hcal (e:=a.eval) rfl hcallable
   unfold Oper.wp
   rw[hrun]
   simp only[Oper.upon]
   simp only[aq]at c3
   have hZ: ∀b,(if it.res.plain then(fun _=>False)else Xo X ρ s.H:Nat->Prop) b->Xo X ρ s.H b:=fun b hb=>by
    split at hb
    ·exact hb.elim
    exact hb
   have hXlt: ∀b,Xo X ρ s.H b->b<w.heap.size:=fun b hb=>by
    rcases hb with hb|⟨x,y,o',n,g1,g2⟩
    ·exact hinv.bar b hb
    exact dW (hinv.objs x y o' g1) g2
   refine(hcon (if it.res.plain then(fun _=>False)else Xo X ρ s.H) (c.args.map a.eval) (fun b hb=>hXlt b (hZ b hb)) ?_ ?_).mono ?_
   ·rw[<- c2];simp[e1]
   ·intro j u hu
    rw[<- c2,aH]at hu
    obtain⟨t0,ht0,rfl⟩:=Option.map_eq_some_iff.1 hu
    obtain⟨x,hx,hxt⟩:=e2 j t0 ht0
    refine⟨a.eval x,by rw[Array.getElem?_map];simp at hx;rw[hx];rfl,?_⟩
    exact oY hinv.objs hZ (fun hfr b hb=>by rw[hfr]at hb;exact hb) (eH htm x t0 hxt) (c3 t0 (aE ht0))
   rintro e w1 ⟨v,rfl,ρc,hi,hr⟩
   show K (a.put o.dst v) w1
   refine hK v w1 ?_
   rw[hdst]
   exact oK h1 hsz hinv htm ht hF hd hi hr
  cases h
 cases h
theorem D3 {items:List (fh P)} {ow:List Nat} {i d:Nat} {s:AS} {a:Act} (hI:lK P items w) (h1:a.defers=[]) (hsz:a.tmps.size=s.tmps.length) (hinv:Inv w0 O X s.H ρ w) (htm:dN X ρ s a w) {o:Oper} {c:Call} {k:Tmp} (ho:o.op= .call c) (hcal:c.callee= .value (.tmp k))
  {t:TV} {F:List OObj} (h:bI P items ow i d s.ev s.H o.op=some (t,F)) (hd:F≠[]->s.H d=[]) (hdst:o.dst=some d) {K:Act->World->Prop} {Q:Exit->Act->World->Prop}
  (hK: ∀v w',iW w0 O X (jS s d t F) (a.put o.dst v) w'->K (a.put o.dst v) w'):o.wp P a w K Q:=by
 rw[ho]at h
 simp only[bI,hcal]at h
 split at h
 ·rename_i f extra it ts hcl hit hts
  split at h
  ·rename_i hc
   obtain⟨c1,c2,c3,_⟩:=hc
   injection h with h
   injection h with ht hF
   subst c1
   obtain⟨e1,e2⟩:=fw hts
   obtain⟨us,k1,k2,k3⟩:=tW (v:=a.eval (.tmp k)) (fun t0 ht0=>eH htm (.tmp k) t0 ht0) hcl
   obtain⟨hcallable,hcon⟩:=hI it (List.mem_of_find?_eq_some hit)
   have hrun:=uL (w:=w) ho hcal (e:=a.eval) k1 hcallable
   unfold Oper.wp
   rw[hrun]
   simp only[Oper.upon]
   simp only[aq]at c3
   have hZ: ∀b,(if it.res.plain then(fun _=>False)else Xo X ρ s.H:Nat->Prop) b->Xo X ρ s.H b:=fun b hb=>by
    split at hb
    ·exact hb.elim
    exact hb
   have hXlt: ∀b,Xo X ρ s.H b->b<w.heap.size:=fun b hb=>by
    rcases hb with hb|⟨x,y,o',n,g1,g2⟩
    ·exact hinv.bar b hb
    exact dW (hinv.objs x y o' g1) g2
   refine(hcon (if it.res.plain then(fun _=>False)else Xo X ρ s.H) (c.args.map a.eval++us) (fun b hb=>hXlt b (hZ b hb)) ?_ ?_).mono ?_
   ·rw[<- c2];simp[e1,k2]
   ·intro j u hu
    rw[<- c2,aH]at hu
    obtain⟨t0,ht0,rfl⟩:=Option.map_eq_some_iff.1 hu
    have hmem:=c3 t0 (aE ht0)
    by_cases hj:j<ts.length
    ·rw[List.getElem?_append_left hj]at ht0
     obtain⟨x,hx,hxt⟩:=e2 j t0 ht0
     refine⟨a.eval x,by rw[Array.getElem?_append_left (by simp at e1⊢;omega),Array.getElem?_map];simp at hx;rw[hx];rfl,?_⟩
     exact oY hinv.objs hZ (fun hfr b hb=>by rw[hfr]at hb;exact hb) (eH htm x t0 hxt) hmem
    rw[List.getElem?_append_right (by omega)]at ht0
    obtain⟨v,v1,v2⟩:=k3 _ t0 ht0
    refine⟨v,by rw[Array.getElem?_append_right (by simp at e1⊢;omega)];simp at e1⊢;rw[<- e1];exact v1,?_⟩
    exact oY hinv.objs hZ (fun hfr b hb=>by rw[hfr]at hb;exact hb) v2 hmem
   rintro e w1 ⟨v,rfl,ρc,hi,hr⟩
   show K (a.put o.dst v) w1
   refine hK v w1 ?_
   rw[hdst]
   exact oK h1 hsz hinv htm ht hF hd hi hr
  cases h
 cases h
theorem Ce {items:List (fh P)} {ow:List Nat} {i d:Nat} {s:AS} {a:Act} (h1:a.defers=[]) (hsz:a.tmps.size=s.tmps.length) (hinv:Inv w0 O X s.H ρ w) (htm:dN X ρ s a w) {o:Oper} {c:Call} (ho:o.op= .call c) (hcal:c.callee= .builtin .append)
  {t:TV} {F:List OObj} (h:bI P items ow i d s.ev s.H o.op=some (t,F)) (hd:F≠[]->s.H d=[]) (hdst:o.dst=some d) {K:Act->World->Prop} {Q:Exit->Act->World->Prop}
  (hK: ∀v w',iW w0 O X (jS s d t F) (a.put o.dst v) w'->K (a.put o.dst v) w'):o.wp P a w K Q:=by
 rw[ho]at h
 simp only[bI,hcal]at h
 obtain⟨callee,⟨args⟩,⟨argTypes⟩⟩:=c
 simp only at hcal
 subst hcal
 split at h
 ·rename_i sx x ty ty' hargs hty
  simp only at hargs hty
  subst hargs hty
  split at h
  ·rename_i news e hs hx hsl
   split at h
   ·rename_i z sz by_ hz hszo hby
    split at h
    ·rename_i hc
     obtain⟨rfl,c7,c8,c9,hpos,c10⟩:=hc
     injection h with h
     injection h with ht hF
     subst ht hF
     obtain⟨tx,htx,hnews⟩:=Option.bind_eq_some_iff.1 hx
     obtain⟨us,hsrc⟩:=sd hinv.objs hnews (eH htm x tx htx) c10 hpos
     have hsv:=(dQ (eH htm sx _ hs)).1
     obtain⟨⟨A,cc,hv,hrd⟩,hul,hone,hpu,hcell⟩:=id hsrc
     obtain⟨ti,zv,hti,hzv,hzc⟩:=kb hz
     obtain⟨ti',hti',hsz'⟩:=py hszo
     rw[hti]at hti';injection hti' with hti';subst hti'
     obtain⟨ti',hti',hby'⟩:=rq hby
     rw[hti]at hti';injection hti' with hti';subst hti'
     obtain⟨v',w1,hrun,hown',hg,hblk⟩:=kR (P:=P) w 0 ty o.type e zv sz by_ (fH hsl) (by rw[hti];simp[hzv,hsz',hby']) (by rw[<- c9,<- hzc];simp) hpos (.slice none 0 0) 0 [] (World.ownsRow_nil _ _ _ _) A news.length cc us hrd hul hone (by unfold maxLen;omega) (by rw[Nat.zero_add];exact c7) (Nat.zero_le _)
     have hrun':(execOp a.eval o).run P w= .ok (.value v') w1:=by
      unfold execOp
      simp only[ho,resolve,invoke,builtin,Sem.run_bind,Sem.run_pure,ar,List.map_toArray,List.map_cons,List.map_nil,hv,hsv,hrun]
     unfold Oper.wp
     rw[hrun']
     rw[Nat.zero_add,List.nil_append]at hown'
     refine hK v' w1 ?_
     rw[hdst]
     exact yS h1 hsz hinv htm (hd (by simp)) hpos c10 hsrc hown' hg hblk
    cases h
   cases h
  cases h
 cases h
theorem AT {items:List (fh P)} {ow:List Nat} {i d:Nat} {s:AS} {a:Act} (hI:lK P items w) (h1:a.defers=[]) (hsz:a.tmps.size=s.tmps.length) (hinv:Inv w0 O X s.H ρ w) (htm:dN X ρ s a w) {o:Oper}
  {t:TV} {F:List OObj} (h:bI P items ow i d s.ev s.H o.op=some (t,F)) (hd:F≠[]->s.H d=[]) (hdst:o.dst=some d) {K:Act->World->Prop} {Q:Exit->Act->World->Prop}
  (hK: ∀v w',iW w0 O X (jS s d t F) (a.put o.dst v) w'->K (a.put o.dst v) w'):o.wp P a w K Q:=by
 have fin:(∃v w',(execOp a.eval o).run P w= .ok (.value v) w'/\iW w0 O X (jS s d t F) (a.put (some d) v) w')->o.wp P a w K Q:=fun⟨v,w1,g1,g2⟩=>by
  unfold Oper.wp
  rw[g1]
  exact hK v w1 (by rw[hdst];exact g2)
 have ne: ∀{e:OObj} {l:List OObj},e::l≠[]:=fun{e l}=>by simp
 cases ho:o.op
 case box e x=>
  refine fin (Eh h1 hsz hinv htm ho h (hd ?_))
  rw[ho]at h
  simp only[bI]at h
  split at h
  ·split at h
   ·injection h with h;injection h with h h';rw[<- h'];simp
   cases h
  cases h
 case alloc e=>
  refine fin (zb h1 hsz hinv htm ho h (hd ?_))
  rw[ho]at h
  simp only[bI]at h
  split at h
  ·split at h
   ·injection h with h;injection h with h h';rw[<- h'];simp
   cases h
  cases h
 case makeSlice ty l c=>
  refine fin (Cq h1 hsz hinv htm ho h (hd ?_))
  rw[ho]at h
  simp only[bI]at h
  split at h
  ·split at h
   ·split at h
    ·injection h with h;injection h with h h';rw[<- h'];simp
    cases h
   cases h
  cases h
 case buildSlice ty n parts=>exact fin (Ei h1 hsz hinv htm ho h hd)
 case call c=>
  cases hcal:c.callee with
  |value x=>
   cases x with
   |func f=>exact GY hI h1 hsz hinv htm ho hcal h hd hdst hK
   |tmp k=>exact D3 hI h1 hsz hinv htm ho hcal h hd hdst hK
   |const k=>rw[ho]at h;simp only[bI,hcal]at h;cases h
   |global k=>rw[ho]at h;simp only[bI,hcal]at h;cases h
  |invoke r m=>rw[ho]at h;simp only[bI,hcal]at h;cases h
  |builtin b=>
   cases b
   case append=>exact Ce h1 hsz hinv htm ho hcal h hd hdst hK
   all_goals (rw[ho]at h;simp only[bI,hcal]at h;cases h)
 all_goals (rw[ho]at h;simp only[bI]at h;cases h)
theorem wS {items:List (fh P)} {ow:List Nat} {i:Nat} {s s':AS} {a:Act} (hI:lK P items w) (hrel:iW w0 O X s a w) {o:Oper} (h:gH P items ow i o s=some s') {K:Act->World->Prop} {Q:Exit->Act->World->Prop}
  (hK: ∀v w',iW w0 O X s' (a.put o.dst v) w'->K (a.put o.dst v) w'):o.wp P a w K Q:=by
 obtain⟨h1,hsz,ρ,hinv,htm⟩:=hrel
 have htm:dN X ρ s a w:=htm
 unfold gH at h
 split at h
 ·obtain⟨t,ht,rfl⟩:=Option.map_eq_some_iff.1 h
  obtain⟨v,g1,g2⟩:=zh (eH htm) ht
  unfold Oper.wp
  rw[g1]
  exact hK v w (iR h1 hsz hinv htm g2)
 split at h
 ·obtain⟨t,ht,rfl⟩:=Option.map_eq_some_iff.1 h
  obtain⟨v,g1,g2⟩:=zm (eH htm) hinv.objs ht
  unfold Oper.wp
  rw[g1]
  exact hK v w (iR h1 hsz hinv htm g2)
 split at h
 ·rename_i q hq
  injection h with h
  subst h
  exact zg h1 hsz hinv htm hq hK
 split at h
 ·cases h
 rename_i d hd
 split at h
 ·rename_i t ht
  injection h with h
  subst h
  refine AT hI h1 hsz hinv htm ht (fun hh=>absurd rfl hh) hd ?_
  rw[hd]at hK⊢
  exact hK
 ·rename_i t F hF ht
  split at h
  ·rename_i hH
   injection h with h
   subst h
   refine AT hI h1 hsz hinv htm ht (fun _=>hH) hd ?_
   have hres:jS s d t F=AS.put ⟨s.tmps,bD s.H d F⟩ (some d) t:=by
    unfold jS
    rw[if_neg (by intro h;exact hF (List.isEmpty_iff.1 h))]
   rw[hres,hd]
   rw[hd]at hK
   exact hK
  cases h
 cases h
theorem qn {items:List (fh P)} {ow:List Nat} {ops:Array Oper} {i:Nat} {s s':AS} {a:Act} (hI:lK P items w) (hrel:iW w0 O X s a w) {o:Oper} (h:dR P items ow ops i o s=some s') {K:Act->World->Prop} {Q:Exit->Act->World->Prop}
  (hK: ∀v w',iW w0 O X s' (a.put o.dst v) w'->K (a.put o.dst v) w'):
  if Region.wanted o (yielded ops a.tmps)then o.wp P a w K Q else K (a.put o.dst undef) w:=by
 unfold dR at h
 split at h
 ·rename_i hg
  rw[if_pos (by simp[Region.wanted,hg])]
  exact wS hI hrel h hK
 rename_i g want hg
 split at h
 ·cases h
 rename_i d hd
 have hrel':=hrel
 obtain⟨h1,hsz,ρ,hinv,htm⟩:=hrel
 split at h
 ·rename_i b hb
  obtain⟨v,hv,hr⟩:=htm d _ hb
  have hvb:=(dQ hr).1
  have hy:yielded ops a.tmps g=some b:=by
   unfold yielded
   rw[hd]
   simp only[Option.bind_some,hv,hvb]
  split at h
  ·rename_i hbw
   rw[if_pos (by simp[Region.wanted,hg,hy,hbw])]
   exact wS hI hrel' h hK
  rename_i hbw
  rw[if_neg (by simp[Region.wanted,hg,hy,hbw])]
  injection h with h
  subst h
  exact hK undef w (iR h1 hsz hinv htm jb)
 ·rename_i hb
  obtain⟨v,hv,vs,hr,hr2,_⟩:=htm d _ hb
  have hy:yielded ops a.tmps g=none:=by
   unfold yielded
   rw[hd]
   simp only[Option.bind_some,hv,hr]
  rw[if_neg (by simp[Region.wanted,hg,hy])]
  injection h with h
  subst h
  exact hK undef w (iR h1 hsz hinv htm jb)
 cases h
theorem jT {items:List (fh P)} {ow:List Nat} {ops:Array Oper} {i:Nat} {s s':AS} {a:Act} (hI:iL P items) (hrel:iW w0 O X s a w) {o:Oper} (h:dR P items ow ops i o s=some s') {K:Act->World->Prop} {Q:Exit->Act->World->Prop}
  (hK: ∀v w',iW w0 O X s' (a.put o.dst v) w'->K (a.put o.dst v) w'):
  if Region.wanted o (yielded ops a.tmps)then o.wp P a w K Q else K (a.put o.dst undef) w:=qn (hI.at w) hrel h hK
end
end
section
def da (P:Program) (c:Code) (Q:Exit->AS->Prop) (s:AS):Prop:=
 ∀(w0:World) (O X:Nat->Prop) (a:Act) (w:World),iW w0 O X s a w->c.wp P (fun e a' w'=> ∃s',Q e s'/\iW w0 O X s' a' w') a w
def eg (s s':AS):Prop:= ∀(w0:World) (O X:Nat->Prop) (a:Act) (w:World),iW w0 O X s a w->iW w0 O X s' a w
def mq (next:AS->Prop) (Q:Exit->AS->Prop):Exit->AS->Prop
 | .normal,s=>next s
 |e,s=>Q e s
def nX (id:Nat) (Q:Exit->AS->Prop):Exit->AS->Prop
 | .exit id',s=>if id'=id then Q .normal s else Q (.exit id') s
 |e,s=>Q e s
section
variable {P:Program} {s s':AS} {Q:Exit->AS->Prop}
theorem eg.refl (s:AS):eg s s:=fun _ _ _ _ _ h=>h
theorem eg.trans {s1 s2 s3:AS} (h:eg s1 s2) (k:eg s2 s3):eg s1 s3:=fun _ _ _ _ _ r=>k _ _ _ _ _ (h _ _ _ _ _ r)
theorem da.weak {c:Code} (h:eg s s') (k:da P c Q s'):da P c Q s:=fun _ _ _ _ _ r=>k _ _ _ _ _ (h _ _ _ _ _ r)
theorem da.mono {c:Code} {Q':Exit->AS->Prop} (h:da P c Q s) (k: ∀e s',Q e s'->Q' e s'):da P c Q' s:=fun _ _ _ _ _ r=>
 wp_mono (h _ _ _ _ _ r) fun _ _ _ ⟨s',h1,h2⟩=>⟨s',k _ _ h1,h2⟩
theorem bi (h:Q .normal s):da P .skip Q s:=fun _ _ _ _ _ r=>wp_skip ⟨s,h,r⟩
theorem ck {id:Nat} (h:Q (.exit id) s):da P (.exit id) Q s:=fun _ _ _ _ _ r=>wp_exit ⟨s,h,r⟩
theorem bC (h:Q .ret s):da P .ret Q s:=fun _ _ _ _ _ r=>wp_ret ⟨s,h,r⟩
theorem aP {x y:Code} (h:da P x (mq (da P y Q) Q) s):da P (.seq x y) Q s:=fun _ _ _ _ _ r=>
 wp_seq (wp_mono (h _ _ _ _ _ r) fun e a w ⟨s',h1,h2⟩=>by
  cases e with
  |normal=>exact h1 _ _ _ _ _ h2
  |_=>exact⟨s',h1,h2⟩)
theorem bA {id:Nat} {x:Code} (h:da P x (nX id Q) s):da P (.block id x) Q s:=fun _ _ _ _ _ r=>
 wp_block (wp_mono (h _ _ _ _ _ r) fun e a w ⟨s',h1,h2⟩=>by
  cases e with
  |exit id'=>
   simp only[nX]at h1
   simp only[Exit.inBlock]
   split at h1
   ·rename_i hid;rw[if_pos hid];exact⟨s',h1,h2⟩
   rename_i hid;rw[if_neg hid];exact⟨s',h1,h2⟩
  |_=>exact⟨s',h1,h2⟩)
theorem iA {c:Operand} {x y:Code} {b:Bool} (hc:s.ev c=some (.raw (.bool b))) (ht:b=true->da P x Q s) (hf:b=false->da P y Q s):da P (.cond c x y) Q s:=fun _ _ _ _ _ r=>by
 obtain⟨h1,hsz,ρ,hinv,htm⟩:=id r
 have hb:=(dQ (eH htm c _ hc)).1
 exact wp_cond_split hb (fun h=>ht h _ _ _ _ _ r) (fun h=>hf h _ _ _ _ _ r)
theorem bJ {P:Program} {s:AS} {Q:Exit->AS->Prop} {c:Operand} {x y:Code} {v:Bool} (hc:s.ev c=some (.raw (.bool v))) (ht:da P x Q s) (hf:v=false->False:=by intro h;simp at h<;>omega):da P (.cond c x y) Q s:=iA hc (fun _=>ht) (fun h=>(hf h).elim)
theorem bL {P:Program} {s:AS} {Q:Exit->AS->Prop} {c:Operand} {x y:Code} {v:Bool} (hc:s.ev c=some (.raw (.bool v))) (ht:da P y Q s) (hf:v=true->False:=by intro h;simp at h<;>omega):da P (.cond c x y) Q s:=iA hc (fun h=>(hf h).elim) (fun _=>ht)
theorem dB {p:Nat->Prop} (h: ∃n,p n): ∃n,p n/\ ∀m,p m->n<=m:=by
 obtain⟨n,hn⟩:=h
 induction n using Nat.strongRecOn with
 |_ n ih=>
  by_cases hm: ∃m,m<n/\p m
  ·obtain⟨m,h1,h2⟩:=hm;exact ih m h1 h2
  exact⟨n,hn,fun m hp=>Nat.le_of_not_lt fun hlt=>hm ⟨m,hlt,hp⟩⟩
theorem wI {G:Type} (St:G->AS) (μ:G->Nat) (g0:G) {c:Code} (h0:eg s (St g0))
  (round: ∀g,da P c (mq (fun s'=> ∃g',μ g'<μ g/\eg s' (St g')) Q) (St g)):da P (.loop c) Q s:=fun w0 O X a w r=>by
 classical
 let p:Act->World->Nat->Prop:=fun a w n=> ∃g,μ g=n/\iW w0 O X (St g) a w
 let m:Act->World->Nat:=fun a w=>if h: ∃n,p a w n then Classical.choose (dB h)else 0
 refine wp_loop (fun a w=> ∃n,p a w n) m ⟨_,g0,rfl,h0 _ _ _ _ _ r⟩ ?_
 intro a w hI
 have hm:m a w=Classical.choose (dB hI):=dif_pos hI
 obtain⟨hp,hleast⟩:=Classical.choose_spec (dB hI)
 rw[<- hm]at hp
 obtain⟨g,hg,hr⟩:=hp
 refine wp_mono (round g _ _ _ _ _ hr) fun e a' w' ⟨s',h1,h2⟩=>?_
 cases e with
 |normal=>
  obtain⟨g',hlt,hw⟩:=h1
  have hr':=hw _ _ _ _ _ h2
  have hI': ∃n,p a' w' n:=⟨_,g',rfl,hr'⟩
  refine⟨hI',?_⟩
  have hm':m a' w'=Classical.choose (dB hI'):=dif_pos hI'
  obtain⟨_,hl'⟩:=Classical.choose_spec (dB hI')
  have:=hl' (μ g') ⟨g',rfl,hr'⟩
  rw[hm']
  omega
 |_=>exact⟨s',h1,h2⟩
theorem j6 {items:List (fh P)} (hI:iL P items) {ow:List Nat} {ops:Array Oper} {w0:World} {O X:Nat->Prop} {Q:Exit->Act->World->Prop}: ∀(l:List Oper) (k:Nat) (s s':AS) (a:Act) (w:World),(∀(j:Nat) o,l[j]?=some o->ops[k+j]?=some o)->
  jG P items ow ops (l.zipIdx k) s=some s'->iW w0 O X s a w->(∀a' w',iW w0 O X s' a' w'->Q .normal a' w')->wpOps P ops Q (List.range' k l.length) a w
 |[],k,s,s',a,w,_,h,r,hQ=>by
  simp only[List.zipIdx_nil,jG]at h
  injection h with h
  subst h
  exact hQ a w r
 |o::l,k,s,s',a,w,hl,h,r,hQ=>by
  simp only[List.zipIdx_cons,jG]at h
  split at h
  ·rename_i s1 hs1
   simp only[List.length_cons,List.range'_succ,wpOps]
   have ho:ops[k]?=some o:=by have:=hl 0 o rfl;simpa using this
   rw[ho]
   simp only
   have:=jT (Q:=Q) hI r hs1 (K:=wpOps P ops Q (List.range' (k+1) l.length)) (fun v w' hr=>j6 hI l (k+1) s1 s' _ _ (fun j o hj=>by have:=hl (j+1) o (by simpa using hj);rwa[show k+(j+1)=k+1+j by omega]at this) h hr hQ)
   split at this
   ·rename_i hw;rw[if_pos hw];exact .inl this
   rename_i hw;rw[if_neg hw];exact this
  cases h
theorem yO (items:List (fh P)) (hI:iL P items) (ow:List Nat) {id:Nat} {ops:Array Oper} (h:jG P items ow ops ops.toList.zipIdx s=some s') (hQ:Q .normal s'):da P (.region id ops false) Q s:=fun w0 O X a w r=>by
 refine wp_region ?_
 rw[List.range_eq_range']
 have:=j6 hI (Q:=fun e a' w'=> ∃s',Q e s'/\iW w0 O X s' a' w') ops.toList 0 s s' a w (fun j o hj=>by simpa using hj) h r (fun a' w' hr=>⟨s',hQ,hr⟩)
 simpa using this
end
/-! ### The end of a function -/
def bH (P:Program) (s:AS):ResultVar->Option TV
 | .tmp t=>s.tmps[t]?
 | .cell a t=>match s.tmps[a]? with
  |some (.one (.ptr fa r i j))=>match(s.H fa)[r]? with
   |some o=>match o.elems[i]? with
    |some e=>packT P t (e.drop j)
    |none=>none
   |none=>none
  |_=>none
def dF:TV->Option (Bool×List AV)
 | .one x=>some (false,[x])
 | .agg cs=>some (true,cs)
 | .tup _=>none
 | .fn _ _=>none
def eP (P:Program) (s:AS):List ResultVar->Option (List (Bool×List AV))
 |[]=>some []
 |r::l=>match(bH P s r).bind dF,eP P s l with
  |some t,some ts=>some (t::ts)
  |_,_=>none
def cH (P:Program) (s:AS):List ResultVar->Option TV
 |[r]=>bH P s r
 |rs=>(eP P s rs).map TV.tup
section
variable {P:Program} {w0 w:World} {O X:Nat->Prop} {ρ:Rho} {s:AS}
def si (tmps:Array Value):ResultVar->Sem Value
 | .tmp t=>pure (tmps.getD t undef)
 | .cell ad t=>do loadVar t (<- asAddr (tmps.getD ad undef))
theorem zR (fn:Func) (tmps:Array Value):results fn tmps=(do let vs<- fn.results.mapM (si tmps);pure (if h:vs.size=1 then vs[0]else .tuple vs)):=by
 have h: ∀(f g:ResultVar->Sem Value),f=g->(do let vs<- fn.results.mapM f;pure (if h:vs.size=1 then vs[0]else .tuple vs):Sem Value)=(do let vs<- fn.results.mapM g;pure (if h:vs.size=1 then vs[0]else .tuple vs)):=fun f g h=>by rw[h]
 unfold results
 apply h
 funext x
 cases x<;>rfl
theorem pm {a:Act} (hinv:Inv w0 O X s.H ρ w) (htm:dN X ρ s a w) {rv:ResultVar} {t:TV} (h:bH P s rv=some t):
  ∃v,(si a.tmps rv).run P w= .ok v w/\t.rel ρ s.H (Xo X ρ s.H) w v:=by
 cases rv with
 |tmp k=>
  simp only[bH]at h
  obtain⟨v,h1,h2⟩:=htm k t h
  exact⟨v,by simp[si,Array.getD_eq_getD_getElem?,h1],h2⟩
 |cell ad ty=>
  simp only[bH]at h
  split at h
  ·rename_i fa r i j hk
   obtain⟨v,h1,o,b,c,g1,g2,g3,g4⟩:=htm ad _ hk
   rw[g1]at h
   simp only at h
   split at h
   ·rename_i e he
    obtain⟨u,u1,u2⟩:=lZ h (lT (uB (hinv.objs fa r o g1) g2 he) j)
    refine⟨u,?_,u2⟩
    simp only[si,Array.getD_eq_getD_getElem?,h1,Option.getD_some,g4,asAddr,Sem.run_bind,Sem.run_pure,ar,u1]
   cases h
  cases h
theorem sH {a:Act} (hinv:Inv w0 O X s.H ρ w) (htm:dN X ρ s a w): ∀{rs:List ResultVar} {ts:List (Bool×List AV)},eP P s rs=some ts->
  ∃vs:List Value,(rs.mapM (si a.tmps)).run P w= .ok vs w/\vs.length=ts.length/\
   ∀(j:Nat) b cs,ts[j]?=some (b,cs)-> ∃u:Value,vs[j]?=some u/\((b=true/\dL ρ s.H (Xo X ρ s.H) w cs u)\/(b=false/\ ∃x,cs=[x]/\x.rel ρ s.H (Xo X ρ s.H) w u))
 |[],ts,h=>by
  simp only[eP]at h
  injection h with h
  subst h
  exact⟨[],by simp,rfl,fun j b cs h=>by simp at h⟩
 |r::l,ts,h=>by
  simp only[eP]at h
  split at h
  ·rename_i t ts' h1 h2
   injection h with h
   subst h
   obtain⟨tv,htv,hp⟩:=Option.bind_eq_some_iff.1 h1
   obtain⟨v,v1,v2⟩:=pm hinv htm htv
   obtain⟨vs,g1,g2,g3⟩:=sH hinv htm h2
   refine⟨v::vs,?_,by simp[g2],fun j b cs hj=>?_⟩
   ·rw[List.mapM_cons,Sem.run_bind,v1,ar,Sem.run_bind,g1];rfl
   cases j with
   |succ j=>simp at hj;obtain⟨u,u1,u2⟩:=g3 j b cs hj;exact⟨u,by simpa using u1,u2⟩
   |zero=>
    simp at hj
    subst hj
    refine⟨v,rfl,?_⟩
    cases tv with
    |one x=>simp[dF]at hp;obtain⟨rfl,rfl⟩:=hp;exact .inr ⟨rfl,x,rfl,v2⟩
    |agg cs=>simp[dF]at hp;obtain⟨rfl,rfl⟩:=hp;exact .inl ⟨rfl,v2⟩
    |tup ts=>cases hp
    |fn f cs=>cases hp
  cases h
theorem l9 {a:Act} (hinv:Inv w0 O X s.H ρ w) (htm:dN X ρ s a w) {fn:Func} {t:TV} (h:cH P s fn.results.toList=some t): ∃v,(results fn a.tmps).run P w= .ok v w/\t.rel ρ s.H (Xo X ρ s.H) w v:=by
 rw[zR,Array.mapM_eq_mapM_toList]
 generalize hrs:fn.results.toList=rs at h
 unfold cH at h
 split at h
 ·rename_i r
  obtain⟨v,v1,v2⟩:=pm hinv htm h
  refine⟨v,?_,v2⟩
  simp only[List.mapM_cons,List.mapM_nil,map_eq_pure_bind,Sem.run_bind,v1,ar,Sem.run_pure]
  simp
 rename_i hne
 cases hl:eP P s rs with
 |none=>rw[hl]at h;cases h
 |some ts=>
  rw[hl]at h
  simp at h
  subst h
  obtain⟨vs,g1,g2,g3⟩:=sH hinv htm hl
  refine⟨.tuple vs.toArray,?_,vs.toArray,rfl,by simpa using g2,fun j b cs hj=>by simpa using g3 j b cs hj⟩
  have hlen: ∀{rs:List ResultVar} {ts:List (Bool×List AV)},eP P s rs=some ts->ts.length=rs.length:=by
   intro rs
   induction rs with
   |nil=>intro ts h;simp only[eP]at h;injection h with h;subst h;rfl
   |cons r l ih=>
    intro ts h
    simp only[eP]at h
    split at h
    ·rename_i t ts' h1 h2
     injection h with h
     subst h
     simp[ih h2]
    cases h
  have hvl:vs.length≠1:=fun h1=>by
   have:=hlen hl
   have hrl:rs.length=1:=by omega
   obtain⟨r,hr⟩:=List.length_eq_one_iff.1 hrl
   exact hne r hr
  simp only[map_eq_pure_bind,Sem.run_bind,g1,ar,Sem.run_pure]
  rw[dif_neg (by simpa using hvl)]
def j7 (a:Nat):TV->Prop
 | .one x=>fP a x
 | .agg cs=> ∀x∈cs,fP a x
 | .fn _ cs=> ∀x∈cs,fP a x
 | .tup ts=> ∀t∈ts,∀x∈t.2,fP a x
def qA (H:OH) (a0:Nat) (r:TV):Prop:=match Nat.ble a0 4999 with
 |true=>j7 a0 r
 |false=>j7 a0 r/\H a0=[]
theorem sS {H:OH} {a0:Nat} {r:TV} (h:qA H a0 r):j7 a0 r/\(a0<=4999\/H a0=[]):=by
 unfold qA at h
 split at h
 ·rename_i hb;exact⟨h,.inl (Nat.le_of_ble_eq_true hb)⟩
 exact⟨h.1,.inr h.2⟩
theorem Df {H:OH} {a0:Nat} {r:TV} (h:j7 a0 r) (h0:H a0=[]):qA H a0 r:=by
 unfold qA
 split
 ·exact h
 exact⟨h,h0⟩
theorem ye {H:OH} {a0:Nat} {r:TV} (h:j7 a0 r) (h0:a0<=4999):qA H a0 r:=by
 unfold qA
 rw[Nat.ble_eq_true_of_le h0]
 exact h
def nH (P:Program) (fn:Func) (res:CallRes) (s:AS):Prop:=
 ∃r a0,cH P s fn.results.toList=some r/\qA s.H a0 r/\res.fam=(s.H a0).map (renO 0)/\res.r=bQ 0 r
theorem ru (G:World->Prop) {f:FuncId} {fn:Func} {c:Code} {args:List TV} {res:CallRes} (hf:P.funcs[f]?=some fn) (hb:fn.body=some c) (hn:callable P f=true)
  (h: ∀(w0:World) (X:Nat->Prop) (a:Act),G w0->iW w0 (fun _=>False) X ⟨args++List.replicate (fn.ntmps-args.length) .undef,fun _=>[]⟩ a w0->c.wp P (fun e a' w'=> ∃s1,((e= .normal\/e= .ret)/\ ∃s',eg s1 s'/\nH P fn res s')/\iW w0 (fun _=>False) X s1 a' w') a w0) (w:World) (hG:G w):yG P f args res w:=by
 refine⟨hn,fun X vs hX hvs hargs=>?_⟩
 refine calls_of_wp hf hb ?_
 have hrel:iW w (fun _=>False) X ⟨args++List.replicate (fn.ntmps-args.length) .undef,fun _=>[]⟩ {tmps:=vs++Array.replicate (fn.ntmps-vs.size) undef,defers:=[]} w:=by
  refine⟨rfl,by simp[hvs],fun _ _=>none,⟨Keep.refl w,fun a r o ho=>by simp at ho,fun a r a' r' o o' b c c' ho=>by simp at ho,fun a r o b c ho=>by simp at ho,hX,fun a r o ho=>by simp at ho⟩,fun t x hx=>?_⟩
  have hXo: ∀b,b<w.heap.size->Xo X (fun _ _=>none) (fun _=>[]) b->X b:=fun b _ h=>by
   rcases h with h|⟨a,r,o,c,h1,h2⟩
   ·exact h
   cases h2
  by_cases ht:t<args.length
  ·rw[List.getElem?_append_left ht]at hx
   obtain⟨v,v1,v2⟩:=hargs t x hx
   refine⟨v,by rw[Array.getElem?_append_left (by omega)];exact v1,TV.rel_map v2 (fun y u hy=>?_)⟩
   cases y with
   |p y=>exact ee.weaken hXo hy
   |sl a r off len=>obtain⟨o,h1,_⟩:=hy;simp at h1
   |ptr a r i j=>obtain⟨o,_,_,h1,_⟩:=hy;simp at h1
   |junk=>trivial
  rw[List.getElem?_append_right (by omega),List.getElem?_replicate]at hx
  split at hx
  ·rename_i hlt
   injection hx with hx
   subst hx
   refine⟨undef,?_,jb⟩
   rw[Array.getElem?_append_right (by omega),Array.getElem?_replicate,if_pos (by omega)]
  cases hx
 refine wp_mono (h _ _ _ hG hrel) fun e a' w' ⟨s1,⟨he,s2,hw,r,a0,hres,hself0,hfam,hr⟩,hrel1⟩=>?_
 obtain⟨hself,h5⟩:=sS hself0
 obtain⟨h1,hsz,ρ,hinv,htm⟩:=hw _ _ _ _ _ hrel1
 have htm:dN X ρ s2 a' w':=htm
 obtain⟨v,v1,v2⟩:=l9 hinv htm hres
 have hF: ∀(k:Nat) o,(famH 0 res.fam 0)[k]?=some o-> ∃o',(s2.H a0)[k]?=some o'/\o=renO 0 o':=fun k o ho=>by
  simp only[famH,if_true,hfam,aH]at ho
  obtain⟨o',g1,g2⟩:=Option.map_eq_some_iff.1 ho
  exact⟨o',g1,g2.symm⟩
 have hz: ∀(x k:Nat) o,(famH 0 res.fam x)[k]?=some o->x=0:=fun x k o ho=>by
  by_cases hx:x=0
  ·exact hx
  simp[famH,hx]at ho
 have hXo: ∀b,Xo X (fun _ k=>ρ a0 k) (famH 0 res.fam) b->Xo X ρ s2.H b:=fun b hb=>by
  rcases hb with hb|⟨x,k,o,n,g1,g2⟩
  ·exact .inl hb
  have:=hz x k o g1
  subst this
  obtain⟨o',g3,_⟩:=hF k o g1
  exact .inr ⟨a0,k,o',n,g3,g2⟩
 have hmap: ∀x u,fP a0 x->AV.rel ρ s2.H (Xo X ρ s2.H) w' x u->AV.rel (fun _ k=>ρ a0 k) (famH 0 res.fam) (Xo X (fun _ k=>ρ a0 k) (famH 0 res.fam)) w' (bM 0 x) u:=fun x u hs hx=>by
  cases x with
  |p x=>exact ee.weaken (fun b _ hb=>hXo b hb) hx
  |sl x k off len=>
   have hs:x=a0:=hs
   subst hs
   obtain⟨o,g1,g2,g3⟩:=hx
   have h6:x<=4999:=h5.resolve_right fun h=>by rw[h]at g1;simp at g1
   exact⟨renO 0 o,by simp[famH,hfam,g1],by simpa[renO] using g2,me (ρ':=fun _ k=>ρ x k) (a':=0) (r':=k) h6 g3 rfl⟩
  |ptr x k i j=>
   have hs:x=a0:=hs
   subst hs
   obtain⟨o,b,c,g1,g2,g3,g4⟩:=hx
   exact⟨renO 0 o,b,c,by simp[famH,hfam,g1],g2,by simpa[renO] using g3,g4⟩
  |junk=>trivial
 have hfin: ∃ρ':Rho,Inv w (fun _=>False) X (famH 0 res.fam) ρ' w'/\res.r.rel ρ' (famH 0 res.fam) (Xo X ρ' (famH 0 res.fam)) w' v:=by
  refine⟨fun _ k=>ρ a0 k,⟨hinv.keep,fun x k o ho=>?_,fun x k x' k' o o' b c c' ho ho' hr1 hr2=>?_,fun x k o b c ho hr1=>?_,hinv.bar,fun x k o ho=>?_⟩,?_⟩
  ·have:=hz x k o ho
   subst this
   obtain⟨o',g1,rfl⟩:=hF k o ho
   obtain⟨z1,z2,z3⟩:=hinv.objs a0 k o' g1
   refine⟨fun e he=>?_,z2,?_⟩
   ·simp only[renO,au]at he
    obtain⟨e',he',rfl⟩:=he
    rw[List.length_map];exact z1 e' he'
   cases hr0:ρ a0 k with
   |none=>rw[hr0]at z3;simp only[hr0];simp[renO,z3]
   |some bc=>
    obtain⟨b,n⟩:=bc
    rw[hr0]at z3
    obtain⟨cells,p1,p2,p3,p4,p5⟩:=z3
    simp only[hr0]
    refine⟨cells,p1,p2,by simpa[renO] using p3,p4,fun i e j z he hz=>?_⟩
    simp only[renO,aH]at he
    obtain⟨e',he',rfl⟩:=Option.map_eq_some_iff.1 he
    rw[aH]at hz
    obtain⟨z',hz',rfl⟩:=Option.map_eq_some_iff.1 hz
    obtain⟨u,u1,u2,u3⟩:=p5 i e' j z' he' hz'
    exact⟨u,u1,u2,hmap z' u (hinv.self a0 k o' g1 e' (aE he') z' (aE hz')) u3⟩
  ·have e1:=hz x k o ho
   have e2:=hz x' k' o' ho'
   subst e1 e2
   obtain⟨o1,g1,_⟩:=hF k o ho
   obtain⟨o2,g2,_⟩:=hF k' o' ho'
   exact⟨rfl,(hinv.inj a0 k a0 k' o1 o2 b c c' g1 g2 hr1 hr2).2⟩
  ·have e1:=hz x k o ho
   subst e1
   obtain⟨o1,g1,_⟩:=hF k o ho
   exact hinv.old a0 k o1 b c g1 hr1
  ·have e1:=hz x k o ho
   subst e1
   obtain⟨o1,g1,rfl⟩:=hF k o ho
   intro e he z hzz
   simp only[renO,au]at he
   obtain⟨e',he',rfl⟩:=he
   simp only[au]at hzz
   obtain⟨z',hz',rfl⟩:=hzz
   cases z'<;>first|rfl|trivial
  rw[hr]
  have agg: ∀cs u,(∀x∈cs,fP a0 x)->dL ρ s2.H (Xo X ρ s2.H) w' cs u->dL (fun _ k=>ρ a0 k) (famH 0 res.fam) (Xo X (fun _ k=>ρ a0 k) (famH 0 res.fam)) w' (cs.map (bM 0)) u:=fun cs u hs h=>by
   obtain⟨us,h1,h2,h3⟩:=h
   refine⟨us,h1,by simpa using h2,fun j x hx=>?_⟩
   rw[aH]at hx
   obtain⟨y,hy,rfl⟩:=Option.map_eq_some_iff.1 hx
   obtain⟨u',u1,u2,u3⟩:=h3 j y hy
   exact⟨u',u1,u2,hmap _ _ (hs y (aE hy)) u3⟩
  cases r with
  |one x=>exact hmap x v hself v2
  |agg cs=>exact agg cs v hself v2
  |fn f cs=>obtain⟨u,h1,h2⟩:=v2;exact⟨u,agg cs u hself h1,h2⟩
  |tup ts=>
   obtain⟨us,h1,h2,h3⟩:=v2
   refine⟨us,h1,by simpa using h2,fun j b cs hx=>?_⟩
   rw[aH]at hx
   obtain⟨y,hy,hyy⟩:=Option.map_eq_some_iff.1 hx
   obtain⟨b',cs'⟩:=y
   simp at hyy
   obtain⟨rfl,rfl⟩:=hyy
   obtain⟨u,u1,u2⟩:=h3 j b' cs' hy
   have hs:=hself (b',cs') (aE hy)
   refine⟨u,u1,?_⟩
   rcases u2 with⟨u2,u3⟩|⟨u2,x,rfl,u4⟩
   ·exact .inl ⟨u2,agg _ _ hs u3⟩
   exact .inr ⟨u2,_,rfl,hmap _ _ (hs x (by simp)) u4⟩
 rcases he with rfl|rfl
 ·exact⟨h1,v,v1,v,rfl,hfin⟩
 exact⟨h1,v,v1,v,rfl,hfin⟩
theorem bG {f:FuncId} {fn:Func} {c:Code} {args:List TV} {res:CallRes} (hf:P.funcs[f]?=some fn) (hb:fn.body=some c) (hn:callable P f=true)
  (h:da P c (fun e s=>(e= .normal\/e= .ret)/\ ∃s',eg s s'/\nH P fn res s') ⟨args++List.replicate (fn.ntmps-args.length) .undef,fun _=>[]⟩):CallC P f args res:=
 ⟨hn,fun X w vs=>(ru (fun _=>True) hf hb hn (fun w0 X a _ r=>h w0 _ X a w0 r) w trivial).2 X vs⟩
end
end
section
structure GJ where
 i:Nat
 d:Option Tmp
 op:Op
 g:Option (Tmp×Bool)
def aM (ops:Array Oper) (o:Oper) (i:Nat):GJ:=
 ⟨i,o.dst,o.op,match o.guard with
  |none=>none
  |some (g,want)=>match(ops[g]?).bind (·.dst)with
   |some d=>some (d,want)
   |none=>some (1000000,want)⟩
def dZ (ops:Array Oper):List Oper->Nat->List GJ
 |[],_=>[]
 |o::l,i=>aM ops o i::dZ ops l (i+1)
section
variable (P:Program) (items:List (fh P)) (ow:List Nat)
noncomputable def Lz (i : Nat) (d : Option Tmp) (op : Op) (s : AS) : Option AS := gH P items ow i ⟨d, op, 0, "", #[], none⟩ s
noncomputable def eJ:GJ->AS->Option AS
 |⟨i,d,op,none⟩,s=>Lz P items ow i d op s
 |⟨i,d,op,some (k,want)⟩,s=>match s.tmps[k]? with
  |some (.one (.p (.raw (.bool b))))=>if b=want then Lz P items ow i d op s else some (s.put d .undef)
  |some (.tup [])=>some (s.put d .undef)
  |_=>none
noncomputable def fd:List GJ->Option AS->(AS->Prop)->Prop
 |_,none,_=>False
 |[],some s,Q=>Q s
 |st::l,some s,Q=>fd l (eJ P items ow st s) Q
theorem Db (l:List GJ) (Q:AS->Prop):fd P items ow l none Q=False:=by cases l<;>rfl
theorem FD (s:AS) (Q:AS->Prop):fd P items ow [] (some s) Q=Q s:=rfl
theorem uK (st:GJ) (l:List GJ) (s:AS) (Q:AS->Prop):fd P items ow (st::l) (some s) Q=fd P items ow l (eJ P items ow st s) Q:=rfl
theorem rl (i : Nat) (o : Oper) (s : AS) : gH P items ow i ⟨o.dst, o.op, 0, "", #[], none⟩ s = gH P items ow i o s := rfl
theorem tO {i:Nat} {o:Oper} {s s1:AS} (hs:gH P items ow i o s=some s1):s1.tmps.length=s.tmps.length:=by
 unfold gH at hs
 split at hs
 ·obtain⟨t,_,rfl⟩:=Option.map_eq_some_iff.1 hs;exact gm _ _ _
 split at hs
 ·obtain⟨t,_,rfl⟩:=Option.map_eq_some_iff.1 hs;exact gm _ _ _
 split at hs
 ·injection hs with hs;subst hs;rw[gm];simp
 split at hs
 ·cases hs
 split at hs
 ·injection hs with hs;subst hs;exact gm _ _ _
 ·split at hs
  ·injection hs with hs;subst hs;rw[gm]
  cases hs
 cases hs
theorem Dh {ops:Array Oper} {o:Oper} {i:Nat} {s s1:AS} (hlen:s.tmps.length<=1000000) (h:eJ P items ow (aM ops o i) s=some s1):dR P items ow ops i o s=some s1/\s1.tmps.length=s.tmps.length:=by
 unfold aM at h
 unfold dR
 cases hg:o.guard with
 |none=>
  rw[hg]at h
  simp only[eJ,Lz,rl]at h
  exact⟨h,tO P items ow h⟩
 |some gw=>
  obtain⟨g,want⟩:=gw
  rw[hg]at h
  simp only at h⊢
  cases hd:(ops[g]?).bind (·.dst)with
  |none=>
   rw[hd]at h
   simp only[eJ]at h
   rw[List.getElem?_eq_none hlen]at h
   cases h
  |some d=>
   rw[hd]at h
   simp only[eJ,Lz,rl]at h
   simp only
   split at h
   ·rename_i b hb
    rw[hb]
    simp only
    split at h
    ·rename_i hbw
     rw[if_pos hbw]
     exact⟨h,tO P items ow h⟩
    rename_i hbw
    rw[if_neg hbw]
    exact⟨h,by injection h with h;subst h;exact gm _ _ _⟩
   ·rename_i hb
    rw[hb]
    exact⟨h,by injection h with h;subst h;exact gm _ _ _⟩
   cases h
theorem eA (ops:Array Oper): ∀(l:List Oper) (i:Nat) (s:AS) (Q:AS->Prop),s.tmps.length<=1000000->fd P items ow (dZ ops l i) (some s) Q-> ∃s',jG P items ow ops (l.zipIdx i) s=some s'/\Q s'
 |[],i,s,Q,_,h=>⟨s,rfl,h⟩
 |o::l,i,s,Q,hlen,h=>by
  simp only[dZ,uK]at h
  simp only[List.zipIdx_cons,jG]
  cases hs:eJ P items ow (aM ops o i) s with
  |none=>rw[hs,Db]at h;exact h.elim
  |some s1=>
   rw[hs]at h
   obtain⟨h1,h2⟩:=Dh P items ow hlen hs
   rw[h1]
   exact eA ops l (i+1) s1 Q (by omega) h
variable {P}
theorem m6 (items:List (bj P)) (ow:List Nat) {id:Nat} {ops:Array Oper} {s:AS} {Q:Exit->AS->Prop} (hl:s.tmps.length<=1000000) (h:fd P (items.map bj.a) ow (dZ ops ops.toList 0) (some s) (Q .normal)):da P (.region id ops false) Q s:=by
 obtain⟨s',h1,h2⟩:=eA P (items.map bj.a) ow ops ops.toList 0 s (Q .normal) hl h
 exact yO _ (bj.ok items) ow h1 h2
variable {items} {ow}
variable {i:Nat} {d:Option Tmp} {s:AS}
theorem bP (op:Op) (k:Tmp) (want:Bool):eJ P items ow ⟨i,d,op,some (k,want)⟩ s=match s.tmps[k]? with
  |some (.one (.p (.raw (.bool b))))=>if b=want then eJ P items ow ⟨i,d,op,none⟩ s else some (s.put d .undef)
  |some (.tup [])=>some (s.put d .undef)
  |_=>none:=rfl
theorem sk {op:Op} (h:vJ op=true):eJ P items ow ⟨i,d,op,none⟩ s=(aU P s.ev op).map (s.put d):=by
 show gH P items ow i ⟨d, op, 0, "", #[], none⟩ s = _
 unfold gH
 simp only[h,if_true]
theorem qw {op:Op} (h:vJ op=false) (h':Hu op=true):eJ P items ow ⟨i,d,op,none⟩ s=(aZ P s.ev s.H op).map (s.put d):=by
 show gH P items ow i ⟨d, op, 0, "", #[], none⟩ s = _
 unfold gH
 simp only[h,h',if_true,Bool.false_eq_true,if_false]
theorem Fa (x:Operand):eJ P items ow ⟨i,d,.move x,none⟩ s=(s.ev x).map (s.put d):=sk rfl
theorem zK (x:Operand):eJ P items ow ⟨i,d,.assign x,none⟩ s=(s.ev x).map (s.put d):=sk rfl
theorem b7 (c a b:Operand):eJ P items ow ⟨i,d,.pick c a b,none⟩ s=(aU P s.ev (.pick c a b)).map (s.put d):=sk rfl
theorem Id (op:BinOp) (t t':TypeId) (x y:Operand):eJ P items ow ⟨i,d,.binOp op t x y t',none⟩ s=(aU P s.ev (.binOp op t x y t')).map (s.put d):=sk rfl
theorem dM (op:UnOp) (t:TypeId) (x:Operand):eJ P items ow ⟨i,d,.unOp op t x,none⟩ s=(aU P s.ev (.unOp op t x)).map (s.put d):=sk rfl
theorem ct (t t':TypeId) (x:Operand):eJ P items ow ⟨i,d,.convert t t' x,none⟩ s=(aU P s.ev (.convert t t' x)).map (s.put d):=sk rfl
theorem cK (x:Operand) (k:Nat):eJ P items ow ⟨i,d,.extract x k,none⟩ s=(aU P s.ev (.extract x k)).map (s.put d):=sk rfl
theorem E9 (t:TypeId) (x:Operand):eJ P items ow ⟨i,d,.load t x,none⟩ s=(aZ P s.ev s.H (.load t x)).map (s.put d):=qw rfl rfl
theorem aQ (t:TypeId) (x y:Operand):eJ P items ow ⟨i,d,.indexAddr t x y,none⟩ s=(aZ P s.ev s.H (.indexAddr t x y)).map (s.put d):=qw rfl rfl
theorem bY (t:TypeId) (x:Operand) (f:Nat):eJ P items ow ⟨i,d,.fieldAddr t x f,none⟩ s=(aZ P s.ev s.H (.fieldAddr t x f)).map (s.put d):=qw rfl rfl
theorem CZ (t:TypeId) (x:Operand) (f:Nat):eJ P items ow ⟨i,d,.field t x f,none⟩ s=(aZ P s.ev s.H (.field t x f)).map (s.put d):=qw rfl rfl
theorem gR (t:TypeId) (x:Operand) (lo hi mx:Option Operand):eJ P items ow ⟨i,d,.slice t x lo hi mx,none⟩ s=(aZ P s.ev s.H (.slice t x lo hi mx)).map (s.put d):=qw rfl rfl
theorem jL (t:TypeId) (ps:Array (Nat×Operand)):eJ P items ow ⟨i,d,.build t ps,none⟩ s=(aZ P s.ev s.H (.build t ps)).map (s.put d):=qw rfl rfl
theorem jF (f:Fn) (xs ys:Array Operand):eJ P items ow ⟨i,d,.makeFunc f xs ys,none⟩ s=(aZ P s.ev s.H (.makeFunc f xs ys)).map (s.put d):=qw rfl rfl
theorem be (xs:Array Operand) (ts:Array TypeId):eJ P items ow ⟨i,d,.call {callee:= .builtin .len,args:=xs,argTypes:=ts},none⟩ s=(aZ P s.ev s.H (.call {callee:= .builtin .len,args:=xs,argTypes:=ts})).map (s.put d):=qw rfl rfl
def bU (d:Nat) (s:AS):Option (TV×List OObj)->Option AS
 |some (t,[])=>some (s.put (some d) t)
 |some (t,o::l)=>(match s.H d with|[]=>some (AS.put ⟨s.tmps,bD s.H d (o::l)⟩ (some d) t)|_=>none)
 |none=>none
theorem sj {op:Op} {d:Nat} (h:vJ op=false) (h':Hu op=false) (hD:cU P s.ev s.H op=none):eJ P items ow ⟨i,some d,op,none⟩ s=bU d s (bI P items ow i d s.ev s.H op):=by
 show gH P items ow i ⟨some d, op, 0, "", #[], none⟩ s = _
 unfold gH bU
 simp only[h,h',Bool.false_eq_true,if_false,hD]
 cases hA:bI P items ow i d s.ev s.H op with
 |none=>rfl
 |some tF=>
  obtain⟨t,F⟩:=tF
  cases F with
  |nil=>rfl
  |cons o l=>simp only[];cases s.H d<;>rfl
theorem dP {d:Nat} (e:TypeId) (x:Operand):eJ P items ow ⟨i,some d,.box e x,none⟩ s=bU d s (bI P items ow i d s.ev s.H (.box e x)):=sj rfl rfl rfl
theorem cy {d:Nat} (e:TypeId):eJ P items ow ⟨i,some d,.alloc e,none⟩ s=bU d s (bI P items ow i d s.ev s.H (.alloc e)):=sj rfl rfl rfl
theorem cY {d:Nat} (t:TypeId) (x y:Operand):eJ P items ow ⟨i,some d,.makeSlice t x y,none⟩ s=bU d s (bI P items ow i d s.ev s.H (.makeSlice t x y)):=sj rfl rfl rfl
theorem cX {d:Nat} (t:TypeId) (n:Nat) (ps:Array (Nat×Operand)):eJ P items ow ⟨i,some d,.buildSlice t n ps,none⟩ s=bU d s (bI P items ow i d s.ev s.H (.buildSlice t n ps)):=sj rfl rfl rfl
theorem aY {d:Nat} (f:FuncId) (xs:Array Operand) (ts:Array TypeId):eJ P items ow ⟨i,some d,.call {callee:= .value (.func f),args:=xs,argTypes:=ts},none⟩ s=bU d s (bI P items ow i d s.ev s.H (.call {callee:= .value (.func f),args:=xs,argTypes:=ts})):=sj rfl rfl rfl
theorem jM {d:Nat} (k:Tmp) (xs:Array Operand) (ts:Array TypeId):eJ P items ow ⟨i,some d,.call {callee:= .value (.tmp k),args:=xs,argTypes:=ts},none⟩ s=bU d s (bI P items ow i d s.ev s.H (.call {callee:= .value (.tmp k),args:=xs,argTypes:=ts})):=sj rfl rfl rfl
def ew (d:Option Tmp) (s:AS):Option yH->Option AS
 |some q=>some (AS.put ⟨s.tmps.map (bz q.k),q.H⟩ d q.t)
 |none=>none
theorem bo (t:TypeId) (x y:Operand):eJ P items ow ⟨i,d,.store t x y,none⟩ s=ew d s (cU P s.ev s.H (.store t x y)):=by
 show gH P items ow i ⟨d, .store t x y, 0, "", #[], none⟩ s = _
 unfold gH ew
 simp only[vJ,Hu,Bool.false_eq_true,if_false]
 cases hq:cU P s.ev s.H (.store t x y)with
 |some q=>rfl
 |none=>
  cases d with
  |none=>rfl
  |some d=>simp only[bI]
def kG (d:Nat) (s:AS) (q:Option yH) (r:Option (TV×List OObj)):Option AS:=match q with
 |some q=>ew (some d) s (some q)
 |none=>bU d s r
theorem dX {d:Nat} (xs:Array Operand) (ts:Array TypeId):eJ P items ow ⟨i,some d,.call {callee:= .builtin .append,args:=xs,argTypes:=ts},none⟩ s=
  kG d s (cU P s.ev s.H (.call {callee:= .builtin .append,args:=xs,argTypes:=ts})) (bI P items ow i d s.ev s.H (.call {callee:= .builtin .append,args:=xs,argTypes:=ts})):=by
 cases hq:cU P s.ev s.H (.call {callee:= .builtin .append,args:=xs,argTypes:=ts})with
 |some q=>
  show gH P items ow i ⟨some d, .call { callee := .builtin .append, args := xs, argTypes := ts }, 0, "", #[], none⟩ s = _
  unfold gH
  simp only[vJ,Hu,Bool.false_eq_true,if_false,hq]
  rfl
 |none=>exact sj rfl rfl hq
end
end
end Go.Proofs.YtfgeomlagfomgaaGreatDoor
