/-
  Part 7 of a proof (walks and plain facts).
-/
import Derived.Test.YtpgghglbpcabkaaGreatP05
set_option linter.all false
set_option maxRecDepth 100000
set_option maxHeartbeats 64000000
namespace Go.Proofs.YtpgghglbpcabkaaGreat
open Go.RowKit
section
section
variable {P:Program} {items:List (dN P)} {ow:List Nat} {ops:Array Oper} {s s1 s':AS} {H H':OH}
theorem vH {t:TV} (h:noRefTV t=true):ff H t:=by
 have av: ∀x,ap x=true->eW H x:=fun x hx=>by cases x<;>first|trivial|cases hx
 cases t with
 |one x=>exact av x h
 |agg cs=>simp only[noRefTV,List.all_eq_true]at h;exact fun x hx=>av x (h x hx)
 |fn f cs=>simp only[noRefTV,List.all_eq_true]at h;exact fun x hx=>av x (h x hx)
 |tup ts=>simp only[noRefTV,List.all_eq_true]at h;exact fun t ht x hx=>av x (h t ht x hx)
theorem sK {t:TV} {d:Nat} (h:mr d t) (hd:H d≠[]):ff H t:=by
 have av: ∀x,eB d x->eW H x:=fun x hx=>by
  cases x with
  |sl a _ _ _=>have hx:a=d:=hx;subst hx;exact hd
  |ptr a _ _ _=>have hx:a=d:=hx;subst hx;exact hd
  |p x=>trivial
  |junk=>trivial
 cases t with
 |one x=>exact av x h
 |agg cs=>exact fun x hx=>av x (h x hx)
 |fn f cs=>exact fun x hx=>av x (h x hx)
 |tup ts=>exact fun t ht x hx=>av x (h t ht x hx)
theorem iJ (d:Nat) (x:AV):eB d (aP d x):=by cases x<;>first|rfl|trivial
theorem oh (d:Nat) (t:TV):mr d (aS d t):=by
 cases t with
 |one x=>exact iJ d x
 |agg cs=>intro x hx;simp only[List.mem_map]at hx;obtain⟨y,_,rfl⟩:=hx;exact iJ d y
 |fn f cs=>intro x hx;simp only[List.mem_map]at hx;obtain⟨y,_,rfl⟩:=hx;exact iJ d y
 |tup ts=>
  intro t ht x hx
  simp only[List.mem_map]at ht
  obtain⟨t',_,rfl⟩:=ht
  simp only[List.mem_map]at hx
  obtain⟨y,_,rfl⟩:=hx
  exact iJ d y
theorem ql {d:Nat} {t:TV} (h:noRefTV t=true):noRefTV (aS d t)=true:=by
 have av: ∀x,ap x=true->ap (aP d x)=true:=fun x hx=>by cases x<;>first|rfl|cases hx
 cases t with
 |one x=>exact av x h
 |agg cs=>simp only[noRefTV,List.all_eq_true]at h;simp only[aS,noRefTV,List.all_eq_true,List.mem_map];rintro _ ⟨x,hx,rfl⟩;exact av x (h x hx)
 |fn f cs=>simp only[noRefTV,List.all_eq_true]at h;simp only[aS,noRefTV,List.all_eq_true,List.mem_map];rintro _ ⟨x,hx,rfl⟩;exact av x (h x hx)
 |tup ts=>
  simp only[noRefTV,List.all_eq_true]at h
  simp only[aS,noRefTV,List.all_eq_true,List.mem_map]
  rintro _ ⟨t,ht,rfl⟩ _ hx
  simp only[List.mem_map]at hx
  obtain⟨x,hx,rfl⟩:=hx
  exact av x (h t ht x hx)
theorem dx {a:Nat} {o:OObj} (h: ∀e∈o.elems,∀x∈e,isPure x=true):selfO a o:=fun e he x hx=>fh (h e he x hx)
theorem p7 {t:TV} {news:List (List AV)} (h:newsOf H t=some news): ∀e∈news,∀x∈e,isPure x=true:=by
 unfold newsOf at h
 split at h
 ·injection h with h
  subst h
  intro e he x hx
  simp only[List.mem_map]at he
  obtain⟨e',_,rfl⟩:=he
  simp only[List.mem_map]at hx
  obtain⟨x',_,rfl⟩:=hx
  rfl
 ·injection h with h;subst h;intro e he;simp at he
 ·split at h
  ·split at h
   ·rename_i hp
    injection h with h
    subst h
    simp only[List.all_eq_true]at hp
    exact fun e he x hx=>hp e (List.mem_of_mem_take (List.mem_of_mem_drop he)) x hx
   ·cases h
  ·cases h
 ·cases h
theorem sj {ev:Operand->Option TV} {n:Nat}: ∀(parts:List (Nat×Operand)) (i:Nat) (l:List (List AV)),fW ev n i parts=some l-> ∀e∈l,∀x∈e,isPure x=true
 |[],i,l,h=>by simp only[fW]at h;injection h with h;subst h;intro e he;simp at he
 |(k,x)::rest,i,l,h=>by
  simp only[fW]at h
  split at h
  ·rename_i cs l' hcs hl'
   split at h
   ·rename_i hc
    injection h with h
    subst h
    intro e he y hy
    rcases List.mem_cons.1 he with rfl|he
    ·have:=hc.2.2;simp only[List.all_eq_true]at this;exact this y hy
    ·exact sj rest (i+1) l' hl' e he y hy
   ·cases h
  ·cases h
theorem uQ {i d:Nat} {ev:Operand->Option TV} {op:Op} {t:TV} {F:List OObj} (h:aI P items ow i d ev H op=some (t,F)):mr d t/\(F=[]->noRefTV t=true)/\ ∀o∈F,selfO d o:=by
 cases op<;>simp only[aI]at h<;>try cases h
 case box e x=>
  split at h
  ·split at h
   ·rename_i hc
    injection h with h
    injection h with h1 h2
    subst h1 h2
    refine⟨rfl,fun h=>by simp at h,fun o ho=>?_⟩
    simp at ho
    subst ho
    have:=hc.1
    simp only[List.all_eq_true]at this
    exact dx (fun e he x hx=>by simp at he;subst he;exact this x hx)
   ·cases h
  ·cases h
 case alloc e=>
  split at h
  ·split at h
   ·injection h with h
    injection h with h1 h2
    subst h1 h2
    refine⟨rfl,fun h=>by simp at h,fun o ho=>?_⟩
    simp at ho
    subst ho
    exact dx (fun e he x hx=>by simp at he;subst he;simp at hx;obtain⟨y,_,rfl⟩:=hx;rfl)
   ·cases h
  ·cases h
 case makeSlice ty l c=>
  split at h
  ·split at h
   ·split at h
    ·injection h with h
     injection h with h1 h2
     subst h1 h2
     refine⟨rfl,fun h=>by simp at h,fun o ho=>?_⟩
     simp at ho
     subst ho
     exact dx (fun e he x hx=>by simp[List.mem_replicate]at he;rw[he.2]at hx;simp at hx;obtain⟨y,_,rfl⟩:=hx;rfl)
    ·cases h
   ·cases h
  ·cases h
 case buildSlice ty n parts=>
  split at h
  ·split at h
   ·split at h
    ·rename_i l hl
     split at h
     ·split at h
      ·injection h with h
       injection h with h1 h2
       subst h1 h2
       refine⟨rfl,fun h=>by simp at h,fun o ho=>?_⟩
       simp at ho
       subst ho
       exact dx (sj _ _ _ hl)
      ·injection h with h
       injection h with h1 h2
       subst h1 h2
       exact⟨trivial,fun _=>rfl,fun o ho=>by simp at ho⟩
     ·cases h
    ·cases h
   ·cases h
  ·cases h
 case call c=>
  split at h
  ·split at h
   ·rename_i it ts hit hts
    split at h
    ·rename_i hc
     injection h with h
     injection h with h1 h2
     subst h1 h2
     refine⟨oh _ _,fun hF=>?_,fun o ho=>?_⟩
     ·have h4:=hc.2.2.2
      simp only[List.map_eq_nil_iff]at hF
      rw[hF]at h4
      exact ql (by simpa using h4)
     ·simp only[List.mem_map]at ho
      obtain⟨o',_,rfl⟩:=ho
      intro e he x hx
      simp only[db,List.mem_map]at he
      obtain⟨e',_,rfl⟩:=he
      simp only[List.mem_map]at hx
      obtain⟨y,_,rfl⟩:=hx
      exact iJ d y
    ·cases h
   ·cases h
  ·split at h
   ·rename_i f extra it ts hcl hit hts
    split at h
    ·rename_i hc
     injection h with h
     injection h with h1 h2
     subst h1 h2
     refine⟨oh _ _,fun hF=>?_,fun o ho=>?_⟩
     ·have h4:=hc.2.2.2
      simp only[List.map_eq_nil_iff]at hF
      rw[hF]at h4
      exact ql (by simpa using h4)
     ·simp only[List.mem_map]at ho
      obtain⟨o',_,rfl⟩:=ho
      intro e he x hx
      simp only[db,List.mem_map]at he
      obtain⟨e',_,rfl⟩:=he
      simp only[List.mem_map]at hx
      obtain⟨y,_,rfl⟩:=hx
      exact iJ d y
    ·cases h
   ·cases h
  ·split at h
   ·split at h
    ·rename_i news e hs hx hsl
     split at h
     ·split at h
      ·injection h with h
       injection h with h1 h2
       subst h1 h2
       refine⟨rfl,fun h=>by simp at h,fun o ho=>?_⟩
       simp at ho
       subst ho
       obtain⟨tx,_,hn⟩:=Option.bind_eq_some_iff.1 hx
       exact dx (p7 hn)
      ·cases h
     ·cases h
    ·cases h
   ·cases h
  ·cases h
theorem ik {k:Nat->Nat->Bool} {x:AV} (h: ∀a r,H a≠[]->k a r=false->H' a≠[]) (hx:eW H x):eW H' (aL k x):=by
 cases x with
 |sl a r off len=>
  simp only[aL]
  cases hk:k a r with
  |true=>trivial
  |false=>exact h a r hx hk
 |ptr a r i j=>
  simp only[aL]
  cases hk:k a r with
  |true=>trivial
  |false=>exact h a r hx hk
 |p x=>trivial
 |junk=>trivial
theorem m5 {k:Nat->Nat->Bool} {t:TV} (h: ∀a r,H a≠[]->k a r=false->H' a≠[]) (hx:ff H t):ff H' (aH k t):=by
 cases t with
 |one x=>exact ik h hx
 |agg cs=>intro y hy;simp only[List.mem_map]at hy;obtain⟨z,hz,rfl⟩:=hy;exact ik h (hx z hz)
 |fn f cs=>intro y hy;simp only[List.mem_map]at hy;obtain⟨z,hz,rfl⟩:=hy;exact ik h (hx z hz)
 |tup ts=>
  intro t ht y hy
  simp only[List.mem_map]at ht
  obtain⟨t',ht',rfl⟩:=ht
  simp only[List.mem_map]at hy
  obtain⟨z,hz,rfl⟩:=hy
  exact ik h (hx t' ht' z hz)
theorem oz {a r:Nat} {l:List OObj} {o o':OObj} (hl: ∀o∈l,selfO a o) (ho':selfO a o'): ∀o∈l.set r o',selfO a o:=fun x hx=>by
 rcases List.mem_or_eq_of_mem_set hx with hx|rfl
 ·exact hl x hx
 ·exact ho'
theorem oM {a i j:Nat} {o:OObj} {e cs:List AV} (ho:selfO a o) (he:o.elems[i]?=some e) (hc: ∀x∈cs,eB a x):selfO a {o with elems:=o.elems.set i (putCells e j cs)}:=fun y hy x hx=>by
 rcases List.mem_or_eq_of_mem_set hy with hy|rfl
 ·exact ho y hy x hx
 ·unfold putCells at hx
  simp only[List.mem_append]at hx
  rcases hx with(hx|hx)|hx
  ·exact ho e (List.mem_of_getElem? he) x (List.mem_of_mem_take hx)
  ·exact hc x hx
  ·exact ho e (List.mem_of_getElem? he) x (List.mem_of_mem_drop hx)
theorem yh (hl:lK s) {op:Op} {q:uX} (h:bN P s.ev s.H op=some q):(∀a r,s.H a≠[]->q.k a r=false->q.H a≠[])/\(∀a,∀o∈q.H a,selfO a o)/\ff q.H q.t:=by
 have hundef: ∀H,ff H TV.undef:=fun H t ht=>by simp at ht
 have upd1: ∀{a r:Nat} {o:OObj} {F:List OObj},(s.H a)[r]?=some o->F.length>=(s.H a).length->(∀o∈F,selfO a o)->(∀(b r':Nat),s.H b≠[]->au s.H a F b≠[])/\ ∀b,∀o∈au s.H a F b,selfO b o:=fun{a r o F} ho hlen hF=>by
  have hpos:0<(s.H a).length:=by have:=(List.getElem?_eq_some_iff.1 ho).1;omega
  refine⟨fun b _ hb=>?_,fun b o' ho'=>?_⟩
  ·by_cases hba:b=a
   ·subst hba;rw[bV];intro h0;rw[h0]at hlen;simp at hlen;simp[hlen]at hpos
   ·rw[bv hba];exact hb
  ·by_cases hba:b=a
   ·subst hba;rw[bV]at ho';exact hF o' ho'
   ·rw[bv hba]at ho';exact hl.2 b o' ho'
 cases op<;>simp only[bN]at h<;>try cases h
 case store t ad x=>
  split at h
  ·rename_i a r i j n had hn
   split at h
   ·rename_i o ho
    have hso:=hl.2 a o (List.mem_of_getElem? ho)
    split at h
    ·rename_i e he
     split at h
     ·rename_i a' r' off len hx
      split at h
      ·rename_i haa
       subst haa
       split at h
       ·injection h with h
        subst h
        obtain⟨g1,g2⟩:=upd1 ho (F:=(s.H a').set r {o with elems:=o.elems.set i (putCells e j [.sl a' r' off len])}) (by simp) (oz (o:=o) (hl.2 a') (oM hso he (fun y hy=>by simp at hy;subst hy;rfl)))
        exact⟨fun b r hb _=>g1 b r hb,g2,hundef _⟩
       ·cases h
      ·rename_i haa
       split at h
       ·rename_i ob hH
        split at h
        ·rename_i hc
         injection h with h
         subst h
         have hp:=hc.2.2.2.2.2
         simp only[List.all_eq_true]at hp
         obtain⟨g1,g2⟩:=upd1 ho (F:=(s.H a).set r {o with elems:=o.elems.set i (putCells e j [.sl a (s.H a).length 0 len])}++[ob]) (by simp) (fun y hy=>by
          rcases List.mem_append.1 hy with hy|hy
          ·exact oz (o:=o) (hl.2 a) (oM hso he (fun y hy=>by simp at hy;subst hy;rfl)) y hy
          ·simp at hy;subst hy;exact dx hp)
         refine⟨fun b r hb hk=>?_,fun b o' ho'=>?_,hundef _⟩
         ·have hba:b≠a':=by simpa using hk
          show au _ a' [] b≠[]
          rw[bv hba];exact g1 b r hb
         ·by_cases hba:b=a'
          ·subst hba;simp only[bV]at ho';simp at ho'
          ·simp only[bv hba]at ho';exact g2 b o' ho'
        ·cases h
       ·cases h
     ·rename_i v hv hx
      split at h
      ·rename_i cs hcs
       split at h
       ·rename_i hc
        injection h with h
        subst h
        have hp:=hc.2.2
        simp only[List.all_eq_true]at hp
        obtain⟨g1,g2⟩:=upd1 ho (F:=(s.H a).set r {o with elems:=o.elems.set i (putCells e j cs)}) (by simp) (oz (o:=o) (hl.2 a) (oM hso he (fun y hy=>fh (hp y hy))))
        exact⟨fun b r hb _=>g1 b r hb,g2,hundef _⟩
       ·cases h
      ·cases h
     ·cases h
    ·cases h
   ·cases h
  ·cases h
 case call c=>
  split at h
  ·split at h
   ·rename_i a r off len news e hs hx hsl
    split at h
    ·rename_i o z sz by_ ho hz hszo hby
     split at h
     ·injection h with h
      subst h
      obtain⟨tx,_,hn⟩:=Option.bind_eq_some_iff.1 hx
      have hso:=hl.2 a o (List.mem_of_getElem? ho)
      obtain⟨g1,g2⟩:=upd1 ho (F:=((s.H a).map (d7 fun x y=>x==a&&y==r)).set r {o with elems:=o.elems++news}) (by simp) (fun y hy=>by
       rcases List.mem_or_eq_of_mem_set hy with hy|rfl
       ·simp only[List.mem_map]at hy
        obtain⟨o2,ho2,rfl⟩:=hy
        intro e he x hx
        simp only[d7,List.mem_map]at he
        obtain⟨e',he',rfl⟩:=he
        simp only[List.mem_map]at hx
        obtain⟨x',hx',rfl⟩:=hx
        have:=hl.2 a o2 ho2 e' he' x' hx'
        cases x' with
        |sl b _ _ _=>simp only[aL];split;trivial;exact this
        |ptr b _ _ _=>simp only[aL];split;trivial;exact this
        |p x=>trivial
        |junk=>trivial
       ·intro e he x hx
        rcases List.mem_append.1 he with he|he
        ·exact hso e he x hx
        ·exact fh (p7 hn e he x hx))
      refine⟨fun b r hb _=>g1 b r hb,g2,?_⟩
      exact g1 a r (by intro h0;rw[h0]at ho;simp at ho)
     ·cases h
    ·cases h
   ·cases h
  ·cases h
theorem rx {i:Nat} {o:Oper} (hl:lK s) (h:cz P items ow ops i o s=some s1):lK s1:=by
 rw[cf]at h
 obtain⟨out,hout,h⟩:=Option.bind_eq_some_iff.1 h
 unfold dq at hout
 have hundef:ff s.H TV.undef:=fun t ht=>by simp at ht
 split at hout
 ·unfold iH at hout
  split at hout
  ·obtain⟨t,ht,rfl⟩:=Option.map_eq_some_iff.1 hout
   simp only[cG]at h;injection h with h;subst h
   exact iQ hl (xO hl ht)
  ·split at hout
   ·obtain⟨t,ht,rfl⟩:=Option.map_eq_some_iff.1 hout
    simp only[cG]at h;injection h with h;subst h
    exact iQ hl (yi hl ht)
   ·split at hout
    ·rename_i q hq
     injection hout with hout
     subst hout
     simp only[cG]at h;injection h with h;subst h
     obtain⟨g1,g2,g3⟩:=yh hl hq
     refine iQ ⟨fun t x hx=>?_,g2⟩ g3
     simp only[List.getElem?_map]at hx
     obtain⟨y,hy,rfl⟩:=Option.map_eq_some_iff.1 hx
     exact m5 g1 (hl.1 t y hy)
    ·split at hout
     ·cases hout
     ·rename_i d hd
      cases hA:aI P items ow i d s.ev s.H o.op with
      |none=>rw[hA]at hout;cases hout
      |some tF=>
       obtain⟨t,F⟩:=tF
       rw[hA]at hout
       obtain⟨f1,f2,f3⟩:=uQ hA
       cases F with
       |nil=>
        simp only[xJ]at hout
        injection hout with hout
        subst hout
        simp only[cG]at h;injection h with h;subst h
        exact iQ hl (vH (f2 rfl))
       |cons o' l=>
        simp only[xJ]at hout
        injection hout with hout
        subst hout
        simp only[cG,hd]at h
        split at h
        ·rename_i hH
         injection h with h
         subst h
         refine iQ ⟨fun k x hx=>?_,fun b o2 ho2=>?_⟩ (sK f1 (by simp[bV]))
         ·have:=hl.1 k x hx
          have hg: ∀a,s.H a≠[]->au s.H d (o'::l) a≠[]:=fun a ha=>by rw[bv (by rintro rfl;exact ha hH)];exact ha
          have:=m5 (H':=au s.H d (o'::l)) (k:=fun _ _=>false) (fun a _ ha _=>hg a ha) this
          rwa[i9]at this
         ·by_cases hb:b=d
          ·subst hb;simp only[bV]at ho2;exact f3 o2 ho2
          ·simp only[bv hb]at ho2;exact hl.2 b o2 ho2
        ·cases h
 ·injection hout with hout
  subst hout
  simp only[cG]at h;injection h with h;subst h
  exact iQ hl hundef
 ·cases hout
end
end
section
def Fg:Op->Bool
 | .store ..=>false
 | .call {callee:= .builtin .append,..}=>false
 |_=>true
theorem uk {P:Program} {op:Op} (h:Fg op=true): ∀e G,bN P e G op=none:=fun e G=>by
 cases op<;>simp only[bN]<;>try rfl
 case store=>cases h
 case call c=>
  obtain⟨callee,args,tys⟩:=c
  cases callee with
  |value f=>rfl
  |invoke r m=>rfl
  |builtin b=>cases b<;>first|rfl|cases h
def gn (acc:List Nat):List Edge->Nat
 |[]=>0
 |e::l=>if Region.binds .any e then 2^e.on|||(acc.getD e.on 0|||gn acc l)else gn acc l
def n8:List Oper->List Nat->List Nat
 |[],acc=>acc
 |o::l,acc=>n8 l (acc++[gn acc o.after.toList])
def Bc (sep:List (Nat×Nat×Nat)) (oi oj:Oper):Bool:=match oi.op,oj.op with
 | .load _ (.tmp p),.store t (.tmp q) _=>sep.contains (p,q,t)&&oi.guard.isNone&&oj.guard.isNone
 |_,_=>false
def ms (sep:List (Nat×Nat×Nat)) (ops:Array Oper) (oi oj:Oper):Bool:=oi.apart ops oj&&(rm oi.op||rm oj.op||(Fg oi.op&&Fg oj.op)||Bc sep oi oj)
def ta (sep:List (Nat×Nat×Nat)) (ops:Array Oper) (oj:Oper) (m:Nat):List Oper->Nat->Bool
 |[],_=>true
 |oi::l,i=>(m.testBit i||ms sep ops oi oj)&&ta sep ops oj m l (i+1)
def rO (sep:List (Nat×Nat×Nat)) (ops:Array Oper) (A:List Nat):List Oper->Nat->Bool
 |[],_=>true
 |oj::l,j=>oj.after.all (fun e=>!Region.binds .any e||decide (e.on<j))&&ta sep ops oj (A.getD j 0) (ops.toList.take j) 0&&rO sep ops A l (j+1)
def eJ (sep:List (Nat×Nat×Nat)) (ops:Array Oper):Bool:=rO sep ops (n8 ops.toList []) ops.toList 0&&ops.toList.all fun o=>sep.all fun x=>o.dst !=some x.1&&o.dst !=some x.2.1
def tE (sep:List (Nat×Nat×Nat)) (s:AS):Prop:= ∀x∈sep,∀a r i j b r' i' j',s.tmps[x.1]?=some (.one (.ptr a r i j))->s.tmps[x.2.1]?=some (.one (.ptr b r' i' j'))->b≠a
def AM (sep:List (Nat×Nat×Nat)) (s:AS):Prop:=lK s/\tE sep s
def BQ (P:Program) (sep:List (Nat×Nat×Nat)) (ops:Array Oper):Prop:=(∀x∈sep,iT P x.2.2≠some 1)/\ ∀(j:Nat) o,ops[j]?=some o-> ∀x∈sep,o.dst≠some x.1/\o.dst≠some x.2.1
section
variable {ops:Array Oper} {sep:List (Nat×Nat×Nat)}
theorem qm: ∀(l:List Oper) (acc:List Nat),(n8 l acc).length=acc.length+l.length/\(∀k,k<acc.length->(n8 l acc)[k]?=acc[k]?)/\
  ∀(j:Nat) o,l[j]?=some o->(n8 l acc)[acc.length+j]?=some (gn ((n8 l acc).take (acc.length+j)) o.after.toList)
 |[],acc=>⟨by simp[n8],fun k _=>rfl,fun j o h=>by simp at h⟩
 |o::l,acc=>by
  obtain⟨h1,h2,h3⟩:=qm l (acc++[gn acc o.after.toList])
  simp only[n8]
  refine⟨by rw[h1];simp;omega,fun k hk=>by rw[h2 k (by simp;omega),List.getElem?_append_left hk],fun j oj hj=>?_⟩
  cases j with
  |zero=>
   simp at hj
   subst hj
   rw[Nat.add_zero,h2 acc.length (by simp)]
   have:(n8 l (acc++[gn acc o.after.toList])).take acc.length=acc:=by
    apply List.ext_getElem?
    intro k
    rw[List.getElem?_take]
    split
    ·rename_i hk;rw[h2 k (by simp;omega),List.getElem?_append_left hk]
    ·rename_i hk;rw[List.getElem?_eq_none (by omega)]
   rw[this]
   simp
  |succ j=>
   simp at hj
   have:=h3 j oj hj
   simp only[List.length_append,List.length_cons,List.length_nil]at this
   rw[show acc.length+(0+1)+j=acc.length+(j+1) by omega]at this
   exact this
theorem jG {acc:List Nat} {i:Nat}: ∀{l:List Edge},(gn acc l).testBit i=true-> ∃e∈l,Region.binds .any e=true/\(e.on=i\/(acc.getD e.on 0).testBit i=true)
 |[],h=>by simp[gn]at h
 |e::l,h=>by
  simp only[gn]at h
  split at h
  ·rename_i hb
   simp only[Nat.testBit_or,Bool.or_eq_true,Nat.testBit_two_pow,decide_eq_true_eq]at h
   rcases h with h|h|h
   ·exact⟨e,by simp,hb,.inl h⟩
   ·exact⟨e,by simp,hb,.inr h⟩
   ·obtain⟨e',h1,h2⟩:=jG h;exact⟨e',by simp[h1],h2⟩
  ·obtain⟨e',h1,h2⟩:=jG h;exact⟨e',by simp[h1],h2⟩
def Cu (ops:Array Oper) (p:Nat->Bool):Prop:= ∀(j:Nat) o,ops[j]?=some o->p j=true-> ∀e∈o.after,Region.binds .any e=true->p e.on=true
theorem Cg {p:Nat->Bool} (hp:Cu ops p) {i:Nat}: ∀(n j:Nat),j<n->j<ops.size->p j=true->((n8 ops.toList []).getD j 0).testBit i=true->p i=true:=by
 intro n
 induction n with
 |zero=>intro j h;omega
 |succ n ih=>
  intro j _ hjs hpj hbit
  obtain⟨h1,_,h3⟩:=qm ops.toList []
  have ho:ops.toList[j]?=some ops[j]:=by simp[hjs]
  have:=h3 j _ ho
  simp only[List.length_nil,Nat.zero_add]at this
  rw[List.getD_eq_getElem?_getD,this,Option.getD_some]at hbit
  obtain⟨e,he,hb,h⟩:=jG hbit
  have hpe:=hp j ops[j] (by simp[hjs]) hpj e (by simpa using he) hb
  rcases h with rfl|h
  ·exact hpe
  ·rw[List.getD_eq_getElem?_getD,List.getElem?_take]at h
   split at h
   ·rename_i hlt
    exact ih e.on (by omega) (by omega) hpe (by rw[List.getD_eq_getElem?_getD];exact h)
   ·simp at h
theorem oT {oj:Oper} {m:Nat}: ∀{l:List Oper} {i0:Nat},ta sep ops oj m l i0=true-> ∀(k:Nat) oi,l[k]?=some oi->m.testBit (i0+k)=true\/ms sep ops oi oj=true
 |[],i0,_,k,oi,h=>by simp at h
 |o::l,i0,h,k,oi,hk=>by
  simp only[ta,Bool.and_eq_true,Bool.or_eq_true]at h
  cases k with
  |zero=>simp at hk;subst hk;exact h.1
  |succ k=>
   simp at hk
   have:=oT h.2 k oi hk
   rwa[show i0+1+k=i0+(k+1) by omega]at this
theorem jL {A:List Nat}: ∀{l:List Oper} {j0:Nat},rO sep ops A l j0=true-> ∀(k:Nat) oj,l[k]?=some oj->(∀e∈oj.after,Region.binds .any e=true->e.on<j0+k)/\ta sep ops oj (A.getD (j0+k) 0) (ops.toList.take (j0+k)) 0=true
 |[],j0,_,k,oj,h=>by simp at h
 |o::l,j0,h,k,oj,hk=>by
  simp only[rO,Bool.and_eq_true]at h
  cases k with
  |zero=>
   simp at hk
   subst hk
   refine⟨fun e he hb=>?_,h.1.2⟩
   have:=h.1.1
   rw[Array.all_eq_true_iff_forall_mem]at this
   have:=this e he
   simpa[hb] using this
  |succ k=>
   simp at hk
   have:=jL h.2 k oj hk
   rwa[show j0+1+k=j0+(k+1) by omega]at this
theorem mu (h:eJ sep ops=true):(∀(j:Nat) o,ops[j]?=some o-> ∀e∈o.after,Region.binds .any e=true->e.on<j)/\
  ∀(i j:Nat) oi oj,i<j->ops[i]?=some oi->ops[j]?=some oj->((n8 ops.toList []).getD j 0).testBit i=true\/ms sep ops oi oj=true:=by
 unfold eJ at h
 rw[Bool.and_eq_true]at h
 replace h:=h.1
 refine⟨fun j o ho e he hb=>?_,fun i j oi oj hij hi hj=>?_⟩
 ·have:=(jL h j o (by simpa using ho)).1 e he hb;simpa using this
 ·have:=(jL h j oj (by simpa using hj)).2
  rw[Nat.zero_add]at this
  have:=oT this i oi (by rw[List.getElem?_take,if_pos hij];simpa using hi)
  rwa[Nat.zero_add]at this
variable {P:Program} {items:List (dN P)} {ow:List Nat}
noncomputable def iw (P:Program) (items:List (dN P)) (ow:List Nat) (ops:Array Oper) (i:Nat) (s:AS):Option AS:=match ops[i]? with
 |some o=>cz P items ow ops i o s
 |none=>none
noncomputable def fp (P:Program) (items:List (dN P)) (ow:List Nat) (ops:Array Oper):List Nat->AS->Option AS
 |[],s=>some s
 |i::l,s=>(iw P items ow ops i s).bind (fp P items ow ops l)
theorem mZ (l m:List Nat) (s:AS):fp P items ow ops (l++m) s=(fp P items ow ops l s).bind (fp P items ow ops m):=by
 induction l generalizing s with
 |nil=>rfl
 |cons i l ih=>
  simp only[List.cons_append,fp]
  cases iw P items ow ops i s with
  |none=>rfl
  |some s1=>exact ih s1
theorem ol (h:eJ sep ops=true) (hz: ∀x∈sep,iT P x.2.2≠some 1):BQ P sep ops:=⟨hz,fun j o ho x hx=>by
 unfold eJ at h
 rw[Bool.and_eq_true,List.all_eq_true]at h
 have h1:=h.2 o (by simpa using Array.mem_of_getElem? ho)
 rw[List.all_eq_true]at h1
 have h2:=h1 x hx
 simpa using h2⟩
theorem rC {s:AS} {d:Option Tmp} {t:TV} (hl:tE sep s) (hd: ∀x∈sep,d≠some x.1/\d≠some x.2.1):tE sep (s.put d t):=fun x hx a r i j b r' i' j' h1 h2=>by
 rw[lZ s d t x.1 (fun e he hex=>(hd x hx).1 (by rw[he,hex]))]at h1
 rw[lZ s d t x.2.1 (fun e he hex=>(hd x hx).2 (by rw[he,hex]))]at h2
 exact hl x hx a r i j b r' i' j' h1 h2
theorem tf {k:Nat->Nat->Bool} {t:TV} {a r i j:Nat} (h:aH k t= .one (.ptr a r i j)):t= .one (.ptr a r i j):=by
 cases t with
 |one x=>cases x<;>simp only[aH,aL]at h<;>(try split at h)<;>simp_all
 |agg cs=>cases h
 |fn f cs=>cases h
 |tup ts=>cases h
theorem A4 {tm:List TV} {H H':OH} {k:Nat->Nat->Bool} (hl:tE sep ⟨tm,H⟩):tE sep ⟨tm.map (aH k),H'⟩:=fun x hx a r i j b r' i' j' h1 h2=>by
 simp only[List.getElem?_map]at h1 h2
 obtain⟨t1,g1,g2⟩:=Option.map_eq_some_iff.1 h1
 obtain⟨t2,g3,g4⟩:=Option.map_eq_some_iff.1 h2
 rw[tf g2]at g1
 rw[tf g4]at g3
 exact hl x hx a r i j b r' i' j' g1 g3
theorem sy (hS:BQ P sep ops) {i:Nat} {o:Oper} {s s1:AS} (ho:ops[i]?=some o) (hl:AM sep s) (h:cz P items ow ops i o s=some s1):AM sep s1:=by
 refine⟨rx hl.1 h,?_⟩
 have hd:=hS.2 i o ho
 rw[cf]at h
 obtain⟨out,_,h⟩:=Option.bind_eq_some_iff.1 h
 cases out with
 |val t=>simp only[cG]at h;injection h with h;subst h;exact rC hl.2 hd
 |new t o' l=>
  simp only[cG]at h
  split at h
  ·rename_i e he
   split at h
   ·injection h with h;subst h
    rw[<- he]
    exact rC (s:=⟨s.tmps,_⟩) hl.2 hd
   ·cases h
  ·cases h
 |wr q=>simp only[cG]at h;injection h with h;subst h;exact rC (A4 (H:=s.H) hl.2) hd
theorem x5 (hS:BQ P sep ops) {l:List Nat} {s s':AS} (hl:AM sep s) (h:fp P items ow ops l s=some s'):AM sep s':=by
 induction l generalizing s with
 |nil=>simp only[fp]at h;injection h with h;subst h;exact hl
 |cons i l ih=>
  simp only[fp]at h
  obtain⟨s1,h1,h2⟩:=Option.bind_eq_some_iff.1 h
  unfold iw at h1
  split at h1
  ·rename_i o ho
   exact ih (sy hS ho hl h1) h2
  ·cases h1
theorem yv (tm:List TV):tm.map (aH fun _ _=>false)=tm:=by
 conv=>rhs;rw[<- List.map_id tm]
 exact List.map_congr_left fun t _=>i9 t
theorem uN {s:AS} {t:TypeId} {ad x:Operand} {q:uX} (hn:iT P t≠some 1) (h:bN P s.ev s.H (.store t ad x)=some q): ∃b r i j F,s.ev ad=some (.one (.ptr b r i j))/\q=⟨.undef,au s.H b F,fun _ _=>false⟩:=by
 simp only[bN]at h
 split at h
 ·rename_i a r i j n had hsz
  have hn1:n≠1:=fun e=>hn (by rw[hsz,e])
  split at h
  ·split at h
   ·split at h
    ·split at h
     ·split at h
      ·rename_i hc;exact absurd hc.1 hn1
      ·cases h
     ·split at h
      ·split at h
       ·rename_i hc;exact absurd hc.2.2.2.1 hn1
       ·cases h
      ·cases h
    ·split at h
     ·split at h
      ·injection h with h;exact⟨a,r,i,j,_,had,h.symm⟩
      ·cases h
     ·cases h
    ·cases h
   ·cases h
  ·cases h
 ·cases h
theorem Ar (hS:BQ P sep ops) {i j:Nat} {oi oj:Oper} {s s1 s':AS} (hp:Bc sep oi oj=true) (hl:AM sep s) (hij:iu ops oj oi.dst) (hji:iu ops oi oj.dst) (hd: ∀k,oi.dst=some k->oj.dst≠some k)
  (h1:cz P items ow ops i oi s=some s1) (h2:cz P items ow ops j oj s1=some s'): ∃s2,cz P items ow ops j oj s=some s2/\cz P items ow ops i oi s2=some s':=by
 unfold Bc at hp
 split at hp
 ·rename_i ty p t q x eqi eqj
  simp only[Bool.and_eq_true]at hp
  obtain⟨⟨hm,gi⟩,gj⟩:=hp
  have hm:(p,q,t)∈sep:=by simpa using hm
  have gi:oi.guard=none:=by simpa using gi
  have gj:oj.guard=none:=by simpa using gj
  rw[cf]at h1 h2
  obtain⟨ui,hui,h1⟩:=Option.bind_eq_some_iff.1 h1
  obtain⟨uj,huj,h2⟩:=Option.bind_eq_some_iff.1 h2
  have so: ∀s,dq P items ow ops i oi s=(ao P s.ev s.H oi.op).map .val:=fun s=>by
   unfold dq gate iH
   rw[gi]
   simp only
   rw[eqi]
   simp only[rm,Ci,Bool.false_eq_true,if_false,if_true]
  rw[so]at hui
  obtain⟨tv,htv,rfl⟩:=Option.map_eq_some_iff.1 hui
  simp only[cG]at h1
  injection h1 with h1
  subst h1
  rw[cM hij]at huj
  have huj':=huj
  unfold dq gate iH at huj'
  rw[gj]at huj'
  simp only at huj'
  rw[eqj]at huj'
  simp only[rm,Ci,Bool.false_eq_true,if_false]at huj'
  split at huj'
  ·rename_i qq hqq
   injection huj' with huj'
   subst huj'
   obtain⟨b,r',i',j',F,hb,rfl⟩:=uN (hS.1 _ hm) hqq
   simp only[cG]at h2
   injection h2 with h2
   subst h2
   refine⟨_,by rw[cf,huj];rfl,?_⟩
   rw[cf,cM hji,so]
   simp only[yv]
   have e:ao P (AS.ev ⟨s.tmps,au s.H b F⟩) (au s.H b F) oi.op=some tv:=by
    rw[<- htv]
    refine(pt (fun y hy=>?_) (fun y hy tt ht=>?_)).symm
    ·cases y<;>rfl
    ·rw[eqi]at hy
     have hy:y= .tmp p:=by simpa[Op.operands] using hy
     subst hy
     cases tt with
     |one z=>
      cases z with
      |ptr a r i0 j0=>
       have:=hl.2 _ hm a r i0 j0 b r' i' j' ht hb
       exact bv (fun hab=>this hab.symm)
      |sl a r off len=>simp only[eqi,ao,ht]at htv;cases htv
      |p y=>trivial
      |junk=>trivial
     |agg cs=>simp only[eqi,ao,ht]at htv;cases htv
     |fn f cs=>simp only[eqi,ao,ht]at htv;cases htv
     |tup ts=>simp only[eqi,ao,ht]at htv;cases htv
   rw[e]
   simp only[Option.map_some,Option.bind_some,cG]
   rw[eM _ _ _ (fun k hk hk'=>hd k hk' (by rw[hk]))]
   congr 2
   cases oi.dst<;>rfl
  ·split at huj'
   ·cases huj'
   ·simp only[aI,xJ]at huj';cases huj'
 ·cases hp
theorem yZ (hS:BQ P sep ops) {i j:Nat} {oi oj:Oper} {s s1 s':AS} (hp:ms sep ops oi oj=true) (hl:AM sep s) (h1:cz P items ow ops i oi s=some s1) (h2:cz P items ow ops j oj s1=some s'):
  ∃s2,cz P items ow ops j oj s=some s2/\cz P items ow ops i oi s2=some s':=by
 unfold ms at hp
 simp only[Bool.and_eq_true,Bool.or_eq_true]at hp
 obtain⟨ha,hc⟩:=hp
 obtain⟨a1,a2,a3⟩:=Oper.apart_spec ha
 rcases hc with hc|hc
 case inr=>exact Ar hS hc hl (fun e he=>a1 e he) (fun e he=>a3 e he) (fun k hk=>a2 k hk) h1 h2
 refine xS hl.1 (fun e he=>a1 e he) (fun e he=>a3 e he) (fun k hk=>a2 k hk) ?_ h1 h2
 rcases hc with(hc|hc)|hc
 ·exact .inl hc
 ·exact .inr (.inl hc)
 ·exact .inr (.inr ⟨uk hc.1,uk hc.2⟩)
theorem AW (hS:BQ P sep ops) {i:Nat} {oi:Oper} (hi:ops[i]?=some oi): ∀{l:List Nat} {s s':AS},AM sep s->(∀j∈l,∃oj,ops[j]?=some oj/\ms sep ops oi oj=true)->fp P items ow ops (i::l) s=some s'->
  ∃sm,fp P items ow ops l s=some sm/\iw P items ow ops i sm=some s'
 |[],s,s',_,_,h=>by
  simp only[fp]at h
  obtain⟨s1,h1,h2⟩:=Option.bind_eq_some_iff.1 h
  injection h2 with h2
  subst h2
  exact⟨s,rfl,h1⟩
 |j::l,s,s',hl,hj,h=>by
  simp only[fp]at h
  obtain⟨s1,h1,h⟩:=Option.bind_eq_some_iff.1 h
  obtain⟨s2,h2,h3⟩:=Option.bind_eq_some_iff.1 h
  obtain⟨oj,hoj,hp⟩:=hj j (by simp)
  unfold iw at h1 h2
  rw[hi]at h1
  rw[hoj]at h2
  obtain⟨t1,g1,g2⟩:=yZ hS hp hl h1 h2
  have hr:fp P items ow ops (i::l) t1=some s':=by
   simp only[fp,iw,hi]
   rw[g2]
   exact h3
  obtain⟨sm,k1,k2⟩:=AW hS hi (sy hS hoj hl g1) (fun j hj'=>hj j (by simp[hj'])) hr
  refine⟨sm,?_,k2⟩
  simp only[fp,iw,hoj]
  rw[g1]
  exact k1
def oy (n:Nat) (p:Nat->Bool):List Nat:=(List.range n).filter p
def ef (p:Nat->Bool) (i:Nat):Nat->Bool:=fun j=>j==i||p j
theorem me {n i:Nat} (hi:i<n) (p:Nat->Bool) (hp:p i=false):
  oy n p=(List.range i).filter p++(List.range' (i+1) (n-i-1)).filter p/\oy n (ef p i)=(List.range i).filter p++i::(List.range' (i+1) (n-i-1)).filter p:=by
 have hr:List.range n=List.range i++i::List.range' (i+1) (n-i-1):=by
  have h1:=List.range'_append_1 (s:=0) (m:=i) (n:=n-i-1+1)
  rw[show i+(n-i-1+1)=n by omega,Nat.zero_add,List.range'_succ]at h1
  rw[List.range_eq_range',List.range_eq_range']
  exact h1.symm
 unfold oy
 rw[hr]
 simp only[List.filter_append,List.filter_cons,hp]
 refine⟨by simp,?_⟩
 have e1:(List.range i).filter (ef p i)=(List.range i).filter p:=List.filter_congr fun j hj=>by
  have:j≠i:=by have:=List.mem_range.1 hj;omega
  simp[ef,this]
 have e2:(List.range' (i+1) (n-i-1)).filter (ef p i)=(List.range' (i+1) (n-i-1)).filter p:=List.filter_congr fun j hj=>by
  have:j≠i:=by have:=(List.mem_range'_1.1 hj).1;omega
  simp[ef,this]
 rw[e1,e2]
 simp[ef]
theorem sn (hS:BQ P sep ops) (hd:eJ sep ops=true) {p:Nat->Bool} (hc:Cu ops p) {i:Nat} (hi:i<ops.size) (hp:p i=false) {s0 s':AS} (hl:AM sep s0) (h:fp P items ow ops (oy ops.size (ef p i)) s0=some s'):
  ∃sm,fp P items ow ops (oy ops.size p) s0=some sm/\iw P items ow ops i sm=some s':=by
 obtain⟨e1,e2⟩:=me hi p hp
 rw[e2,mZ]at h
 obtain⟨s1,h1,h2⟩:=Option.bind_eq_some_iff.1 h
 have ho:ops[i]?=some ops[i]:=by simp[hi]
 obtain⟨sm,k1,k2⟩:=AW hS ho (x5 hS hl h1) (fun j hj=>by
  obtain⟨hj1,hj2⟩:=List.mem_filter.1 hj
  obtain⟨hj3,hj4⟩:=List.mem_range'_1.1 hj1
  have hjn:j<ops.size:=by omega
  refine⟨ops[j],by simp[hjn],?_⟩
  rcases(mu hd).2 i j ops[i] ops[j] (by omega) ho (by simp[hjn])with hb|hb
  ·exact absurd (Cg hc (j+1) j (by omega) hjn hj2 hb) (by simp[hp])
  ·exact hb) h2
 refine⟨sm,?_,k2⟩
 rw[e1,mZ,h1]
 exact k1
theorem wh {p:Nat->Bool} (hc:Cu ops p) {i:Nat} (h: ∀o,ops[i]?=some o-> ∀e∈o.after,Region.binds .any e=true->p e.on=true):Cu ops (ef p i):=fun j o ho hj e he hb=>by
 by_cases hji:j=i
 ·subst hji;simp[ef,h o ho e he hb]
 ·have:p j=true:=by simpa[ef,hji] using hj
  simp[ef,hc j o ho this e he hb]
theorem kj {n:Nat} {p:Nat->Bool}:(∀j,j<n->p j=true)\/ ∃i,i<n/\p i=false/\ ∀j,j<i->p j=true:=by
 by_cases h: ∃i,i<n/\p i=false
 ·obtain⟨i,⟨hi1,hi2⟩,hi3⟩:=ck h
  refine .inr ⟨i,hi1,hi2,fun j hj=>?_⟩
  cases hpj:p j with
  |true=>rfl
  |false=>have:=hi3 j ⟨by omega,hpj⟩;omega
 ·refine .inl fun j hj=>?_
  cases hpj:p j with
  |true=>rfl
  |false=>exact absurd ⟨j,hj,hpj⟩ h
theorem AE (hS:BQ P sep ops) (hd:eJ sep ops=true) {s0 sF:AS} (hl:AM sep s0) (hF:fp P items ow ops (List.range ops.size) s0=some sF): ∀(m:Nat) (p:Nat->Bool),((List.range ops.size).filter fun j=>!p j).length<=m->Cu ops p-> ∃s,fp P items ow ops (oy ops.size p) s0=some s:=by
 intro m
 induction m with
 |zero=>
  intro p hm _
  have hall: ∀j,j<ops.size->p j=true:=fun j hj=>by
   cases hpj:p j with
   |true=>rfl
   |false=>
    have:j∈(List.range ops.size).filter fun j=>!p j:=List.mem_filter.2 ⟨List.mem_range.2 hj,by simp[hpj]⟩
    have h0:=List.length_eq_zero_iff.1 (Nat.le_zero.1 hm)
    rw[h0]at this
    simp at this
  refine⟨sF,?_⟩
  unfold oy
  rw[List.filter_eq_self.2 (fun j hj=>hall j (List.mem_range.1 hj))]
  exact hF
 |succ m ih=>
  intro p hm hc
  rcases kj (n:=ops.size) (p:=p)with hall|⟨i,hi,hpi,hlt⟩
  ·refine⟨sF,?_⟩
   unfold oy
   rw[List.filter_eq_self.2 (fun j hj=>hall j (List.mem_range.1 hj))]
   exact hF
  ·have hc':Cu ops (ef p i):=wh hc fun o ho e he hb=>hlt _ ((mu hd).1 i o ho e he hb)
   have hcount:((List.range ops.size).filter fun j=>!ef p i j).length<=m:=by
    have hsub:((List.range ops.size).filter fun j=>!p j).length=((List.range ops.size).filter fun j=>!ef p i j).length+1:=by
     obtain⟨e1,e2⟩:=me hi (fun j=>!ef p i j) (by simp[ef])
     have e3:oy ops.size (ef (fun j=>!ef p i j) i)=(List.range ops.size).filter fun j=>!p j:=List.filter_congr fun j _=>by
      by_cases hji:j=i
      ·subst hji;simp[ef,hpi]
      ·have:(j==i)=false:=by simpa using hji
       simp only[ef,this,Bool.false_or]
     rw[<- e3,e2]
     show _=(oy ops.size fun j=>!ef p i j).length+1
     rw[e1]
     simp
     omega
    omega
   obtain⟨s,hs⟩:=ih (ef p i) hcount hc'
   obtain⟨sm,h1,_⟩:=sn hS hd hc hi hpi hl hs
   exact⟨sm,h1⟩
theorem jV: ∀(l:List Oper) (k:Nat) (s:AS),(∀(j:Nat) o,l[j]?=some o->ops[k+j]?=some o)->iz P items ow ops (l.zipIdx k) s=fp P items ow ops (List.range' k l.length) s
 |[],k,s,_=>rfl
 |o::l,k,s,h=>by
  simp only[List.zipIdx_cons,iz,List.length_cons,List.range'_succ,fp]
  have ho:ops[k]?=some o:=by have:=h 0 o rfl;simpa using this
  unfold iw
  rw[ho]
  simp only
  cases cz P items ow ops k o s with
  |none=>rfl
  |some s1=>
   simp only[Option.bind_some]
   exact jV l (k+1) s1 (fun j o hj=>by have:=h (j+1) o (by simpa using hj);rwa[show k+(j+1)=k+1+j by omega]at this)
theorem kD (hS:BQ P sep ops) (hd:eJ sep ops=true) {Q:Exit->Act->World->Prop} {s0 sF:AS} (R:(Nat->Bool)->AS->Act->World->Prop) (hl:AM sep s0) (hF:fp P items ow ops (List.range ops.size) s0=some sF) (hQ: ∀p a w,(∀j,j<ops.size->p j=true)->R p sF a w->Q .normal a w)
  (hstep: ∀(p:Nat->Bool) (i:Nat) (o:Oper) (s s1:AS) (a:Act) (w:World) (K:Act->World->Prop),ops[i]?=some o->p i=false->cz P items ow ops i o s=some s1->R p s a w->(∀v w',R (ef p i) s1 (a.put o.dst v) w'->K (a.put o.dst v) w')->if Region.wanted o (yielded ops a.tmps)then o.wp P a w K Q else K (a.put o.dst undef) w):
  ∀(fuel:Nat) (listed:Array Bool) (sL:AS) (a:Act) (w:World),listed.size=ops.size->Cu ops (fun j=>listed.getD j true)->((List.range ops.size).filter fun j=>!listed.getD j true).length<=fuel->fp P items ow ops (oy ops.size fun j=>listed.getD j true) s0=some sL->R (fun j=>listed.getD j true) sL a w->
   wpAny P .any ops Q fuel listed a w:=by
 have allQ: ∀(listed:Array Bool) (sL:AS) (a:Act) (w:World),(∀j,j<ops.size->listed.getD j true=true)->fp P items ow ops (oy ops.size fun j=>listed.getD j true) s0=some sL->R (fun j=>listed.getD j true) sL a w->Q .normal a w:=fun listed sL a w hall hs hr=>by
  unfold oy at hs
  rw[List.filter_eq_self.2 (fun j hj=>hall j (List.mem_range.1 hj)),hF]at hs
  injection hs with hs
  subst hs
  exact hQ _ a w hall hr
 have readyNil: ∀listed:Array Bool,listed.size=ops.size->Region.ready .any ops listed=[]-> ∀j,j<ops.size->listed.getD j true=true:=fun listed hsz hr=>by
  rcases kj (n:=ops.size) (p:=fun j=>listed.getD j true)with hall|⟨i,hi,hpi,hlt⟩
  ·exact hall
  ·exfalso
   have:i∈Region.ready .any ops listed:=mem_ready.2 ⟨hpi,ops[i],by simp[hi],fun e he hb=>by
    have hlt':=(mu hd).1 i ops[i] (by simp[hi]) e he hb
    have:=hlt e.on hlt'
    have hes:e.on<listed.size:=by omega
    simp[hes]at this⊢
    exact this⟩
   rw[hr]at this
   cases this
 intro fuel
 induction fuel with
 |zero=>
  intro listed sL a w hsz hc hm hs hr
  have hall: ∀j,j<ops.size->listed.getD j true=true:=fun j hj=>by
   cases hpj:listed.getD j true with
   |true=>rfl
   |false=>
    have:j∈(List.range ops.size).filter fun j=>!listed.getD j true:=List.mem_filter.2 ⟨List.mem_range.2 hj,by rw[hpj];rfl⟩
    have h0:=List.length_eq_zero_iff.1 (Nat.le_zero.1 hm)
    rw[h0]at this
    simp at this
  refine⟨?_,allQ listed sL a w hall hs hr⟩
  cases hrd:Region.ready .any ops listed with
  |nil=>rfl
  |cons i l=>
   exfalso
   have hi:i∈Region.ready .any ops listed:=by rw[hrd];simp
   obtain⟨h0,o,ho,_⟩:=mem_ready.1 hi
   rw[hall i (Array.getElem?_eq_some_iff.1 ho).1]at h0
   cases h0
 |succ fuel ih=>
  intro listed sL a w hsz hc hm hs hr
  refine⟨fun hrd=>allQ listed sL a w (readyNil listed hsz hrd) hs hr,fun i hi=>?_⟩
  obtain⟨h0,o,ho,hdeps⟩:=mem_ready.1 hi
  have hin:i<ops.size:=(Array.getElem?_eq_some_iff.1 ho).1
  have hset:(fun j=>(listed.setIfInBounds i true).getD j true)=ef (fun j=>listed.getD j true) i:=by
   funext j
   by_cases hji:j=i
   ·subst hji;simp[ef,hsz,hin]
   ·rw[getD_set_ne true (Ne.symm hji)];simp[ef,hji]
  have hc':Cu ops (ef (fun j=>listed.getD j true) i):=wh hc fun o' ho' e he hb=>by
   rw[ho]at ho'
   injection ho' with ho'
   subst ho'
   have h1:=hdeps e he hb
   have hes:e.on<listed.size:=by
    rcases Nat.lt_or_ge e.on listed.size with h|h
    ·exact h
    ·simp[Array.getElem?_eq_none h]at h1
   simp[hes]at h1⊢
   exact h1
  obtain⟨s1,hs1⟩:=AE hS hd hl hF _ (ef (fun j=>listed.getD j true) i) (Nat.le_refl _) hc'
  obtain⟨sm,k1,k2⟩:=sn hS hd hc hin h0 hl hs1
  rw[hs]at k1
  injection k1 with k1
  subst k1
  unfold iw at k2
  rw[ho]at k2
  have hcount:((List.range ops.size).filter fun j=>!(listed.setIfInBounds i true).getD j true).length<=fuel:=by
   have e0:((List.range ops.size).filter fun j=>!(listed.setIfInBounds i true).getD j true)=oy ops.size fun j=>!ef (fun j=>listed.getD j true) i j:=by rw[<- hset];rfl
   rw[e0]
   obtain⟨e1,e2⟩:=me hin (fun j=>!ef (fun j=>listed.getD j true) i j) (by simp[ef])
   have e3:oy ops.size (ef (fun j=>!ef (fun j=>listed.getD j true) i j) i)=(List.range ops.size).filter fun j=>!listed.getD j true:=List.filter_congr fun j _=>by
    by_cases hji:j=i
    ·subst hji;simp only[ef,beq_self_eq_true,Bool.true_or,Bool.not_true];rw[h0];rfl
    ·have:(j==i)=false:=by simpa using hji
     simp only[ef,this,Bool.false_or]
   have hlen:((List.range ops.size).filter fun j=>!listed.getD j true).length=(oy ops.size fun j=>!ef (fun j=>listed.getD j true) i j).length+1:=by
    rw[<- e3,e2,e1];simp;omega
   omega
  have hst:=hstep (fun j=>listed.getD j true) i o sL s1 a w (wpAny P .any ops Q fuel (listed.setIfInBounds i true)) ho h0 k2 hr (fun v w' hr'=>ih (listed.setIfInBounds i true) s1 _ _ (by simpa using hsz) (by rw[hset];exact hc') hcount (by rw[hset];exact hs1) (by rw[hset];exact hr'))
  unfold wpOp
  rw[ho]
  simp only
  split at hst
  ·rename_i hw;rw[if_pos hw];exact .inl hst
  ·rename_i hw;rw[if_neg hw];exact hst
theorem xP (hI:fc P items) (hS:BQ P sep ops) (hd:eJ sep ops=true) {w0:World} {O X:Nat->Prop} {Q:Exit->Act->World->Prop} {s0 sF:AS} (hl:AM sep s0) (hF:fp P items ow ops (List.range ops.size) s0=some sF) (hQ: ∀a w,fM w0 O X sF a w->Q .normal a w):
  ∀(fuel:Nat) (listed:Array Bool) (sL:AS) (a:Act) (w:World),listed.size=ops.size->Cu ops (fun j=>listed.getD j true)->((List.range ops.size).filter fun j=>!listed.getD j true).length<=fuel->fp P items ow ops (oy ops.size fun j=>listed.getD j true) s0=some sL->fM w0 O X sL a w->
   wpAny P .any ops Q fuel listed a w:=
 kD hS hd (fun _ s a w=>fM w0 O X s a w) hl hF (fun _ a w _ hr=>hQ a w hr) (fun _ _ _ _ _ _ _ _ _ _ h hr hK=>gO (Q:=Q) hI hr h hK)
theorem jT (hm:P.follows .mixedOrders=true) (items:List (ar P)) (ow:List Nat) {id:Nat} (hd:eJ sep ops=true) (hz: ∀x∈sep,iT P x.2.2≠some 1) {s:AS} (hs:tE sep s) {Q:Exit->AS->Prop} (hl:s.tmps.length<=1000000) (h:dS P (items.map ar.a) ow (cY ops ops.toList 0) (some s) (Q .normal)):bX P (.region id ops true) Q s:=by
 obtain⟨sF,h1,h2⟩:=dw P (items.map ar.a) ow ops ops.toList 0 s (Q .normal) hl h
 intro w0 O X a w r
 refine wp_region_any hm ?_
 have hF:fp P (items.map ar.a) ow ops (List.range ops.size) s=some sF:=by
  rw[List.range_eq_range']
  have:=jV (P:=P) (items:=items.map ar.a) (ow:=ow) ops.toList 0 s (fun j o hj=>by simpa using hj)
  rw[h1]at this
  simpa using this.symm
 have hr':fM w0 O X s a {w with drawn:=w.drawn+1}:=by
  obtain⟨q1,q2,ρ,hinv,htm⟩:=r
  have e:Ext w {w with drawn:=w.drawn+1}:=⟨rfl,rfl,rfl,Nat.le_refl _,fun _ _=>rfl⟩
  have htm:cn X ρ s a w:=htm
  exact⟨q1,q2,ρ,hinv.grow e,htm.grow e⟩
 refine xP (ar.ok items) (ol hd hz) hd ⟨jC r,hs⟩ hF (Q:=fun e a' w'=> ∃s',Q e s'/\fM w0 O X s' a' w') (fun a w hr=>⟨sF,h2,hr⟩) ops.size (Array.replicate ops.size false) s a _ (by simp) ?_ ?_ ?_ hr'
 ·intro j o ho hp
  have hj:j<ops.size:=(Array.getElem?_eq_some_iff.1 ho).1
  simp[hj]at hp
 ·exact Nat.le_trans (List.length_filter_le _ _) (by simp)
 ·have:oy ops.size (fun j=>(Array.replicate ops.size false).getD j true)=[]:=by
   unfold oy
   rw[List.filter_eq_nil_iff]
   intro j hj
   have:=List.mem_range.1 hj
   simp[this]
  rw[this]
  rfl
theorem bM (hm:P.follows .mixedOrders=true) (items:List (ar P)) (ow:List Nat) {id:Nat} {y:Code} (hd:eJ [] ops=true) {s:AS} {Q:Exit->AS->Prop} (hl:s.tmps.length<=1000000) (h: ∀K:AS->Prop,(∀s',bX P y Q s'->K s')->dS P (items.map ar.a) ow (cY ops ops.toList 0) (some s) K):bX P (.seq (.region id ops true) y) Q s:=
 ae (jT hm items ow hd (by simp) (fun x hx=>by simp at hx) hl (h _ fun _ h=>h))
theorem fB (hm:P.follows .mixedOrders=true) (items:List (ar P)) (ow:List Nat) {id:Nat} (hd:eJ [] ops=true) {s:AS} {Q:Exit->AS->Prop} (hl:s.tmps.length<=1000000) (h: ∀K:AS->Prop,(∀s',Q .normal s'->K s')->dS P (items.map ar.a) ow (cY ops ops.toList 0) (some s) K):bX P (.region id ops true) Q s:=
 jT hm items ow hd (by simp) (fun x hx=>by simp at hx) hl (h _ fun _ h=>h)
theorem oH (sep:List (Nat×Nat×Nat)) (hm:P.follows .mixedOrders=true) (items:List (ar P)) (ow:List Nat) {id:Nat} {y:Code} (hd:eJ sep ops=true) (hz: ∀x∈sep,iT P x.2.2≠some 1) {s:AS} (hs:tE sep s) {Q:Exit->AS->Prop} (hl:s.tmps.length<=1000000) (h: ∀K:AS->Prop,(∀s',bX P y Q s'->K s')->dS P (items.map ar.a) ow (cY ops ops.toList 0) (some s) K):bX P (.seq (.region id ops true) y) Q s:=
 ae (jT hm items ow hd hz hs hl (h _ fun _ h=>h))
end
end
theorem j7 {n:Nat} (h: ¬n=0):n/4294967296<n:=Nat.div_lt_self (by omega) (by omega)
def aK (n:Nat):List Nat:=if n=0 then[]else n%4294967296::aK (n/4294967296)
termination_by n
decreasing_by exact j7 (by assumption)
theorem cD:aK 0=[]:=by rw[aK];simp
theorem jW {n:Nat} (h:n≠0):aK n=n%4294967296::aK (n/4294967296):=by rw[aK];simp[h]
theorem aG (n:Nat):natV (aK n)=n:=by
 induction n using Nat.strongRecOn with
 |_ n ih=>
  by_cases h:n=0
  ·subst h;rw[cD];rfl
  ·rw[jW h,natV,ih _ (j7 h)];omega
theorem aY (n:Nat):Lmb (aK n):=by
 induction n using Nat.strongRecOn with
 |_ n ih=>
  by_cases h:n=0
  ·subst h;rw[cD];intro a ha;simp at ha
  ·rw[jW h]
   intro a ha
   rcases List.mem_cons.1 ha with rfl|ha
   ·omega
   ·exact ih _ (j7 h) a ha
theorem cw (n:Nat):kH (aK n):=by
 induction n using Nat.strongRecOn with
 |_ n ih=>
  by_cases h:n=0
  ·subst h;rw[cD];simp[kH]
  ·rw[jW h]
   by_cases h2:n/4294967296=0
   ·rw[h2,cD];simp[kH];omega
   ·have:=ih _ (j7 h)
    rw[jW h2]at this⊢
    unfold kH at*
    rw[List.getLast?_cons_cons];exact this
theorem zo {l:List Nat} (h1:Lmb l) (h2:kH l):l=aK (natV l):=
 Cn h1 (aY _) h2 (cw _) (aG _).symm
theorem dU {l:List Nat} (h1:Lmb l):dG l=aK (natV l):=by
 rw[zo (zP h1) (Bi l),yl]
theorem fx (n:Nat):dG (aK n)=aK n:=m0 (cw n)
theorem re {n:Nat}:aK n=[]↔n=0:=⟨fun h=>by rw[<- aG n,h];rfl,fun h=>by rw[h,cD]⟩
theorem gB {n k:Nat} (h:n<4294967296^k):(aK n).length<=k:=vh (cw n) (by rw[aG];exact h)
theorem eF {n:Nat}:(aK n).length=0↔n=0:=by rw[List.length_eq_zero_iff,re]
def Sz (z:Int) (k:Nat):Prop:=z.natAbs<4294967296^k
theorem Sz.len {z:Int} {k:Nat} (h:Sz z k):(aK z.natAbs).length<=k:=gB h
theorem Sz.mono {z:Int} {k l:Nat} (h:Sz z k) (hl:k<=l):Sz z l:=Nat.lt_of_lt_of_le h (Nat.pow_le_pow_right (by omega) hl)
def fZ (z:Int):List PV:=[.raw (.bool (decide (z<0))),.sl (ls fU (aK z.natAbs))]
def cZ (z:Int):List AV:=[.p (.raw (.bool (decide (z<0)))),.p (.sl (ls fU (aK z.natAbs)))]
abbrev tZ (z:Int):TV:= .agg [.p (.raw (.bool (decide (z<0)))),.p (.sl (ls fU (aK z.natAbs)))]
theorem jw (neg:Bool) (n:Nat):(eY neg n).natAbs=n:=by unfold eY;split<;>simp
theorem rl (neg:Bool) (n:Nat):decide (eY neg n<0)=(neg&&decide (0<n)):=by
 unfold eY
 cases neg with
 |true=>simp
 |false=>simp
theorem gK (neg:Bool) (l:List Nat) (h:Lmb l) (hb:l.length<=1073741824):CallC Tryz.prog 97 [.raw (.bool neg),bO l] ⟨[],tZ (eY neg (natV l))⟩:=by
 have ht:=gL l hb
 rw[dU h]at ht
 have hlen:(aK (natV l)).length<=1073741824:=by rw[<- dU h];exact Nat.le_trans (A0 l) hb
 refine aC Tryz.func97 rfl (by kernel_rfl) ?_;rw[Tryz.ntmps97]
 (refine aa [] fun K hK=>?_;simp(disch:=omega) only[kc,ab,bO,Nat.reduceAdd,List.replicate,bs,aT,aI,aZ,Value.oneCell',bL];apply hK)
 (refine aa [⟨1,_,_,_,ht⟩] fun K hK=>?_;simp(disch:=omega) only[kc,bO,ar.a,ab,Nat.reduceAdd,ak,aT,aI,List.find?_cons,aQ,bo,CallRes.plain,aR,aV,az,noRefTV,ap,aS,aP];apply hK)
 cases neg with
 |false=>
  (refine aa [] fun K hK=>?_;simp(disch:=omega) only[kc,ab,Nat.reduceAdd,aA,aq,ao,ah,Option.map_none,aj,ac,Value.oneCell',aM,eh,aZ,eI,ex,cellsOf,Nat.reduceLeDiff,Nat.le_refl,bL,aB,dr,bN,aF,au,isPure,putCells,aH,aL];apply hK)
  refine aE ⟨.inr rfl,aJ rfl ?_ rfl⟩
  simp(disch:=omega) only[kc,bK,Tryz.results97,aN,au,cH,ax,aF,aW,Nat.reduceAdd,Nat.le_refl,tZ]
  simp[tZ,jw,rl]
 |true=>
  (refine aa [] fun K hK=>?_;simp(disch:=omega) only[kc,ab,Nat.reduceAdd,aA,aq,ao,ah,aD,aj,ac,Value.oneCell',bL,ai,aM,eh,aZ,eI,ex,cellsOf,Nat.reduceLeDiff,Nat.le_refl,aB,dr,bN,aF,au,isPure,putCells,aH,aL];apply hK)
  refine aE ⟨.inr rfl,aJ rfl ?_ rfl⟩
  simp(disch:=omega) only[kc,bK,Tryz.results97,aN,au,cH,ax,aF,aW,Nat.reduceAdd,Nat.le_refl,tZ]
  have:(0<(aK (natV l)).length)↔0<natV l:=by
   have:=eF (n:=natV l)
   omega
  simp[tZ,jw,rl,this]
abbrev Bg (z:Int):Prop:=Sz z 1073741824
theorem Bg.len {z:Int} (h:Bg z):(aK z.natAbs).length<=1073741824:=gB h
theorem vo (z:Int):eY (!decide (z<0)) z.natAbs= -z:=by unfold eY;by_cases h:z<0<;>simp[h]<;>omega
theorem rA (z:Int):eY (decide (z<0)) z.natAbs=z:=by unfold eY;by_cases h:z<0<;>simp[h]<;>omega
theorem DC (z:Int) (h:Bg z):CallC Tryz.prog 103 [tZ z] ⟨[],tZ (-z)⟩:=by
 have ht:=gK (!decide (z<0)) (aK z.natAbs) (aY _) h.len
 rw[aG,vo]at ht
 refine aC Tryz.func103 rfl (by kernel_rfl) ?_;rw[Tryz.ntmps103]
 (refine aa [] fun K hK=>?_;simp(disch:=omega) only[kc,ab,tZ,List.replicate,cd,aT,aI,cellsOf,isPure,Nat.reduceAdd,bL,bs,aZ,Value.oneCell',au,Nat.reduceEqDiff];apply hK)
 (refine aa [⟨5,_,_,_,ht⟩] fun K hK=>?_;simp(disch:=omega) only[kc,bO,tZ,ar.a,ab,Nat.reduceAdd,aw,ao,bJ,cC,Nat.add_zero,au,Nat.reduceEqDiff,ax,cg,cX,aj,eA,bH,cb,bW,ak,aT,aI,List.find?_cons,aQ,bo,CallRes.plain,aR,aV,az,noRefTV,ap,aS,aP,aB,dr,bN,aF,cellsOf,Nat.le_refl,isPure,bL,putCells,aH,aL];apply hK)
 (refine aE ⟨.inr rfl,aJ rfl ?_ rfl⟩;simp(disch:=omega) only[kc,bK,Tryz.results103,aN,au,Nat.reduceEqDiff,cH,ax,aF,aW,Nat.reduceAdd,Nat.le_refl,tZ])
theorem EJ (z:Int) (h:Bg z):CallC Tryz.prog 57 [tZ z] ⟨[],tZ z.natAbs⟩:=by
 have ht:=gK false (aK z.natAbs) (aY _) h.len
 rw[aG,show eY false z.natAbs=z.natAbs from rfl]at ht
 refine aC Tryz.func57 rfl (by kernel_rfl) ?_;rw[Tryz.ntmps57]
 (refine aa [] fun K hK=>?_;simp(disch:=omega) only[kc,ab,tZ,List.replicate,cd,aT,aI,cellsOf,isPure,Nat.reduceAdd,bL,bs,aZ,Value.oneCell',au,Nat.reduceEqDiff];apply hK)
 (refine aa [⟨2,_,_,_,ht⟩] fun K hK=>?_;simp(disch:=omega) only[kc,bO,tZ,bj,ar.a,ab,Nat.reduceAdd,aw,ao,bH,cb,au,Nat.reduceEqDiff,ax,bW,ak,aT,aI,List.find?_cons,aQ,ac,Value.oneCell',bo,CallRes.plain,aR,aV,az,noRefTV,ap,aS,aP,aB,dr,bN,aF,cellsOf,Nat.le_refl,isPure,bL,putCells,aH,aL];apply hK)
 (refine aE ⟨.inr rfl,aJ rfl ?_ rfl⟩;simp(disch:=omega) only[kc,bK,Tryz.results57,aN,au,Nat.reduceEqDiff,cH,ax,aF,aW,Nat.reduceAdd,Nat.le_refl,tZ,bj])
theorem D8 (z:Int) (h:Bg z):CallC Tryz.prog 100 [tZ z] ⟨[],tZ z⟩:=by
 have ht:=gK (decide (z<0)) (aK z.natAbs) (aY _) h.len
 rw[aG,rA]at ht
 refine aC Tryz.func100 rfl (by kernel_rfl) ?_;rw[Tryz.ntmps100]
 (refine aa [] fun K hK=>?_;simp(disch:=omega) only[kc,ab,tZ,List.replicate,cd,aT,aI,cellsOf,isPure,Nat.reduceAdd,bL,bs,aZ,Value.oneCell',au,Nat.reduceEqDiff];apply hK)
 (refine aa [⟨4,_,_,_,ht⟩] fun K hK=>?_;simp(disch:=omega) only[kc,bO,tZ,ar.a,ab,Nat.reduceAdd,aw,ao,bJ,cC,Nat.add_zero,au,Nat.reduceEqDiff,ax,cg,bH,cb,bW,ak,aT,aI,List.find?_cons,aQ,bo,CallRes.plain,aR,aV,az,noRefTV,ap,aS,aP,aB,dr,bN,aF,cellsOf,Nat.le_refl,isPure,bL,putCells,aH,aL];apply hK)
 (refine aE ⟨.inr rfl,aJ rfl ?_ rfl⟩;simp(disch:=omega) only[kc,bK,Tryz.results100,aN,au,Nat.reduceEqDiff,cH,ax,aF,aW,Nat.reduceAdd,Nat.le_refl,tZ])
theorem sc (neg:Bool) (u:Nat) (hu:u<18446744073709551616):CallC Tryz.prog 91 [.raw (.bool neg),.raw (.int .u64 u)] ⟨[],tZ (eY neg u)⟩:=by
 have ht:=gK neg [u%4294967296,u/4294967296] (by intro a ha;simp at ha;omega) (by simp)
 rw[pZ]at ht
 have e1:IntKind.u32.wrap (u:Int)=((u%4294967296:Nat):Int):=by rw[IntKind.wrap_u32];omega
 have e2:IntKind.u32.wrap ((u:Int).fdiv (2^(min (32:Int).toNat IntKind.u64.bits)))=((u/4294967296:Nat):Int):=by
  rw[IntKind.wrap_u32]
  show(Int.fdiv (u:Int) 4294967296)%4294967296=_
  rw[Int.fdiv_eq_ediv_of_nonneg _ (by omega)]
  omega
 simp only[Int.reduceToNat]at e2
 refine aC Tryz.func91 rfl (by kernel_rfl) ?_;rw[Tryz.ntmps91]
 (refine aa [] fun K hK=>?_;simp(disch:=omega) only[kc,ab,Nat.reduceAdd,List.replicate,bs,aT,aI,aZ,Value.oneCell',bL];apply hK)
 (refine aa [⟨7,_,_,_,ht⟩] fun K hK=>?_;simp(disch:=omega) only[kc,bO,xp,fU,gS,tZ,ar.a,ab,Nat.reduceAdd,bf,aj,Tryz.underlying88,bZ,e1,ac,Value.oneCell',ai,Int.reduceLE,Int.reduceToNat,e2,co,aT,aI,ah,cp,aO,fW,cellsOf,isPure,Nat.reduceMul,Nat.reduceLeDiff,List.contains_nil,kW,bL,ak,List.find?_cons,aQ,bo,CallRes.plain,aR,aV,az,noRefTV,ap,aS,aP,aB,dr,bN,aF,au,Nat.le_refl,putCells,aH,aL];apply hK)
 (refine aE ⟨.inr rfl,aJ rfl ?_ rfl⟩;simp(disch:=omega) only[kc,bK,Tryz.results91,aN,au,cH,ax,aF,aW,Nat.reduceAdd,Nat.le_refl,tZ])
theorem ns (n:Int) (h1: -9223372036854775808<=n) (h2:n<=9223372036854775807):CallC Tryz.prog 54 [.raw (.int .i64 n)] ⟨[],tZ n⟩:=by
 by_cases hn:n<0
 ·have ht:=sc true n.natAbs (by omega)
  have e1:IntKind.u64.wrap (0-IntKind.u64.wrap n)=((n.natAbs:Nat):Int):=by rw[IntKind.wrap_u64,IntKind.wrap_u64];omega
  rw[show eY true n.natAbs=n by unfold eY;simp;omega]at ht
  refine aC Tryz.func54 rfl (by kernel_rfl) ?_;rw[Tryz.ntmps54]
  (refine aa [] fun K hK=>?_;simp(disch:=omega) only[kc,ab,List.replicate,bs,aT,aI,aZ,Value.oneCell',Nat.reduceAdd,bL];apply hK)
  (refine ae (aa [] fun K hK=>?_);simp(disch:=omega) only[kc,ab,aj,ac,Value.oneCell',ai,bE];apply hK)
  refine af rfl (fun _=>?_) (fun h=>by simp at h)
  (refine aa [⟨3,_,_,_,ht⟩] fun K hK=>?_;simp(disch:=omega) only[kc,tZ,bE,ar.a,ab,Nat.reduceAdd,bf,aj,Tryz.underlying2,bP,cX,eA,e1,ak,aT,aI,List.find?_cons,aQ,ac,Value.oneCell',bo,CallRes.plain,aR,aV,az,noRefTV,ap,aS,aP,aB,dr,bN,aF,au,cellsOf,Nat.le_refl,isPure,bL,putCells,aH,aL];apply hK)
  (refine aE ⟨.inr rfl,aJ rfl ?_ rfl⟩;simp(disch:=omega) only[kc,bK,Tryz.results54,aN,au,cH,ax,aF,aW,Nat.reduceAdd,Nat.le_refl,tZ,bE])
 ·have ht:=sc false n.natAbs (by omega)
  have e1:IntKind.u64.wrap n=((n.natAbs:Nat):Int):=by rw[IntKind.wrap_u64];omega
  rw[show eY false n.natAbs=n by unfold eY;simp;omega]at ht
  refine aC Tryz.func54 rfl (by kernel_rfl) ?_;rw[Tryz.ntmps54]
  (refine aa [] fun K hK=>?_;simp(disch:=omega) only[kc,ab,List.replicate,bs,aT,aI,aZ,Value.oneCell',Nat.reduceAdd,bL];apply hK)
  (refine ae (aa [] fun K hK=>?_);simp(disch:=omega) only[kc,ab,aj,ac,Value.oneCell',ai,bj];apply hK)
  refine af rfl (fun h=>by simp at h) (fun _=>ay ?_)
  show bX _ _ _ _
  (refine aa [⟨2,_,_,_,ht⟩] fun K hK=>?_;simp(disch:=omega) only[kc,tZ,bj,ar.a,ab,Nat.reduceAdd,bf,aj,Tryz.underlying2,bP,e1,ak,aT,aI,List.find?_cons,aQ,ac,Value.oneCell',bo,CallRes.plain,aR,aV,az,noRefTV,ap,aS,aP,aB,dr,bN,aF,au,cellsOf,Nat.le_refl,isPure,bL,putCells,aH,aL];apply hK)
  (refine aE ⟨.inr rfl,aJ rfl ?_ rfl⟩;simp(disch:=omega) only[kc,bK,Tryz.results54,aN,au,cH,ax,aF,aW,Nat.reduceAdd,Nat.le_refl,tZ,bj])
theorem pb (z:Int) (h:Bg z):CallC Tryz.prog 94 [tZ z] ⟨[],.raw (.int .i64 (sg z))⟩:=by
 have ht:=gL (aK z.natAbs) h.len
 rw[fx]at ht
 have hl:=eF (n:=z.natAbs)
 rcases Int.lt_trichotomy z 0 with hz|hz|hz
 ·have e:sg z= -1:=by simp[sg,hz]
  have hl':(aK z.natAbs).length≠0:=by omega
  rw[e]
  refine aC Tryz.func94 rfl (by kernel_rfl) ?_;rw[Tryz.ntmps94]
  (refine aa [] fun K hK=>?_;simp(disch:=omega) only[kc,ab,tZ,bE,List.replicate,cd,aT,aI,cellsOf,isPure,Nat.reduceAdd,bL,ac,Value.oneCell'];apply hK)
  refine ae (aU ?_)
  (refine aa [⟨2,_,_,_,ht⟩] fun K hK=>?_;simp(disch:=omega) only[kc,bO,ar.a,ab,Nat.reduceAdd,aw,ao,bH,cb,au,ax,bW,ak,aT,aI,List.find?_cons,aQ,bo,CallRes.plain,aR,aV,az,noRefTV,ap,aS,aP,aq,ah,aD,aj,ac,Value.oneCell',ai,bj];apply hK)
  refine af rfl (fun h=>by simp at h) (fun _=>?_)
  (refine aa [] fun K hK=>?_;simp(disch:=omega) only[kc,ab,Nat.reduceAdd,aw,ao,bJ,cC,Nat.add_zero,au,ax,cg];apply hK)
  refine af rfl (fun _=>?_) (fun h=>by simp at h)
  (refine aa [] fun K hK=>?_;simp(disch:=omega) only[kc,ab,ac,Value.oneCell'];apply hK)
  (refine aE ⟨.inr rfl,aJ rfl ?_ rfl⟩;simp(disch:=omega) only[bK,Tryz.results94,aN,List.getElem?_cons_succ,List.getElem?_cons_zero])
 ·subst hz
  rw[show sg 0=0 from rfl]
  rw[Int.natAbs_zero,cD]at ht
  rw[show tZ 0= .agg [.p (.raw (.bool false)),.p (.sl (ls fU []))]from by simp[tZ,cD]]
  refine aC Tryz.func94 rfl (by kernel_rfl) ?_;rw[Tryz.ntmps94]
  (refine aa [] fun K hK=>?_;simp(disch:=omega) only[kc,ab,gS,List.replicate,cd,aT,aI,cellsOf,isPure,Nat.reduceAdd,bL,ac,Value.oneCell'];apply hK)
  refine ae (aU ?_)
  (refine aa [⟨2,_,_,_,ht⟩] fun K hK=>?_;simp(disch:=omega) only[kc,bO,gS,ar.a,ab,Nat.reduceAdd,aw,ao,bH,cb,au,ax,bW,ak,aT,aI,List.find?_cons,aQ,bo,CallRes.plain,aR,aV,az,noRefTV,ap,aS,aP,aq,ah,aj,ac,Value.oneCell',ai,bE];apply hK)
  refine af rfl (fun _=>?_) (fun h=>by simp at h)
  (refine aa [] fun K hK=>?_;simp(disch:=omega) only[kc,ab,ac,Value.oneCell'];apply hK)
  (refine aE ⟨.inr rfl,aJ rfl ?_ rfl⟩;simp(disch:=omega) only[bK,Tryz.results94,aN,List.getElem?_cons_succ,List.getElem?_cons_zero])
 ·have e:sg z=1:=by unfold sg;rw[if_neg (by omega),if_neg (by omega)]
  have hl':(aK z.natAbs).length≠0:=by omega
  rw[e]
  refine aC Tryz.func94 rfl (by kernel_rfl) ?_;rw[Tryz.ntmps94]
  (refine aa [] fun K hK=>?_;simp(disch:=omega) only[kc,ab,tZ,bj,List.replicate,cd,aT,aI,cellsOf,isPure,Nat.reduceAdd,bL,ac,Value.oneCell'];apply hK)
  refine ae (aU ?_)
  (refine aa [⟨2,_,_,_,ht⟩] fun K hK=>?_;simp(disch:=omega) only[kc,bO,ar.a,ab,Nat.reduceAdd,aw,ao,bH,cb,au,ax,bW,ak,aT,aI,List.find?_cons,aQ,bo,CallRes.plain,aR,aV,az,noRefTV,ap,aS,aP,aq,ah,aD,aj,ac,Value.oneCell',ai,bj];apply hK)
  refine af rfl (fun h=>by simp at h) (fun _=>?_)
  (refine aa [] fun K hK=>?_;simp(disch:=omega) only[kc,ab,Nat.reduceAdd,aw,ao,bJ,cC,Nat.add_zero,au,ax,cg];apply hK)
  refine af rfl (fun h=>by simp at h) (fun _=>ay ?_)
  show bX _ _ _ _
  (refine aa [] fun K hK=>?_;simp(disch:=omega) only[kc,ab,ac,Value.oneCell'];apply hK)
  (refine aE ⟨.inr rfl,aJ rfl ?_ rfl⟩;simp(disch:=omega) only[bK,Tryz.results94,aN,List.getElem?_cons_succ,List.getElem?_cons_zero])
theorem wP (l m:List Nat) (ll:Lmb l) (lm:Lmb m) (cl:kH l) (cm:kH m) (bl:l.length<=1073741824) (bm:m.length<=1073741824):
  CallC Tryz.prog 95 [bO l,bO m] ⟨[],.raw (.int .i64 (fg (natV l) (natV m)))⟩:=by
 rcases Nat.lt_trichotomy l.length m.length with hlt|heq|hgt
 ·rw[jU (fX ll cm hlt)]
  refine aC Tryz.func95 rfl (by kernel_rfl) ?_;rw[Tryz.ntmps95]
  (refine aa [] fun K hK=>?_;simp(disch:=omega) only[kc,ab,bO,Nat.reduceAdd,List.replicate,ac,Value.oneCell'];apply hK)
  (refine ae (aa [] fun K hK=>?_);simp(disch:=omega) only[kc,ab,Nat.reduceAdd,aq,ao,ah,aD,aj,ai,bj,Bool.not_false];apply hK)
  refine af rfl (fun _=>?_) (fun h=>by simp at h)
  (refine ae (aa [] fun K hK=>?_);simp(disch:=omega) only[kc,ab,Nat.reduceAdd,aq,ao,ah,aD,aj,ai,bE];apply hK)
  refine af rfl (fun _=>?_) (fun h=>by simp at h)
  (refine aa [] fun K hK=>?_;simp(disch:=omega) only[kc,ab,ac,Value.oneCell'];apply hK)
  (refine aE ⟨.inr rfl,aJ rfl ?_ rfl⟩;simp(disch:=omega) only[bK,Tryz.results95,aN,List.getElem?_cons_succ,List.getElem?_cons_zero])
 ·refine aC Tryz.func95 rfl (by kernel_rfl) ?_;rw[Tryz.ntmps95]
  (refine aa [] fun K hK=>?_;simp(disch:=omega) only[kc,ab,bO,Nat.reduceAdd,List.replicate,ac,Value.oneCell'];apply hK)
  (refine ae (aa [] fun K hK=>?_);simp(disch:=omega) only[kc,ab,Nat.reduceAdd,aq,ao,ah,aD,aj,ai,bE];apply hK)
  refine af rfl (fun h=>by simp at h) (fun _=>ay ?_)
  show bX _ _ _ _
  (refine ae (aa [] fun K hK=>?_);simp(disch:=omega) only[kc,ab,Nat.reduceAdd,aq,ao,ah,aD,aj,ac,Value.oneCell',ai,bC];apply hK)
  refine bT (G:={k:Nat//k<=l.length/\l.drop k=m.drop k}) (fun k=>⟨[bO l,bO m,jk,jk,.raw (.int .i64 0),.raw (.int .i64 ((k.1:Int)-1)),jk,jk,jk,jk,jk,jk,jk,jk,jk,jk,jk,jk,jk,jk,jk,jk,jk,jk,jk,jk,jk,jk,jk,jk,jk,jk,jk,jk,jk,jk,jk,jk,jk,jk,jk],Hm []⟩) (fun k=>k.1) ⟨l.length,Nat.le_refl _,by rw[List.drop_length,heq,List.drop_length]⟩ ?_ ?_
  ·refine am trivial ?_
   simp[cu,bD,bA]
  ·rintro⟨k,hk,hd⟩
   simp only
   by_cases h0:0<k
   ·obtain⟨a,ha⟩:=getElem?_of_lt (l:=l) (k:=k-1) (by omega)
    obtain⟨b,hb⟩:=getElem?_of_lt (l:=m) (k:=k-1) (by omega)
    have e1:((k:Int)-1).toNat=k-1:=by omega
    have hd':l.drop (k-1+1)=m.drop (k-1+1):=by rw[show k-1+1=k by omega];exact hd
    (refine ae (aa [] fun K hK=>?_);simp(disch:=omega) only[kc,ab,bO,Hm,aj,ac,Value.oneCell',ai,bE];apply hK)
    refine af rfl (fun _=>ay ?_) (fun h=>by simp at h)
    refine ae (aU ?_)
    (refine bM bU [] [] (by kernel_rfl) (by simp) fun K hK=>?_;simp(disch:=omega) only[kc,ab,Nat.reduceAdd,ag,ao,an,e1,ah,bI,ha,fU,aO,ax,bu,hb,aj,ai];apply hK)
    rcases Nat.lt_trichotomy a b with hab|hab|hab
    ·rw[jU (i5 ll ha hb hd' hab)]
     refine af rfl (fun _=>?_) (fun h=>by simp at h<;>omega)
     (refine ae (bM bU [] [] (by kernel_rfl) (by simp) fun K hK=>?_);simp(disch:=omega) only[kc,ab,Nat.reduceAdd,bj,Bool.not_false,ag,ao,an,e1,ah,bI,ha,fU,aO,ax,bu,hb,aj,ai,bE];apply hK)
     refine af rfl (fun _=>?_) (fun h=>by simp at h)
     (refine aa [] fun K hK=>?_;simp(disch:=omega) only[kc,ab,ac,Value.oneCell'];apply hK)
     (refine aE ⟨.inr rfl,aJ rfl ?_ rfl⟩;simp(disch:=omega) only[bK,Tryz.results95,aN,List.getElem?_cons_succ,List.getElem?_cons_zero])
    ·subst hab
     refine af rfl (fun h=>by simp at h) (fun _=>ay ?_)
     show bX _ _ _ _
     ((refine aX [] [] (by simp) fun K hK=>?_);simp(disch:=omega) only[kc,ab,Nat.reduceAdd,decide_true,aj,ac,Value.oneCell',ai,bC];apply hK)
     refine⟨⟨k-1,by omega,qi ha hb hd'⟩,by simp only;omega,am trivial ?_⟩
     have e2:((k-1:Nat):Int)=(k:Int)-1:=by omega
     simp[cu,bD,bA,e2]
    ·rw[nw (i5 lm hb ha hd'.symm hab)]
     refine af rfl (fun _=>?_) (fun h=>by simp at h<;>omega)
     (refine ae (bM bU [] [] (by kernel_rfl) (by simp) fun K hK=>?_);simp(disch:=omega) only[kc,ab,Nat.reduceAdd,bj,Bool.not_false,ag,ao,an,e1,ah,bI,ha,fU,aO,ax,bu,hb,aj,ai];apply hK)
     refine af rfl (fun h=>by simp at h<;>omega) (fun _=>ay ?_)
     show bX _ _ _ _
     (refine aa [] fun K hK=>?_;simp(disch:=omega) only[kc,ab,ac,Value.oneCell'];apply hK)
     (refine aE ⟨.inr rfl,aJ rfl ?_ rfl⟩;simp(disch:=omega) only[bK,Tryz.results95,aN,List.getElem?_cons_succ,List.getElem?_cons_zero])
   ·have hk0:k=0:=by omega
    subst hk0
    have hlm:l=m:=by simpa using hd
    rw[show fg (natV l) (natV m)=0 by rw[hlm];simp[fg]]
    (refine ae (aa [] fun K hK=>?_);simp(disch:=omega) only[kc,ab,bO,Hm,aj,ac,Value.oneCell',ai,bj];apply hK)
    refine af rfl (fun h=>by simp at h) (fun _=>bF ?_)
    show bX _ _ _ _
    (refine aa [] fun K hK=>?_;simp(disch:=omega) only[kc,ab,ac,Value.oneCell'];apply hK)
    (refine aE ⟨.inr rfl,aJ rfl ?_ rfl⟩;simp(disch:=omega) only[bK,Tryz.results95,aN,List.getElem?_cons_succ,List.getElem?_cons_zero])
 ·rw[nw (fX lm cl hgt)]
  refine aC Tryz.func95 rfl (by kernel_rfl) ?_;rw[Tryz.ntmps95]
  (refine aa [] fun K hK=>?_;simp(disch:=omega) only[kc,ab,bO,Nat.reduceAdd,List.replicate,ac,Value.oneCell'];apply hK)
  (refine ae (aa [] fun K hK=>?_);simp(disch:=omega) only[kc,ab,Nat.reduceAdd,aq,ao,ah,aD,aj,ai,bj,Bool.not_false];apply hK)
  refine af rfl (fun _=>?_) (fun h=>by simp at h)
  (refine ae (aa [] fun K hK=>?_);simp(disch:=omega) only[kc,ab,Nat.reduceAdd,aq,ao,ah,aD,aj,ai,bj];apply hK)
  refine af rfl (fun h=>by simp at h) (fun _=>ay ?_)
  show bX _ _ _ _
  (refine aa [] fun K hK=>?_;simp(disch:=omega) only[kc,ab,ac,Value.oneCell'];apply hK)
  (refine aE ⟨.inr rfl,aJ rfl ?_ rfl⟩;simp(disch:=omega) only[bK,Tryz.results95,aN,List.getElem?_cons_succ,List.getElem?_cons_zero])
def uV (a b:Int):Int:=if a<b then -1 else if a=b then 0 else 1
theorem tA (z:Int): -1<=sg z/\sg z<=1:=by unfold sg;split<;>(try split)<;>omega
theorem uB (a b:Nat): -1<=fg a b/\fg a b<=1:=by unfold fg;split<;>(try split)<;>omega
theorem BW {a b:Int} (h:sg a≠sg b):uV a b=if sg a<sg b then -1 else 1:=by
 unfold sg uV at*
 (repeat' split at*)<;>omega
theorem CA {a b:Int} (h:sg a=sg b):uV a b=sg a*fg a.natAbs b.natAbs:=by
 unfold sg uV fg at*
 (repeat' split at*)<;>omega
theorem EW (a b:Int) (ha:Bg a) (hb:Bg b):CallC Tryz.prog 56 [tZ a,tZ b] ⟨[],.raw (.int .i64 (uV a b))⟩:=by
 have h1:=pb a ha
 have h2:=pb b hb
 have t1:=gL (aK a.natAbs) ha.len
 have t2:=gL (aK b.natAbs) hb.len
 rw[fx]at t1 t2
 have h3:=wP (aK a.natAbs) (aK b.natAbs) (aY _) (aY _) (cw _) (cw _) ha.len hb.len
 rw[aG,aG]at h3
 have r1:=tA a
 have r2:=tA b
 have r3:=uB a.natAbs b.natAbs
 have r4: -1<=sg a*fg a.natAbs b.natAbs/\sg a*fg a.natAbs b.natAbs<=1:=by
  have:sg a= -1\/sg a=0\/sg a=1:=by omega
  rcases this with h|h|h<;>rw[h]<;>omega
 by_cases hs:sg a=sg b
 ·rw[CA hs]
  refine aC Tryz.func56 rfl (by kernel_rfl) ?_;rw[Tryz.ntmps56]
  (refine aa [] fun K hK=>?_;simp(disch:=omega) only[kc,ab,Nat.reduceAdd,tZ,List.replicate,cd,aT,aI,cellsOf,isPure,bL,au,Nat.reduceEqDiff,ac,Value.oneCell'];apply hK)
  (refine bM bU [⟨1,_,_,_,h1⟩,⟨3,_,_,_,h2⟩] [] (by kernel_rfl) (by simp) fun K hK=>?_;simp(disch:=omega) only[kc,tZ,ar.a,ab,Nat.reduceAdd,ao,au,Nat.reduceEqDiff,ax,aF,aW,Nat.le_refl,ak,aT,aI,List.find?_cons,aQ,bo,CallRes.plain,aR,aV,az,isPure,noRefTV,ap,aS,aP,Nat.reduceBEq];apply hK)
  (refine ae (aa [] fun K hK=>?_);simp(disch:=omega) only[kc,ab,Nat.reduceAdd,aj,ai,bE];apply hK)
  refine af rfl (fun h=>by simp at h<;>omega) (fun _=>ay ?_)
  show bX _ _ _ _
  (refine bM bU [⟨3,_,_,_,t1⟩,⟨6,_,_,_,t2⟩,⟨7,_,_,_,h3⟩] [] (by kernel_rfl) (by simp) fun K hK=>?_;simp(disch:=omega) only[kc,bO,ar.a,ab,Nat.reduceAdd,aw,ao,bH,cb,au,Nat.reduceEqDiff,ax,bW,ak,aT,aI,List.find?_cons,aQ,bo,CallRes.plain,aR,aV,az,noRefTV,ap,aS,aP,Nat.reduceBEq,aj,ai,bC];apply hK)
  (refine aE ⟨.inr rfl,aJ rfl ?_ rfl⟩;simp(disch:=omega) only[bK,Tryz.results56,aN,List.getElem?_cons_succ,List.getElem?_cons_zero])
 ·rw[BW hs]
  refine aC Tryz.func56 rfl (by kernel_rfl) ?_;rw[Tryz.ntmps56]
  (refine aa [] fun K hK=>?_;simp(disch:=omega) only[kc,ab,Nat.reduceAdd,tZ,List.replicate,cd,aT,aI,cellsOf,isPure,bL,au,Nat.reduceEqDiff,ac,Value.oneCell'];apply hK)
  (refine bM bU [⟨1,_,_,_,h1⟩,⟨3,_,_,_,h2⟩] [] (by kernel_rfl) (by simp) fun K hK=>?_;simp(disch:=omega) only[kc,tZ,ar.a,ab,Nat.reduceAdd,ao,au,Nat.reduceEqDiff,ax,aF,aW,Nat.le_refl,ak,aT,aI,List.find?_cons,aQ,bo,CallRes.plain,aR,aV,az,isPure,noRefTV,ap,aS,aP,Nat.reduceBEq];apply hK)
  (refine ae (aa [] fun K hK=>?_);simp(disch:=omega) only[kc,ab,Nat.reduceAdd,aj,ai,bj,Bool.not_false];apply hK)
  refine af rfl (fun _=>?_) (fun h=>by simp at h<;>omega)
  (refine ae (aa [] fun K hK=>?_);simp(disch:=omega) only[kc,ab,Nat.reduceAdd,aj,ai];apply hK)
  by_cases hlt:sg a<sg b
  ·rw[if_pos hlt]
   refine af rfl (fun _=>?_) (fun h=>by simp at h<;>omega)
   (refine aa [] fun K hK=>?_;simp(disch:=omega) only[kc,ab,bE,ac,Value.oneCell'];apply hK)
   (refine aE ⟨.inr rfl,aJ rfl ?_ rfl⟩;simp(disch:=omega) only[bK,Tryz.results56,aN,List.getElem?_cons_succ,List.getElem?_cons_zero])
  ·rw[if_neg hlt]
   refine af rfl (fun h=>by simp at h<;>omega) (fun _=>ay ?_)
   show bX _ _ _ _
   (refine aa [] fun K hK=>?_;simp(disch:=omega) only[kc,ab,bj,ac,Value.oneCell'];apply hK)
   (refine aE ⟨.inr rfl,aJ rfl ?_ rfl⟩;simp(disch:=omega) only[bK,Tryz.results56,aN,List.getElem?_cons_succ,List.getElem?_cons_zero])
end Go.Proofs.YtpgghglbpcabkaaGreat
