/-
  Part 4 of a proof (walks and plain facts).
-/
import Derived.Test.YtalmoejhjceflaaGreatP02
set_option linter.all false
set_option maxRecDepth 100000
set_option maxHeartbeats 64000000
open Nat renaming le_refl → ae
open Option renaming map_some → ah
open List renaming all_eq_true → aj
open Go.Result renaming andThen_ok → ak
open List renaming getElem?_append_left → aq
open List renaming getElem?_append_right → ar
open List renaming mem_of_getElem? → ax
open List renaming getElem?_map → az
namespace Go.Proofs.YtalmoejhjceflaaGreat
open Go.RowKit
section
section
variable {P:Program} {ρ:Rho} {H:OH} {X:Nat->Prop} {w:World}
theorem tz {t:TypeId} {cs:List AV} {T:TV} {vs:Array Value} {off:Nat} (h:kY P t (cs.drop off)=some T) (hs:vs.size=cs.length)
  (hc: ∀(j:Nat) x,cs[j]?=some x-> ∃u:Value,vs[j]?=some u/\u.oneCell'=true/\x.rel ρ H X w u):
  ∃v,(part t vs off).run P w= .ok v w/\T.rel ρ H X w v:=by
 unfold kY at h;split at h
 ·rename_i n hn ha;split at h
  ·rename_i hl;injection h with h
   subst h;refine⟨.agg (vs.extract off (off+n)),?_,_,rfl,?_,fun j x hx=>?_⟩
   ·unfold part;rw[Sem.run_bind,pc ha,ak,if_pos rfl,Sem.run_bind,dz hn,ak];rfl
   ·simp at hl⊢;omega
   rw[List.getElem?_take]at hx;split at hx
   ·rename_i hj;rw[List.getElem?_drop]at hx;obtain⟨u,h1,h2⟩:=hc _ x hx;refine⟨u,?_,h2⟩;rw[Array.getElem?_extract,if_pos (by have:=(Array.getElem?_eq_some_iff.1 h1).1;omega)];exact h1
   cases hx
  cases h
 ·rename_i hn ha;split at h
  ·rename_i x l hl;injection h with h
   subst h;have hx:cs[off]?=some x:=by
    have:(cs.drop off)[0]?=some x:=by rw[hl];rfl
    rw[List.getElem?_drop]at this;simpa using this
   obtain⟨u,h1,h2,h3⟩:=hc _ x hx;refine⟨u,?_,h3⟩;unfold part;rw[Sem.run_bind,pc ha,ak,if_neg (by simp),h1];rfl
  cases h
 cases h
theorem BN {ev:Operand->Option TV} {e:Operand->Value} (hev:gk ρ H X w ev e)
  {o:Oper} {t:TypeId} {x:Operand} {f:Nat} {T:TV} (ho:o.op= .field t x f) (h:bQ P ev H o.op=some T): ∃v,(execOp e o).run P w= .ok (.value v) w/\T.rel ρ H X w v:=by
 unfold execOp;rw[ho]at h⊢;simp only[bQ]at h;split at h
 ·rename_i off ft cs hf hx;obtain⟨vs,hv,hs,hc⟩:=hev x _ hx;obtain⟨fs,d,h1,h2,h3,h4⟩:=lJ hf;obtain⟨v,g1,g2⟩:=tz h hs hc;refine⟨v,df ?_,g2⟩;unfold Instr.field;rw[Sem.run_bind,run_underlying h1,ak];simp only[h2,hv,asAgg,Sem.run_bind,Sem.run_pure,ak,h3,h4,g1]
 cases h
theorem BO {ev:Operand->Option TV} {e:Operand->Value} (hev:gk ρ H X w ev e)
  {o:Oper} {t:TypeId} {x ix:Operand} {T:TV} (ho:o.op= .index t x ix) (h:bQ P ev H o.op=some T): ∃v,(execOp e o).run P w= .ok (.value v) w/\T.rel ρ H X w v:=by
 unfold execOp;rw[ho]at h⊢;simp only[bQ]at h;split at h
 ·rename_i k n hix;have hn:=(bs (hev ix _ hix)).1;split at h
  ·cases h
  rename_i i hi;obtain⟨h0,hi⟩:=nw hi;split at h
  ·rename_i m el cs ha hx;split at h
   ·rename_i sz hsz;split at h
    ·rename_i him;obtain⟨vs,hv,hs,hc⟩:=hev x _ hx;obtain⟨v,g1,g2⟩:=tz h hs hc;refine⟨v,df ?_,g2⟩;unfold Instr.index;rw[hn,hv,Sem.run_bind];show Result.andThen (.ok (k,n) w) _=_;rw[ak];simp only[Sem.run_bind,run_underlying (gW ha),ak,Sem.run_pure];rw[if_pos ⟨h0,by omega⟩,Sem.run_bind,dz hsz,ak,hi,g1]
    cases h
   cases h
  cases h
 cases h
theorem gC {ev:Operand->Option TV} {e:Operand->Value} (hev:gk ρ H X w ev e) {x:Option Operand} {d n:Nat} (h:dG ev x d=some n):
  (x=none/\n=d)\/ ∃y k z,x=some y/\e y= .int k z/\0<=z/\z.toNat=n:=by
 unfold dG at h;split at h
 ·injection h with h;exact .inl ⟨rfl,h.symm⟩
 rename_i dd y;split at h
 ·rename_i k z hy;obtain⟨h1,h2⟩:=nw h;exact .inr ⟨y,k,z,rfl,(bs (hev y _ hy)).1,h1,h2⟩
 cases h
theorem dw {k:IntKind} {z:Int} {y n:Nat} {c:BoundsCode} (h0:0<=z) (hn:z.toNat=n) (hy:n<=y):(Instr.sliceBound (.int k z) y c).run P w= .ok n w:=by
 unfold Instr.sliceBound;show(if 0<=z/\z<=y then(pure z.toNat:Sem Nat)else boundsPanic k z y c).run P w=_;rw[if_pos ⟨h0,by omega⟩,hn];rfl
theorem d8 {ev:Operand->Option TV} {e:Operand->Value} (hev:gk ρ H X w ev e) {lo hi:Option Operand} {len cap l h:Nat} (hl:dG ev lo 0=some l) (hh:dG ev hi len=some h) (h1:l<=h) (h2:h<=cap):
  (Instr.sliceBounds true len cap (lo.map e) (hi.map e) none).run P w= .ok (l,h,cap) w:=by
 unfold Instr.sliceBounds;rcases gC hev hl with⟨rfl,rfl⟩|⟨y,k,z,rfl,a1,a2,a3⟩
 ·rcases gC hev hh with⟨rfl,rfl⟩|⟨y',k',z',rfl,b1,b2,b3⟩
  ·rfl
  simp only[ah,Option.map_none,Sem.run_bind,Sem.run_pure,ak,b1];rw[dw b2 b3 h2];rfl
 rcases gC hev hh with⟨rfl,rfl⟩|⟨y',k',z',rfl,b1,b2,b3⟩
 ·simp only[ah,Option.map_none,Sem.run_bind,Sem.run_pure,ak,a1];rw[dw a2 a3 h1];rfl
 simp only[ah,Option.map_none,Sem.run_bind,Sem.run_pure,ak,a1,b1];rw[dw b2 b3 h2,ak,dw a2 a3 h1];rfl
theorem qg {ev:Operand->Option TV} {e:Operand->Value} (hev:gk ρ H X w ev e) {lo hi mx:Operand} {len cap l h m:Nat} (hl:dG ev (some lo) 0=some l) (hh:dG ev (some hi) 0=some h) (hm:dG ev (some mx) 0=some m) (h1:l<=h) (h2:h<=m) (h3:m<=cap):
  (Instr.sliceBounds true len cap (some (e lo)) (some (e hi)) (some (e mx))).run P w= .ok (l,h,m) w:=by
 unfold Instr.sliceBounds;rcases gC hev hl with⟨h,_⟩|⟨y,k,z,hy,a1,a2,a3⟩
 ·cases h
 rcases gC hev hh with⟨h,_⟩|⟨y',k',z',hy',b1,b2,b3⟩
 ·cases h
 rcases gC hev hm with⟨h,_⟩|⟨y2,k2,z2,hy2,c1,c2,c3⟩
 ·cases h
 injection hy with hy
 injection hy' with hy'
 injection hy2 with hy2
 subst hy hy' hy2;simp only[Sem.run_bind,Sem.run_pure,ak,a1,b1,c1,Option.isSome_some,if_true];rw[dw c2 c3 h3,ak,dw b2 b3 h2,ak,dw a2 a3 h1];rfl
theorem BP {ev:Operand->Option TV} {e:Operand->Value} (hev:gk ρ H X w ev e) (hob: ∀(a r:Nat) (o:OObj),(H a)[r]?=some o->objRel ρ H X w a r o)
  {o:Oper} {t:TypeId} {x:Operand} {lo hi mx:Option Operand} {T:TV} (ho:o.op= .slice t x lo hi mx) (h:bQ P ev H o.op=some T): ∃v,(execOp e o).run P w= .ok (.value v) w/\T.rel ρ H X w v:=by
 unfold execOp;rw[ho]at h⊢;cases mx with
 |some mx=>
  cases lo with
  |none=>simp only[bQ]at h;cases h
  |some lo=>
  cases hi with
  |none=>simp only[bQ]at h;cases h
  |some hi=>
  simp only[bQ]at h;split at h
  ·rename_i el a r off len hs hx;obtain⟨o',g1,g2,g3⟩:=hev x _ hx;have hu:=dn hs;split at h
   ·rename_i l hh m o'' hl hhi hmx ho'';rw[g1]at ho'';injection ho'' with ho''
    subst ho'';split at h
    ·rename_i hcond;obtain⟨c1,c2,c3,c4,c5⟩:=hcond;injection h with h
     subst h;rcases g3 with⟨_,_,h0,_⟩|⟨b,c,cap,hρ,hv,hcap,hst⟩
     ·omega
     refine⟨_,df ?_,o',g1,by omega,.inr ⟨b,c,m-l,hρ,rfl,by omega,fun h=>by omega⟩⟩;unfold Instr.sliceAt;simp only[Sem.run_bind,run_underlying hu,ak];unfold Instr.slice;simp only[Sem.run_bind,run_underlying hu,ak,hv,ah];rw[qg hev hl hhi hmx (by omega) c3 (by omega),ak];simp only[Sem.run_bind,dz c1,ak,Sem.run_pure];rw[if_neg (by omega)];simp only[ah,Addr.add_lit];rw[Nat.add_mul]
    cases h
   cases h
  cases h
 |none=>
 simp only[bQ]at h;split at h
 ·rename_i el xs hs hx;have hx:=hev x _ hx;generalize hvx:e x=vx at*
  split at h
  ·rename_i l hh n hl hhi hsz;split at h
   ·rename_i hcond;injection h with h
    subst h;obtain⟨c1,c2,c3⟩:=hcond;have hu:=dn hs;cases hx with
    |nil a c=>
     have hh0:hh=0:=by simpa using c2
     subst hh0;have hl0:l=0:=by omega
     subst hl0;refine⟨.slice (if c=0 then a else a.map (·.add (0*n))) (0-0) (c-0),df ?_,?_⟩
     ·unfold Instr.sliceAt;simp only[Sem.run_bind,run_underlying hu,ak];unfold Instr.slice;simp only[Sem.run_bind,run_underlying hu,ak,hvx,Option.map_none];rw[d8 hev hl (show dG ev hi 0=some 0 from hhi) (ae _) (Nat.zero_le _),ak];simp only[Sem.run_bind,dz hsz,ak,Sem.run_pure]
     simp only[List.take_nil,List.drop_nil];exact bX.nil _ _
    |sl b off es cap xs f hX hb hes hcap hm hcell hrep=>
     refine⟨.slice (if cap=l then some ⟨b,off,none⟩else(some (⟨b,off,none⟩:Addr)).map (·.add (l*n))) (hh-l) (cap-l),df ?_,?_⟩
     ·unfold Instr.sliceAt;simp only[Sem.run_bind,run_underlying hu,ak];unfold Instr.slice;simp only[Sem.run_bind,run_underlying hu,ak,hvx,Option.map_none];rw[d8 hev hl hhi c1 (by omega),ak];simp only[Sem.run_bind,dz hsz,ak,Sem.run_pure]
     show bX _ _ _ _;have hlen:((xs.take hh).drop l).length=hh-l:=by simp;omega
     by_cases hlh:l=hh
     ·subst hlh;rw[show(xs.take l).drop l=[] by rw[List.drop_eq_nil_iff];simp;omega];rw[Nat.sub_self];exact bX.nil _ _
     rw[if_neg (by omega)];simp only[ah,Addr.add_lit];rw[<- hlen];have hes':es=n:=by
      cases hx0:xs with
      |nil=>rw[hx0]at c2;simp at c2;omega
      |cons y ys=>have h1:=hes y (by rw[hx0];simp);have h2:=c3 y (by rw[hx0];simp);omega
     subst hes';have hsub: ∀(i:Nat) y,((xs.take hh).drop l)[i]?=some y->xs[l+i]?=some y:=fun i y hy=>by
      rw[List.getElem?_drop,List.getElem?_take]at hy;split at hy
      ·exact hy
      cases hy
     refine .sl b (off+l*es) es (cap-l) _ (fun i j=>f (l+i) j) hX hb (fun y hy=>hes y (List.mem_of_mem_take (List.mem_of_mem_drop hy))) (by rw[hlen];omega) (by rw[hlen];omega) (fun i y j z h1 h2=>?_) (fun i y j z h1 h2=>hrep _ y j z (hsub i y h1) h2);have:=hcell _ y j z (hsub i y h1) h2;rw[<- this]
     congr 2
     rw[Nat.add_mul];omega
   cases h
  cases h
 ·rename_i el a r off len hs hx;obtain⟨o',g1,g2,g3⟩:=hev x _ hx;have hu:=dn hs;split at h
  ·rename_i l hh o'' hl hhi ho'';rw[g1]at ho'';injection ho'' with ho''
   subst ho'';have hcle: ∀b c,ρ a r=some (b,c)->o'.elems.length<=c:=fun b c hρ=>by
    obtain⟨_,_,h3⟩:=hob a r o' g1;rw[hρ]at h3;obtain⟨_,_,_,h,_⟩:=h3;exact h
   split at h
   ·rename_i hcond;obtain⟨c1,c2,c3⟩:=hcond;injection h with h
    subst h;rcases g3 with⟨_,_,h0,_⟩|⟨b,c,cap,hρ,hv,hcap,hst⟩
    ·omega
    have:=hcle b c hρ;refine⟨_,df ?_,o',g1,by omega,.inr ⟨b,c,cap-l,hρ,rfl,by omega,fun h=>by have:=hst h;omega⟩⟩;unfold Instr.sliceAt;simp only[Sem.run_bind,run_underlying hu,ak];unfold Instr.slice;simp only[Sem.run_bind,run_underlying hu,ak,hv,Option.map_none];rw[d8 hev hl hhi (by omega) (by omega),ak];simp only[Sem.run_bind,dz c1,ak,Sem.run_pure];rw[if_neg (by omega)];simp only[ah,Addr.add_lit];rw[Nat.add_mul]
   split at h
   ·rename_i hcond;obtain⟨c1,c2,c3⟩:=hcond;injection h with h
    subst h;subst c2;rcases g3 with⟨_,hv,h0,_⟩|⟨b,c,cap,hρ,hv,hcap,hst⟩
    ·refine⟨.slice (if 0=l then none else(none:Option Addr).map (·.add (l*o'.es))) 0 (0-l),df ?_,bX.nil _ _⟩;unfold Instr.sliceAt;simp only[Sem.run_bind,run_underlying hu,ak];unfold Instr.slice;simp only[Sem.run_bind,run_underlying hu,ak,hv,Option.map_none];subst h0;rw[d8 hev hl hhi (by omega) (by omega),ak];simp only[Sem.run_bind,dz c1,ak,Sem.run_pure,Nat.sub_self]
    have:=hcle b c hρ;refine⟨.slice (if cap=l then some ⟨b,off*o'.es,none⟩else(some (⟨b,off*o'.es,none⟩:Addr)).map (·.add (l*o'.es))) 0 (cap-l),df ?_,bX.nil _ _⟩;unfold Instr.sliceAt;simp only[Sem.run_bind,run_underlying hu,ak];unfold Instr.slice;simp only[Sem.run_bind,run_underlying hu,ak,hv,Option.map_none];rw[d8 hev hl hhi (by omega) (by omega),ak];simp only[Sem.run_bind,dz c1,ak,Sem.run_pure,Nat.sub_self]
   cases h
  cases h
 cases h
theorem uN {ev:Operand->Option TV} {e:Operand->Value} (hev:gk ρ H X w ev e)
  {o:Oper} {x:Operand} {T:TV} (ho:o.op= .nilCheck x) (h:bQ P ev H o.op=some T): ∃v,(execOp e o).run P w= .ok (.value v) w/\T.rel ρ H X w v:=by
 unfold execOp;rw[ho]at h⊢;simp only[bQ]at h;split at h
 ·rename_i cs hx;obtain⟨b,off,hv,hX,hc⟩:=gS (ρ:=ρ) (H:=H) (hev x _ hx);injection h with h
  subst h;refine⟨e x,?_,hev x _ hx⟩;simp only[hv];rfl
 ·rename_i a r i j hx;have hr:=hev x _ hx;obtain⟨o',b,c,h1,h2,h3,hv⟩:=hr;injection h with h
  subst h;refine⟨e x,?_,hev x _ hx⟩;simp only[hv];rfl
 cases h
theorem M9 {t e ty:TypeId} {a:Option Addr} {n c:Nat} (ht:P.underlying t=some (.slice e)):(Builtin.len_ #[t] ty #[.slice a n c]).run P w= .ok (goInt n) w:=by
 simp[Builtin.len_,run_underlying ht]
theorem Ix {ev:Operand->Option TV} {e:Operand->Value} (hev:gk ρ H X w ev e)
  {o:Oper} {args:Array Operand} {argTypes:Array TypeId} {T:TV} (ho:o.op= .call {callee:= .builtin .len,args,argTypes}) (h:bQ P ev H o.op=some T): ∃v,(execOp e o).run P w= .ok (.value v) w/\T.rel ρ H X w v:=by
 unfold execOp;rw[ho]at h⊢;simp only[bQ]at h;obtain⟨args⟩:=args;obtain⟨argTypes⟩:=argTypes;split at h
 ·rename_i x t hx ht;simp only at hx ht;subst hx ht;have key: ∀a n c el,db P t=some el->e x= .slice a n c->T= .raw (.int .i64 n)-> ∃v,(do let d<- resolve e {callee:= .builtin .len,args:=⟨[x]⟩,argTypes:=⟨[t]⟩} o.type;invoke d.target d.args:Sem Next).run P w= .ok (.value v) w/\T.rel ρ H X w v:=by
   intro a n c el hs hv hT;subst hT;refine⟨.int .i64 n,?_,b7 rfl⟩;simp only[resolve,invoke,builtin,Sem.run_bind,Sem.run_pure,ak,List.map_toArray,List.map_cons,List.map_nil,hv,M9 (dn hs)];rfl
  split at h
  ·rename_i el xs hs hx;injection h with h
   have hx:=hev x _ hx;generalize hvx:e x=vx at hx;cases hx with
   |nil a c=>exact key _ _ _ _ hs hvx h.symm
   |sl b off es cap xs f=>exact key _ _ _ _ hs hvx h.symm
  ·rename_i el a r off len hs hx;injection h with h
   obtain⟨o',g1,g2,g3⟩:=hev x _ hx;rcases g3 with⟨_,hv,h0,_⟩|⟨b,c,cap,hρ,hv,_⟩
   ·subst h0;exact key _ _ _ _ hs hv h.symm
   exact key _ _ _ _ hs hv h.symm
  ·rename_i el a n c hs hx;injection h with h
   exact key _ _ _ _ hs (bs (hev x _ hx)).1 h.symm
  cases h
 cases h
end
end
section
section
variable {P:Program} {ρ:Rho} {H:OH} {X:Nat->Prop} {w:World}
def kw (ρ:Rho) (H:OH) (X:Nat->Prop) (w:World) (cs:List AV) (vs:Array Value):Prop:=
 vs.size=cs.length/\ ∀(j:Nat) x,cs[j]?=some x-> ∃u:Value,vs[j]?=some u/\u.oneCell'=true/\x.rel ρ H X w u
theorem d9 {v:Value} (h:v.oneCell'=true):v.cells= #[v]:=by cases v<;>first|rfl|cases h
theorem gZ {t:TV} {cs:List AV} {v:Value} (h:cellsOf t=some cs) (hr:t.rel ρ H X w v):kw ρ H X w cs v.cells:=by
 unfold cellsOf at h;split at h
 ·rename_i x;injection h with h
  subst h;have h1:v.oneCell'=true:=bX.one hr;rw[d9 h1];refine⟨rfl,fun j y hy=>?_⟩;cases j with
  |zero=>simp at hy;subst hy;exact⟨v,rfl,h1,hr⟩
  |succ j=>simp at hy
 ·rename_i a r off len;injection h with h
  subst h;have h1:v.oneCell'=true:=by
   obtain⟨o,_,_,h|⟨b,c,cap,_,h,_⟩⟩:=hr
   ·rw[h.2.1];rfl
   rw[h];rfl
  rw[d9 h1];refine⟨rfl,fun j y hy=>?_⟩;cases j with
  |zero=>simp at hy;subst hy;exact⟨v,rfl,h1,hr⟩
  |succ j=>simp at hy
 ·injection h with h
  subst h;obtain⟨vs,rfl,h1,h2⟩:=hr;exact⟨h1,h2⟩
 cases h
theorem Aa {z:List Value} (h:z.all (·.oneCell')=true):kw ρ H X w (z.map AV.raw) z.toArray:=by
 simp only[aj]at h;refine⟨by simp,fun j x hx=>?_⟩;rw[az]at hx;cases hj:z[j]? with
 |none=>rw[hj]at hx;cases hx
 |some u=>
  rw[hj]at hx;simp at hx;subst hx;have h1:=h u (ax hj);exact⟨u,by simpa using hj,h1,bX.raw u h1⟩
theorem pP (off:Nat): ∀(vs:List Value) (k:Nat) (cells:Array Value),off+k+vs.length<=cells.size->
  ((vs.zipIdx k).foldl (fun cs (c,j)=>cs.setIfInBounds (off+j) c) cells).size=cells.size/\
  ∀j:Nat,((vs.zipIdx k).foldl (fun cs (c,j)=>cs.setIfInBounds (off+j) c) cells)[j]?=if off+k<=j/\j<off+k+vs.length then vs[j-(off+k)]? else cells[j]?
 |[],k,cells,_=>⟨rfl,fun j=>by rw[if_neg (by simp)];rfl⟩
 |v::vs,k,cells,h=>by
  simp at h;obtain⟨h1,h2⟩:=pP off vs (k+1) (cells.setIfInBounds (off+k) v) (by simp;omega);simp only[List.zipIdx_cons,List.foldl_cons];refine⟨by rw[h1];simp,fun j=>?_⟩;rw[h2];by_cases hj:j=off+k
  ·subst hj;rw[if_neg (by omega),if_pos (by simp)];rw[Array.getElem?_setIfInBounds_self_of_lt (by omega)]
   simp
  by_cases hr:off+(k+1)<=j/\j<off+(k+1)+vs.length
  ·rw[if_pos hr,if_pos (by simp;omega)];rw[show j-(off+k)=(j-(off+(k+1)))+1 by omega,List.getElem?_cons_succ]
  rw[if_neg hr,if_neg (by simp;omega),Array.getElem?_setIfInBounds_ne (by omega)]
theorem xT {α:Type} {l ys:List α} {off:Nat} (h:off+ys.length<=l.length) (j:Nat):
  (l.take off++ys++l.drop (off+ys.length))[j]?=if off<=j/\j<off+ys.length then ys[j-off]? else l[j]?:=by
 have hlt:(l.take off).length=off:=by simp;omega
 by_cases h1:j<off
 ·rw[if_neg (by omega),List.append_assoc,aq (by omega),List.getElem?_take,if_pos h1]
 by_cases h2:j<off+ys.length
 ·rw[if_pos ⟨by omega,h2⟩,List.append_assoc,ar (by omega),hlt,aq (by omega)]
 rw[if_neg (by omega),ar (by simp;omega),List.getElem?_drop]
 congr 1
 simp;omega
theorem H9 {cs ys:List AV} {vs us:Array Value} {off:Nat} (h1:kw ρ H X w cs vs) (h2:kw ρ H X w ys us) (h:off+ys.length<=cs.length):
  kw ρ H X w (cs.take off++ys++cs.drop (off+ys.length)) (us.zipIdx.foldl (fun cs (c,j)=>cs.setIfInBounds (off+j) c) vs):=by
 obtain⟨us⟩:=us;have hul:us.length=ys.length:=h2.1;have hf:=pP off us 0 vs (by rw[h1.1];simp;omega);have e:(us.toArray.zipIdx.foldl (fun cs (c,j)=>cs.setIfInBounds (off+j) c) vs)=((us.zipIdx 0).foldl (fun cs (c,j)=>cs.setIfInBounds (off+j) c) vs):=by
  rw[<- Array.foldl_toList];simp
 rw[e];refine⟨by rw[hf.1,h1.1];simp;omega,fun j x hx=>?_⟩;rw[xT h]at hx;rw[hf.2 j];split at hx
 ·rename_i hj;rw[if_pos (by omega)];obtain⟨u,h3,h4⟩:=h2.2 _ _ hx;exact⟨u,by simpa using h3,h4⟩
 rename_i hj;rw[if_neg (by omega)];exact h1.2 _ _ hx
theorem sH {pl:List (Nat×Nat)} {ev:Operand->Option TV} {e:Operand->Value} (hev:gk ρ H X w ev e): ∀(parts:List (Nat×Operand)) (cs cs':List AV) (vs:Array Value),
  kw ρ H X w cs vs->ic pl ev cs parts=some cs'-> ∃vs',Instr.fill (pl.toArray[·]?) vs (parts.map fun(i,x)=>(i,e x))=some vs'/\kw ρ H X w cs' vs'
 |[],cs,cs',vs,h,hf=>by simp only[ic]at hf;injection hf with hf;subst hf;exact⟨vs,rfl,h⟩
 |(f,x)::rest,cs,cs',vs,h,hf=>by
  simp only[ic]at hf;split at hf
  ·rename_i off n ys hp hx;obtain⟨t,ht,hys⟩:=Option.bind_eq_some_iff.1 hx;split at hf
   ·rename_i hc;obtain⟨c1,c2⟩:=hc;subst c1;have hr:=gZ hys (hev x t ht);have h2:=H9 h hr c2;obtain⟨vs',h3,h4⟩:=sH hev rest _ cs' _ h2 hf;refine⟨vs',?_,h4⟩;simp only[List.map_cons,Instr.fill];have hp':pl.toArray[f]?=some (off,ys.length):=by simpa using hp
    rw[hp'];simp only;rw[if_neg]
    ·exact h3
    simp only[Bool.or_eq_true,decide_eq_true_eq];have:=hr.1;have:=h.1;omega
   cases hf
  cases hf
theorem BM {ev:Operand->Option TV} {e:Operand->Value} (hev:gk ρ H X w ev e)
  {o:Oper} {t:TypeId} {parts:Array (Nat×Operand)} {T:TV} (ho:o.op= .build t parts) (h:bQ P ev H o.op=some T): ∃v,(execOp e o).run P w= .ok (.value v) w/\T.rel ρ H X w v:=by
 unfold execOp;rw[ho]at h⊢;simp only[bQ]at h;split at h
 ·rename_i z pl hz hpl;split at h
  ·rename_i hall;cases hf:ic pl ev (z.map AV.raw) parts.toList with
   |none=>rw[hf]at h;cases h
   |some cs=>
    rw[hf]at h;simp at h;subst h;obtain⟨vs,h1,h2,h3⟩:=sH hev parts.toList _ cs _ (Aa hall) hf;refine⟨.agg vs,df (run_build w t _ vs ?_),vs,rfl,h2,h3⟩;unfold Program.built;unfold dp at hz;cases hi:P.info? t with
    |none=>rw[hi]at hz;cases hz
    |some it=>
     rw[hi]at hz;unfold gR at hpl;cases hu:P.underlying t with
     |none=>rw[hu]at hpl;cases hpl
     |some d=>
      rw[hu]at hpl;cases d<;>simp at hpl
      case array n el=>
       cases hie:P.info? el with
       |none=>simp[hie]at hpl
       |some ie=>
       have hpl0:pl=[]:=by
        simp[hie]at hpl;exact hpl
       subst hpl0;have hnil:parts.toList=[]:=by
        cases hp:parts.toList with
        |nil=>rfl
        |cons p ps=>rw[hp]at hf;simp[ic]at hf
       cases hzz:it.zero with
       |none=>simp[hzz]at hz
       |some zv=>
        simp[hzz]at hz;subst hz;rw[hnil]at h1;have hpn:parts= #[]:=by simpa using hnil
        subst hpn;simp only[hie,hzz];simpa[Instr.fill] using h1
      case struct fs=>
      cases hzz:it.zero with
      |none=>simp[hzz]at hz
      |some zv=>
       simp[hzz]at hz;subst hz;simp only[hpl,hzz];rw[<- h1]
       simp
  cases h
 cases h
theorem bZ {ev:Operand->Option TV}: ∀{l:List Operand} {ts:List TV},ew ev l=some ts->ts.length=l.length/\ ∀(j:Nat) t,ts[j]?=some t-> ∃x,l[j]?=some x/\ev x=some t
 |[],ts,h=>by simp only[ew]at h;injection h with h;subst h;exact⟨rfl,fun j t h=>by simp at h⟩
 |x::l,ts,h=>by
  simp only[ew]at h;split at h
  ·rename_i t ts' h1 h2;injection h with h
   subst h;obtain⟨g1,g2⟩:=bZ h2;refine⟨by simp[g1],fun j u hu=>?_⟩;cases j with
   |zero=>simp at hu;subst hu;exact⟨x,rfl,h1⟩
   |succ j=>simp at hu;obtain⟨y,y1,y2⟩:=g2 j u hu;exact⟨y,by simpa using y1,y2⟩
  cases h
theorem nd: ∀{ts:List TV} {cs:List AV},gY ts=some cs->cs.length=ts.length/\ ∀(j:Nat) x,cs[j]?=some x->ts[j]?=some (.one x)/\x≠ .junk
 |[],cs,h=>by simp only[gY]at h;injection h with h;subst h;exact⟨rfl,fun j x h=>by simp at h⟩
 |t::l,cs,h=>by
  cases t with
  |one x=>
   by_cases hx:x= .junk
   ·subst hx;simp only[gY]at h;cases h
   have key:gY (.one x::l)=(match gY l with|some cs=>some (x::cs)|none=>none):=by
    cases x<;>first|rfl|exact absurd rfl hx
   rw[key]at h;split at h
   ·rename_i cs' hcs;injection h with h
    subst h;obtain⟨g1,g2⟩:=nd hcs;refine⟨by simp[g1],fun j y hy=>?_⟩;cases j with
    |zero=>simp at hy;subst hy;exact⟨rfl,hx⟩
    |succ j=>simp at hy;obtain⟨y1,y2⟩:=g2 j y hy;exact⟨by simpa using y1,y2⟩
   cases h
  |agg cs'=>simp only[gY]at h;cases h
  |tup ts=>simp only[gY]at h;cases h
  |fn f cs'=>simp only[gY]at h;cases h
theorem Bq {x:AV} {v:Value} (hx:x≠ .junk) (h:x.rel ρ H X w v):v.oneCell'=true:=by
 cases x with
 |p x=>exact bX.one h
 |sl a r off len=>
  obtain⟨o,_,_,h|⟨b,c,cap,_,h,_⟩⟩:=h
  ·rw[h.2.1];rfl
  rw[h];rfl
 |ptr a r i j=>obtain⟨o,b,c,_,_,_,h⟩:=h;rw[h];rfl
 |junk=>exact absurd rfl hx
 |fn f a qs=>obtain⟨vs,h,_⟩:=h;rw[h];rfl
theorem uM {ev:Operand->Option TV} {e:Operand->Value} (hev:gk ρ H X w ev e)
  {o:Oper} {fn:Fn} {first captured:Array Operand} {T:TV} (ho:o.op= .makeFunc fn first captured) (h:bQ P ev H o.op=some T): ∃v,(execOp e o).run P w= .ok (.value v) w/\T.rel ρ H X w v:=by
 rw[ho]at h;cases fn with
 |func f=>
  simp only[bQ]at h;split at h
  ·rename_i hf;obtain⟨cs,hcs,rfl⟩:=Option.map_eq_some_iff.1 h;obtain⟨ts,hts,hc⟩:=Option.bind_eq_some_iff.1 hcs;obtain⟨e1,e2⟩:=bZ hts;obtain⟨g1,g2⟩:=nd hc;refine⟨.func (.func f) #[] (captured.map e),?_,.agg (captured.map e),⟨captured.map e,rfl,?_,fun j x hx=>?_⟩,rfl⟩
   ·unfold execOp;rw[ho];simp only;refine df ?_;rw[Array.isEmpty_iff]at hf;subst hf;simp only[Instr.makeFunc,Array.map_empty,Sem.run_pure]
   ·simp at e1⊢;omega
   obtain⟨h1,h2⟩:=g2 j x hx;obtain⟨y,y1,y2⟩:=e2 j _ h1;have hr:=hev y _ y2;refine⟨e y,?_,Bq h2 hr,hr⟩;rw[Array.getElem?_map];simp at y1;rw[y1];rfl
  cases h
 |_=>simp only[bQ]at h;cases h
theorem sC {ev:Operand->Option TV} {e:Operand->Value} (hev:gk ρ H X w ev e) (hob: ∀(a r:Nat) (o:OObj),(H a)[r]?=some o->objRel ρ H X w a r o)
  {o:Oper} {T:TV} (h:bQ P ev H o.op=some T): ∃v,(execOp e o).run P w= .ok (.value v) w/\T.rel ρ H X w v:=by
 cases ho:o.op
 case load t x=>exact Fm hev hob ho h
 case indexAddr t x i=>exact sB hev hob ho h
 case fieldAddr t x f=>exact sy hev ho h
 case field t x f=>exact BN hev ho h
 case index t x i=>exact BO hev ho h
 case slice t x lo hi mx=>exact BP hev hob ho h
 case build t parts=>exact BM hev ho h
 case nilCheck x=>exact uN hev ho h
 case makeFunc fn first captured=>exact uM hev ho h
 case call c=>
  obtain⟨callee,args,argTypes⟩:=c;cases callee with
  |builtin b=>
   cases b
   case len=>exact Ix hev ho h
   all_goals (rw[ho]at h;simp only[bQ]at h;cases h)
  |value f=>rw[ho]at h;simp only[bQ]at h;cases h
  |invoke r m=>rw[ho]at h;simp only[bQ]at h;cases h
 all_goals (rw[ho]at h;simp only[bQ]at h;cases h)
end
end
section
section
variable {P:Program} {w0 w w':World} {O X:Nat->Prop} {ρ:Rho} {H:OH}
theorem Ext.stays {Y:Nat->Prop} (h:Ext w w'):Oc Y w w':=⟨h.size,fun _ _ _ hc=>h.cell hc⟩
theorem Keep.ext (h:Keep O w0 w) (e:Ext w w'):Keep O w0 w':=
 ⟨e.os.trans h.os,e.tape.trans h.tape,e.output.trans h.output,Nat.le_trans h.size e.size,fun k hk ho=>by
  rw[e.block k (Nat.lt_of_lt_of_le hk h.size)];exact h.block k hk ho⟩
theorem Keep.refl (w:World):Keep O w w:=⟨rfl,rfl,rfl,ae _,fun _ _ _=>rfl⟩
theorem oA {Y:Nat->Prop} {f:FuncId} {a:Nat} {qs:List (Nat×Nat×Nat)} {v:Value} (hH: ∀b,H b=[]) (h:(AV.fn f a qs).rel ρ H Y w v):False:=by
 obtain⟨vs,_,_,h0,h3⟩:=h;obtain⟨u,_,o,b,c,g,_⟩:=h3 0 qs[0] (List.getElem?_eq_getElem h0);rw[hH]at g;simp at g
theorem AV.rel_ext {Y:Nat->Prop} {x:AV} {v:Value} (e:Ext w w') (h:x.rel ρ H Y w v):x.rel ρ H Y w' v:=by
 cases x with
 |fn f a qs=>exact h
 |p x=>exact bX.stays e.stays h
 |sl a r off len=>exact h
 |ptr a r i j=>exact h
 |junk=>exact h
theorem m5 {ρ':Rho} {H':OH} {Y Y':Nat->Prop} {cs:List AV} {v:Value} (h:bJ ρ H Y w cs v) (k: ∀x v,x.rel ρ H Y w v->AV.rel ρ' H' Y' w' x v):bJ ρ' H' Y' w' cs v:=by
 obtain⟨vs,h1,h2,h3⟩:=h;exact⟨vs,h1,h2,fun j x hx=>by obtain⟨u,h1,h2,h3⟩:=h3 j x hx;exact⟨u,h1,h2,k _ _ h3⟩⟩
theorem TV.rel_map {ρ':Rho} {H':OH} {Y Y':Nat->Prop} {t:TV} {v:Value} (h:t.rel ρ H Y w v) (k: ∀x v,x.rel ρ H Y w v->AV.rel ρ' H' Y' w' x v):t.rel ρ' H' Y' w' v:=by
 cases t with
 |one x=>exact k _ _ h
 |agg cs=>exact m5 h k
 |fn f cs=>obtain⟨u,h1,h2⟩:=h;exact⟨u,m5 h1 k,h2⟩
 |tup ts=>
  obtain⟨vs,h1,h2,h3⟩:=h;refine⟨vs,h1,h2,fun j b cs hx=>?_⟩;obtain⟨u,h1,h2⟩:=h3 j b cs hx;refine⟨u,h1,?_⟩;rcases h2 with⟨h2,h3⟩|⟨h2,x,h3,h4⟩
  ·exact .inl ⟨h2,m5 h3 k⟩
  exact .inr ⟨h2,x,h3,k _ _ h4⟩
theorem dK {ρ':Rho} {H':OH} {Y Y':Nat->Prop} {a r:Nat} {o:OObj} (h:objRel ρ H Y w a r o) (hρ:ρ' a r=ρ a r) (hb: ∀b c,ρ a r=some (b,c)->w'.heap[b]?=w.heap[b]?) (k: ∀x v,x.rel ρ H Y w v->AV.rel ρ' H' Y' w' x v):objRel ρ' H' Y' w' a r o:=by
 obtain⟨h1,h2,h3⟩:=h;refine⟨h1,h2,?_⟩;rw[hρ];cases hr:ρ a r with
 |none=>rw[hr]at h3;exact h3
 |some bc=>
  obtain⟨b,c⟩:=bc;rw[hr]at h3;obtain⟨cells,g1,g2,g3,g4,g5⟩:=h3;refine⟨cells,by rw[hb b c hr];exact g1,g2,g3,g4,fun i e j x he hx=>?_⟩;obtain⟨v,p1,p2,p3⟩:=g5 i e j x he hx;exact⟨v,p1,p2,k _ _ p3⟩
theorem bO {Y:Nat->Prop} {a r:Nat} {o:OObj} {b c:Nat} (h:objRel ρ H Y w a r o) (hρ:ρ a r=some (b,c)):b<w.heap.size:=by
 obtain⟨_,_,h3⟩:=h;rw[hρ]at h3;obtain⟨cells,g1,_⟩:=h3;exact(Array.getElem?_eq_some_iff.1 g1).1
def bq (X:Nat->Prop) (ρ:Rho) (s:AS) (a:Act) (w:World):Prop:= ∀(t:Nat) x,s.tmps[t]?=some x-> ∃v:Value,a.tmps[t]?=some v/\x.rel ρ s.H (Xo X ρ s.H) w v
theorem bD {s:AS} {a:Act} (h:bq X ρ s a w):gk ρ s.H (Xo X ρ s.H) w s.ev a.eval:=by
 intro x t hx;cases x with
 |tmp k=>
  obtain⟨v,h1,h2⟩:=h k t hx;simp only[Act.eval,Array.getD_eq_getD_getElem?,h1,Option.getD_some];exact h2
 |const v=>simp only[AS.ev]at hx;injection hx with hx;subst hx;exact zN v
 |global g=>simp only[AS.ev]at hx;injection hx with hx;subst hx;exact b7 rfl
 |func f=>simp only[AS.ev]at hx;injection hx with hx;subst hx;exact b7 rfl
theorem i6 (a:Act) (d:Option Tmp) (v:Value):(a.put d v).tmps.size=a.tmps.size:=by cases d<;>simp[Act.put]
theorem eA (s:AS) (d:Option Tmp) (t:TV):(s.put d t).tmps.length=s.tmps.length:=by cases d<;>simp[AS.put]
theorem eK (s:AS) (d:Option Tmp) (t:TV):(s.put d t).H=s.H:=by cases d<;>rfl
theorem fB (a:Act) (d:Option Tmp) (v:Value):(a.put d v).defers=a.defers:=by cases d<;>rfl
theorem nC {s:AS} {a:Act} {d:Option Tmp} {t:TV} {v:Value} (hsz:a.tmps.size=s.tmps.length) (h:bq X ρ s a w) (hv:t.rel ρ s.H (Xo X ρ s.H) w v):bq X ρ (s.put d t) (a.put d v) w:=by
 intro k x hx;rw[eK];cases d with
 |none=>exact h k x hx
 |some d=>
  simp only[AS.put]at hx;simp only[Act.put];by_cases hk:d=k
  ·subst hk;rw[List.getElem?_set]at hx;simp at hx;obtain⟨hl,hx⟩:=hx;subst hx;exact⟨v,by rw[Array.getElem?_setIfInBounds_self_of_lt (by omega)],hv⟩
  rw[List.getElem?_set_ne hk]at hx;rw[Array.getElem?_setIfInBounds_ne hk];exact h k x hx
theorem dP {s:AS} {a:Act} {d:Option Tmp} {t:TV} {v:Value} (h1:a.defers=[]) (hsz:a.tmps.size=s.tmps.length) (hinv:Inv w0 O X s.H ρ w) (h:bq X ρ s a w) (hv:t.rel ρ s.H (Xo X ρ s.H) w v):cW w0 O X (s.put d t) (a.put d v) w:=by
 refine⟨by rw[fB];exact h1,by rw[i6,eA];exact hsz,ρ,by rw[eK];exact hinv,?_⟩;exact nC hsz h hv
theorem Inv.grow (h:Inv w0 O X H ρ w) (e:Ext w w'):Inv w0 O X H ρ w':=
 ⟨h.keep.ext e,fun a r o ho=>dK (h.objs a r o ho) rfl (fun b c hb=>e.block b (bO (h.objs a r o ho) hb)) (fun _ _ hr=>AV.rel_ext e hr),h.inj,h.old,fun b hb=>Nat.lt_of_lt_of_le (h.bar b hb) e.size,h.self⟩
theorem bq.grow {s:AS} {a:Act} (h:bq X ρ s a w) (e:Ext w w'):bq X ρ s a w':=fun t x hx=>by
 obtain⟨v,h1,h2⟩:=h t x hx;exact⟨v,h1,TV.rel_map h2 (fun _ _ hr=>AV.rel_ext e hr)⟩
def newρ (ρ:Rho) (d:Nat) (f:Nat->Option (Nat×Nat)):Rho:=fun a r=>if a=d then f r else ρ a r
theorem aN {H:OH} {d a:Nat} {F:List OObj} (h:a≠d):aJ H d F a=H a:=if_neg h
theorem aX {H:OH} {d:Nat} {F:List OObj}:aJ H d F d=F:=if_pos rfl
theorem newρ_ne {d a:Nat} {f:Nat->Option (Nat×Nat)} (h:a≠d) (r:Nat):newρ ρ d f a r=ρ a r:=if_neg h
theorem newρ_eq {d:Nat} {f:Nat->Option (Nat×Nat)} (r:Nat):newρ ρ d f d r=f r:=if_pos rfl
theorem il (hinv:Inv w0 O X H ρ w) (e:Ext w w') {d:Nat} {F:List OObj} (hd:H d=[]) {f:Nat->Option (Nat×Nat)} (hnew: ∀r b c,f r=some (b,c)->w.heap.size<=b) {x:AV} {v:Value}
  (h:x.rel ρ H (Xo X ρ H) w v):x.rel (newρ ρ d f) (aJ H d F) (Xo X (newρ ρ d f) (aJ H d F)) w' v:=by
 have hne: ∀(a r:Nat) o,(H a)[r]?=some o->a≠d:=fun a r o ho ha=>by rw[ha,hd]at ho;simp at ho
 refine n9 (fun x v hn h=>?_) x v h;cases x with
 |fn=>cases hn
 |p x=>
  refine bX.stays e.stays (bX.weaken (fun b hb hX=>?_) h);rcases hX with hX|⟨a,r,o,c,h1,h2⟩
  ·exact .inl hX
  by_cases ha:a=d
  ·subst ha;rw[newρ_eq]at h2;have:=hnew r b c h2;omega
  rw[newρ_ne ha]at h2;rw[aN ha]at h1;exact .inr ⟨a,r,o,c,h1,h2⟩
 |sl a r off len=>
  obtain⟨o,h1,h2,h3⟩:=h;have ha:=hne a r o h1;refine⟨o,by rw[aN ha];exact h1,h2,?_⟩;rw[newρ_ne ha];exact h3
 |ptr a r i j=>
  obtain⟨o,b,c,h1,h2,h3⟩:=h;have ha:=hne a r o h1;refine⟨o,b,c,by rw[aN ha];exact h1,by rw[newρ_ne ha];exact h2,h3⟩
 |junk=>trivial
theorem Ea {s:AS} {a:Act} (hinv:Inv w0 O X s.H ρ w) (htm:bq X ρ s a w) (e:Ext w w') {d:Nat} {F:List OObj} (hd:s.H d=[]) (f:Nat->Option (Nat×Nat))
  (hnew: ∀r b c,f r=some (b,c)->w.heap.size<=b) (hinj: ∀r r' b c c',f r=some (b,c)->f r'=some (b,c')->r=r')
  (hself: ∀(r:Nat) o,F[r]?=some o->selfO d o) (hob: ∀(r:Nat) o,F[r]?=some o->objRel (newρ ρ d f) (aJ s.H d F) (Xo X (newρ ρ d f) (aJ s.H d F)) w' d r o):Inv w0 O X (aJ s.H d F) (newρ ρ d f) w'/\bq X (newρ ρ d f) ⟨s.tmps,aJ s.H d F⟩ a w':=by
 refine⟨?_,?_⟩
 ·refine⟨hinv.keep.ext e,fun a r o ho=>?_,fun a r a' r' o o' b c c' ho ho' hr hr'=>?_,fun a r o b c ho hr=>?_,fun b hb=>Nat.lt_of_lt_of_le (hinv.bar b hb) e.size,fun a r o ho=>?_⟩
  ·by_cases ha:a=d
   ·subst ha;simp only[aX]at ho;exact hob r o ho
   simp only[aN ha]at ho;exact dK (hinv.objs a r o ho) (newρ_ne ha r) (fun b c hb=>e.block b (bO (hinv.objs a r o ho) hb)) (fun _ _ hr=>il hinv e hd hnew hr)
  ·by_cases ha:a=d
   ·subst ha;rw[newρ_eq]at hr;by_cases ha':a'=a
    ·subst ha';rw[newρ_eq]at hr';exact⟨rfl,hinj _ _ _ _ _ hr hr'⟩
    rw[newρ_ne ha']at hr';simp only[aN ha']at ho';have:=bO (hinv.objs a' r' o' ho') hr';have:=hnew _ _ _ hr;omega
   rw[newρ_ne ha]at hr;simp only[aN ha]at ho;by_cases ha':a'=d
   ·subst ha';rw[newρ_eq]at hr';have:=bO (hinv.objs a r o ho) hr;have:=hnew _ _ _ hr';omega
   rw[newρ_ne ha']at hr';simp only[aN ha']at ho';exact hinv.inj a r a' r' o o' b c c' ho ho' hr hr'
  ·by_cases ha:a=d
   ·subst ha;rw[newρ_eq]at hr;have:=hnew _ _ _ hr;have hk:=hinv.keep.size;exact⟨.inl (by omega),fun hX=>by have:=hinv.bar b hX;omega⟩
   rw[newρ_ne ha]at hr;simp only[aN ha]at ho;exact hinv.old a r o b c ho hr
  by_cases ha:a=d
  ·subst ha;simp only[aX]at ho;exact hself r o ho
  simp only[aN ha]at ho;exact hinv.self a r o ho
 intro k x hx;obtain⟨v,g1,g2⟩:=htm k x hx;exact⟨v,g1,TV.rel_map g2 (fun _ _ hr=>il hinv e hd hnew hr)⟩
theorem xx {s:AS} {a:Act} (h1:a.defers=[]) (hsz:a.tmps.size=s.tmps.length) (hinv:Inv w0 O X s.H ρ w) (htm:bq X ρ s a w) (e:Ext w w') {d:Nat} {F:List OObj} (hd:s.H d=[]) (f:Nat->Option (Nat×Nat))
  (hnew: ∀r b c,f r=some (b,c)->w.heap.size<=b) (hinj: ∀r r' b c c',f r=some (b,c)->f r'=some (b,c')->r=r')
  (hself: ∀(r:Nat) o,F[r]?=some o->selfO d o) (hob: ∀(r:Nat) o,F[r]?=some o->objRel (newρ ρ d f) (aJ s.H d F) (Xo X (newρ ρ d f) (aJ s.H d F)) w' d r o) {t:TV} {v:Value}
  (hv:t.rel (newρ ρ d f) (aJ s.H d F) (Xo X (newρ ρ d f) (aJ s.H d F)) w' v):cW w0 O X (AS.put ⟨s.tmps,aJ s.H d F⟩ (some d) t) (a.put (some d) v) w':=by
 have h:=Ea hinv htm e hd f hnew hinj hself hob;exact dP (ρ:=newρ ρ d f) h1 hsz h.1 h.2 hv
theorem cd {a:Nat} {x:AV} (hp:isPure x=true):bG a x:=by
 cases x<;>first|trivial|cases hp
theorem jV (w:World) (o:Obj):Ext w (w.alloc o):=(Ext.refl w).alloc o
theorem rq {s:AS} {a:Act} (h1:a.defers=[]) (hsz:a.tmps.size=s.tmps.length) (hinv:Inv w0 O X s.H ρ w) (htm:bq X ρ s a w) {d:Nat} {e:TypeId} {es c:Nat} {elems:List (List AV)} {cells:Array Value} (hd:s.H d=[])
  (hes:0<es) (hel: ∀x∈elems,x.length=es) (hcs:cells.size=c*es) (hle:elems.length<=c) (hc:c<=9223372036854775807) (hp: ∀x∈elems,∀y∈x,isPure y=true)
  (hcell: ∀(i:Nat) x (j:Nat) y,elems[i]?=some x->x[j]?=some y-> ∃v:Value,cells[i*es+j]?=some v/\v.oneCell'=true/\y.rel ρ s.H (Xo X ρ s.H) w v) {t:TV} {v:Value}
  (ht:(t= .one (.ptr d 0 0 0)/\0<elems.length/\v= .pointer (some ⟨w.heap.size,0,none⟩))\/(t= .one (.sl d 0 0 elems.length)/\v= .slice (some ⟨w.heap.size,0,none⟩) elems.length c)):
  cW w0 O X (AS.put ⟨s.tmps,aJ s.H d [⟨e,es,elems⟩]⟩ (some d) t) (a.put (some d) v) (w.alloc (.cells cells e)):=by
 have hnew: ∀(r b c':Nat),(if r=0 then some (w.heap.size,c)else none)=some (b,c')->w.heap.size<=b:=fun r b c' h=>by
  split at h
  ·injection h with h;injection h with h h';omega
  cases h
 have key: ∀y v,isPure y=true->AV.rel ρ s.H (Xo X ρ s.H) w y v->AV.rel (newρ ρ d fun r=>if r=0 then some (w.heap.size,c)else none) (aJ s.H d [⟨e,es,elems⟩]) (Xo X (newρ ρ d fun r=>if r=0 then some (w.heap.size,c)else none) (aJ s.H d [⟨e,es,elems⟩])) (w.alloc (.cells cells e)) y v:=fun y v _ h=>
  il hinv (jV w _) hd (f:=fun r=>if r=0 then some (w.heap.size,c)else none) hnew h
 refine xx h1 hsz hinv htm (jV w _) hd (fun r=>if r=0 then some (w.heap.size,c)else none) hnew (fun r r' b c c' h h'=>?_) (fun r o ho=>?_) (fun r o ho=>?_) ?_
 ·split at h
  ·split at h'
   ·omega
   cases h'
  cases h
 ·cases r with
  |succ r=>simp at ho
  |zero=>
   simp at ho;subst ho;exact fun x hx y hy=>cd (hp x hx y hy)
 ·cases r with
  |succ r=>simp at ho
  |zero=>
   simp at ho;subst ho;refine⟨hel,hes,?_⟩;rw[newρ_eq];refine⟨cells,heap_alloc_new w _,hcs,hle,hc,fun i x j y hx hy=>?_⟩;obtain⟨u,g1,g2,g3⟩:=hcell i x j y hx hy;exact⟨u,g1,g2,key y u (hp x (ax hx) y (ax hy)) g3⟩
 rcases ht with⟨rfl,hl,rfl⟩|⟨rfl,rfl⟩
 ·exact⟨⟨e,es,elems⟩,w.heap.size,c,by simp[aX],by rw[newρ_eq];rfl,hl,by simp⟩
 exact⟨⟨e,es,elems⟩,by simp[aX],by simp,.inr ⟨w.heap.size,c,c,by rw[newρ_eq];rfl,by simp,hle,fun _=>rfl⟩⟩
end
end
section
section
variable {P:Program} {w0 w w':World} {O X:Nat->Prop} {ρ:Rho} {H:OH}
theorem jb {t:TypeId} {z:List Value} (h:dp P t=some z): ∃i zv,P.info? t=some i/\i.zero=some zv/\zv.cells.toList=z:=by
 unfold dp at h;cases hi:P.info? t with
 |none=>rw[hi]at h;cases h
 |some i=>
  rw[hi]at h;cases hz:i.zero with
  |none=>simp[hz]at h
  |some zv=>simp[hz]at h;exact⟨i,zv,rfl,hz,h⟩
theorem r7 {t:TypeId} {n:Nat} (h:E3 P t=some n): ∃i,P.info? t=some i/\i.bytes=n:=by
 unfold E3 at h;cases hi:P.info? t with
 |none=>rw[hi]at h;cases h
 |some i=>rw[hi]at h;simp at h;exact⟨i,rfl,h⟩
theorem tS {t:TypeId} {i:TypeInfo} {zv:Value} (h:P.info? t=some i) (hz:i.zero=some zv):(zeroValue t).run P w= .ok zv w:=by
 unfold zeroValue;rw[Sem.run_bind,xQ h,ak,hz];rfl
theorem tR (t:TypeId) (c:Array Value):(newRow t c).run P w= .ok ⟨w.heap.size,0,none⟩ (w.alloc (.cells c t)):=rfl
theorem Ei (t:TypeId) (v:Value):(Instr.box t v).run P w= .ok (.pointer (some ⟨w.heap.size,0,none⟩)) (w.alloc (.cells v.cells t)):=rfl
theorem Cv {t:TypeId} {i:TypeInfo} {zv:Value} (h:P.info? t=some i) (hz:i.zero=some zv):
  (Instr.alloc t true (.tuple #[])).run P w= .ok (.pointer (some ⟨w.heap.size,0,none⟩)) (w.alloc (.cells zv.cells t)):=by
 unfold Instr.alloc;rw[Sem.run_bind,tS h hz,ak];rfl
theorem Ae (n:Nat):(askRoom n).run P w= .ok () w:=by
 unfold askRoom;split<;>rfl
def jt (z:List Value) (n:Nat):Array Value:=(Array.range n).map fun k=>z.toArray[k%z.toArray.size]!
theorem ns (z:List Value) (n:Nat):(jt z n).size=n:=by simp[jt]
theorem FA {z:List Value} {n i j:Nat} {v:Value} (hj:z[j]?=some v) (hn:i*z.length+j<n):(jt z n)[i*z.length+j]?=some v:=by
 have hl:j<z.length:=(List.getElem?_eq_some_iff.1 hj).1;unfold jt;rw[Array.getElem?_map,Array.getElem?_range,if_pos hn];simp only[ah,List.size_toArray];rw[Nat.mul_comm,Nat.mul_add_mod,Nat.mod_eq_of_lt hl];rw[(List.getElem?_eq_some_iff.1 hj).2.symm];simp[hl]
theorem Gg {t e:TypeId} {i:TypeInfo} {zv:Value} {z:List Value} (ht:P.underlying t=some (.slice e)) (hi:P.info? e=some i) (hz:i.zero=some zv) (hzc:zv.cells.toList=z) (hsz:z.length=i.size) (kl kc:IntKind) {n m:Int}
  (h0:0<=n) (hnm:n<=m) (h63:m<=9223372036854775807) (hb:(i.bytes:Int)*m<=281474976710656):
  (Instr.makeSlice t (.int kl n) (.int kc m)).run P w= .ok (.slice (some ⟨w.heap.size,0,none⟩) n.toNat m.toNat) (w.alloc (.cells (jt z (m.toNat*z.length)) e)):=by
 have w1:IntKind.i64.wrap n=n:=IntWalk.i64_in _ (by omega);have w2:IntKind.i64.wrap m=m:=IntWalk.i64_in _ (by omega);have hs:(sizeOf e).run P w= .ok i.size w:=by unfold sizeOf;rw[Sem.run_bind,xQ hi];rfl
 have t1:decide (m<0)=false:=by simp;omega
 have t2:decide ((i.bytes:Int)*m>2^48)=false:=by simp;omega
 have t3:decide (n<0)=false:=by simp;omega
 have t4:decide (n>m)=false:=by simp;omega
 unfold Instr.makeSlice;simp only[Sem.run_bind,run_underlying ht,ak,asInt,asIntOf,Sem.run_pure,xQ hi,w1,w2,t1,t2,t3,t4,Bool.or_false,Bool.false_eq_true,if_false,Ae,hs];by_cases hn0:m.toNat*i.size=0
 ·rw[if_pos hn0,Sem.run_bind];show Result.andThen (.ok #[] w) _=_;simp only[ak,Sem.run_bind,tR,Sem.run_pure];rw[hsz,hn0,show jt z 0= #[] by simp[jt],show(Array.map (fun x=>(#[]:Array Value)[x%(#[]:Array Value).size]!) (Array.range 0))= #[] by simp]
 rw[if_neg hn0];simp only[Sem.run_bind,tS hi hz,ak,Sem.run_pure,tR];rw[hsz,<- hzc];rfl
theorem vK {ev:Operand->Option TV} {e:Operand->Value} {Y:Nat->Prop} (hev:gk ρ H Y w ev e) {sz:Nat}: ∀(parts:List (Nat×Operand)) (i0:Nat) (l:List (List AV)) (cells:Array Value),
  nn ev sz i0 parts=some l->(i0+l.length)*sz<=cells.size->
  ∃cells',Instr.fill (fun i=>some (i*sz,sz)) cells (parts.map fun(i,x)=>(i,e x))=some cells'/\cells'.size=cells.size/\(∀j:Nat,j<i0*sz->cells'[j]?=cells[j]?)/\
   (∀x∈l,x.length=sz/\ ∀y∈x,isPure y=true)/\
   ∀(i:Nat) x (j:Nat) y,l[i]?=some x->x[j]?=some y-> ∃u:Value,cells'[(i0+i)*sz+j]?=some u/\u.oneCell'=true/\y.rel ρ H Y w u
 |[],i0,l,cells,h,_=>by
  simp only[nn]at h;injection h with h
  subst h;exact⟨cells,rfl,rfl,fun _ _=>rfl,fun x hx=>(by simp at hx),fun i x j y hx=>(by simp at hx)⟩
 |(k,x)::rest,i0,l,cells,h,hsz=>by
  simp only[nn]at h;split at h
  ·rename_i cs l' hcs hl';split at h
   ·rename_i hc;obtain⟨c1,c2,c3⟩:=hc;injection h with h
    subst h;subst c1;obtain⟨t,ht,hys⟩:=Option.bind_eq_some_iff.1 hcs;obtain⟨r1,r2⟩:=gZ hys (hev x t ht);simp only[List.length_cons]at hsz;have hms:(k+(l'.length+1))*sz=k*sz+(l'.length*sz+sz):=by rw[Nat.add_mul,Nat.add_mul,Nat.one_mul]
    generalize hvc:(e x).cells=vc at*
    obtain⟨vc⟩:=vc;have r1':vc.length=cs.length:=r1;obtain⟨f1,f2⟩:=pP (k*sz) vc 0 cells (by omega);have e1:(vc.toArray.zipIdx.foldl (fun cs (c,j)=>cs.setIfInBounds (k*sz+j) c) cells)=((vc.zipIdx 0).foldl (fun cs (c,j)=>cs.setIfInBounds (k*sz+j) c) cells):=by
     rw[<- Array.foldl_toList];simp
    have hk1:(k+1)*sz=k*sz+sz:=by rw[Nat.add_mul,Nat.one_mul]
    obtain⟨cells',g1,g2,g3,g4,g5⟩:=vK hev rest (k+1) l' (cells:=(vc.zipIdx 0).foldl (fun cs (c,j)=>cs.setIfInBounds (k*sz+j) c) cells) hl' (by rw[f1,Nat.add_mul];omega);refine⟨cells',?_,by rw[g2,f1],fun j hj=>?_,fun y hy=>?_,fun i y j u hy hu=>?_⟩
    ·simp only[List.map_cons,Instr.fill,hvc];rw[if_neg (by simp;omega),e1];exact g1
    ·rw[g3 j (by omega),f2 j,if_neg (by omega)]
    ·rcases List.mem_cons.1 hy with rfl|hy
     ·exact⟨c2,fun z hz=>by simp only[aj]at c3;exact c3 z hz⟩
     exact g4 y hy
    cases i with
    |zero=>
     simp at hy;subst hy;have hj:j<cs.length:=(List.getElem?_eq_some_iff.1 hu).1;obtain⟨v,v1,v2⟩:=r2 j u hu;refine⟨v,?_,v2⟩;rw[Nat.add_zero,g3 _ (by omega),f2,if_pos (by omega)];rw[show k*sz+j-(k*sz+0)=j by omega];simpa using v1
    |succ i=>
     simp at hy;obtain⟨v,v1,v2⟩:=g5 i y j u hy hu;exact⟨v,by rw[show k+(i+1)=k+1+i by omega];exact v1,v2⟩
   cases h
  cases h
def iv (s:AS) (d:Nat) (t:TV) (F:List OObj):AS:=if F.isEmpty then s.put (some d) t else AS.put ⟨s.tmps,aJ s.H d F⟩ (some d) t
theorem Iu {items:List (cQ P)} {ow:List Nat} {i d:Nat} {s:AS} {a:Act} {o:Oper} {t:TV} {F:List OObj} (h1:a.defers=[]) (hsz:a.tmps.size=s.tmps.length) (hinv:Inv w0 O X s.H ρ w) (htm:bq X ρ s a w)
  {e:TypeId} {x:Operand} (ho:o.op= .box e x) (h:cf P items ow i d s.ev s.H o.op=some (t,F)) (hd:s.H d=[]):
  ∃v w',(execOp a.eval o).run P w= .ok (.value v) w'/\cW w0 O X (iv s d t F) (a.put (some d) v) w':=by
 unfold execOp;rw[ho]at h⊢;simp only[cf]at h;split at h
 ·rename_i cs hcs;split at h
  ·rename_i hc;injection h with h
   injection h with ht hF
   subst ht hF;obtain⟨t,ht,hys⟩:=Option.bind_eq_some_iff.1 hcs;obtain⟨r1,r2⟩:=gZ hys (bD htm x t ht);refine⟨_,_,df (Ei e (a.eval x)),?_⟩;refine rq h1 hsz hinv htm (c:=1) hd hc.2 (by simp) (by simp[r1]) (by simp) (by omega) (fun y hy z hz=>?_) (fun k y j z hy hz=>?_) (.inl ⟨rfl,by simp,rfl⟩)
   ·simp at hy;subst hy;have:=hc.1;simp only[aj]at this;exact this z hz
   cases k with
   |succ k=>simp at hy
   |zero=>
    simp at hy;subst hy;rw[Nat.zero_mul,Nat.zero_add];exact r2 j z hz
  cases h
 cases h
theorem BG {items:List (cQ P)} {ow:List Nat} {i d:Nat} {s:AS} {a:Act} {o:Oper} {t:TV} {F:List OObj} (h1:a.defers=[]) (hsz:a.tmps.size=s.tmps.length) (hinv:Inv w0 O X s.H ρ w) (htm:bq X ρ s a w)
  {e:TypeId} (ho:o.op= .alloc e) (h:cf P items ow i d s.ev s.H o.op=some (t,F)) (hd:s.H d=[]):
  ∃v w',(execOp a.eval o).run P w= .ok (.value v) w'/\cW w0 O X (iv s d t F) (a.put (some d) v) w':=by
 unfold execOp;rw[ho]at h⊢;simp only[cf]at h;split at h
 ·rename_i z hz;split at h
  ·rename_i hc;injection h with h
   injection h with ht hF
   subst ht hF;obtain⟨i,zv,hi,hzv,hzc⟩:=jb hz;obtain⟨r1,r2⟩:=Aa (ρ:=ρ) (H:=s.H) (X:=Xo X ρ s.H) (w:=w) hc.1;refine⟨_,_,df (Cv hi hzv),?_⟩;have e1:z.toArray=zv.cells:=by rw[<- hzc]
   rw[e1]at r1 r2;refine rq h1 hsz hinv htm (c:=1) hd hc.2 (by simp) (by rw[<- e1];simp) (by simp) (by omega) (fun y hy z' hz'=>?_) (fun k y j z' hy hz'=>?_) (.inl ⟨rfl,by simp,rfl⟩)
   ·simp at hy;subst hy;simp at hz';obtain⟨u,_,rfl⟩:=hz';rfl
   cases k with
   |succ k=>simp at hy
   |zero=>
    simp at hy;subst hy;rw[Nat.zero_mul,Nat.zero_add];exact r2 j z' hz'
  cases h
 cases h
theorem Fh {items:List (cQ P)} {ow:List Nat} {i d:Nat} {s:AS} {a:Act} {o:Oper} {t:TV} {F:List OObj} (h1:a.defers=[]) (hsz:a.tmps.size=s.tmps.length) (hinv:Inv w0 O X s.H ρ w) (htm:bq X ρ s a w)
  {ty:TypeId} {l c:Operand} (ho:o.op= .makeSlice ty l c) (h:cf P items ow i d s.ev s.H o.op=some (t,F)) (hd:s.H d=[]):
  ∃v w',(execOp a.eval o).run P w= .ok (.value v) w'/\cW w0 O X (iv s d t F) (a.put (some d) v) w':=by
 unfold execOp;rw[ho]at h⊢;simp only[cf]at h;split at h
 ·rename_i k1 n k2 m e hl hc hs;split at h
  ·rename_i z sz by_ hz hszo hby;split at h
   ·rename_i hcond;obtain⟨c1,c2,c3,c4,c5,c6,c7⟩:=hcond;injection h with h
    injection h with ht hF
    subst ht hF;obtain⟨i,zv,hi,hzv,hzc⟩:=jb hz;obtain⟨i',hi',hsz'⟩:=py hszo;rw[hi]at hi';injection hi' with hi';subst hi'
    obtain⟨i',hi',hby'⟩:=r7 hby;rw[hi]at hi';injection hi' with hi';subst hi'
    have hrun:=Gg (P:=P) (w:=w) (dn hs) hi hzv hzc (by omega) k1 k2 c1 c2 c3 (by rw[hby'];exact c4);have hn:=(bs (bD htm l _ hl)).1;have hm:=(bs (bD htm c _ hc)).1;refine⟨_,_,df (by rw[hn,hm];exact hrun),?_⟩;simp only[aj]at c7;have hrep: ∀(k:Nat) x,(List.replicate n.toNat (z.map AV.raw))[k]?=some x->k<n.toNat/\x=z.map AV.raw:=fun k x hx=>by
     rw[List.getElem?_replicate]at hx;split at hx
     ·injection hx with hx;exact⟨by assumption,hx.symm⟩
     cases hx
    have hlen:(List.replicate n.toNat (z.map AV.raw)).length=n.toNat:=by simp
    have:=rq h1 hsz hinv htm (c:=m.toNat) (e:=e) (es:=sz) (elems:=List.replicate n.toNat (z.map AV.raw)) (cells:=jt z (m.toNat*z.length)) hd c6 (by simp[List.mem_replicate];omega) (by rw[ns,c5]) (by simp;omega) (by omega)
     (fun y hy z' hz'=>by simp[List.mem_replicate]at hy;rw[hy.2]at hz';simp at hz';obtain⟨u,_,rfl⟩:=hz';rfl)
     (fun k y j z' hy hz'=>by
      obtain⟨hk,rfl⟩:=hrep k y hy;rw[az]at hz';cases hj:z[j]? with
      |none=>rw[hj]at hz';cases hz'
      |some u=>
       rw[hj]at hz';simp at hz';subst hz';have h1:=c7 u (ax hj);have hjl:j<z.length:=(List.getElem?_eq_some_iff.1 hj).1;have hlt:k*z.length+j<m.toNat*z.length:=by
        have:(k+1)*z.length<=m.toNat*z.length:=Nat.mul_le_mul_right _ (by omega);rw[Nat.add_mul,Nat.one_mul]at this;omega
       refine⟨u,?_,h1,bX.raw u h1⟩;rw[<- c5];exact FA hj hlt)
     (t:= .one (.sl d 0 0 n.toNat)) (v:= .slice (some ⟨w.heap.size,0,none⟩) n.toNat m.toNat) (.inr ⟨by rw[hlen],by rw[hlen]⟩)
    exact this
   cases h
  cases h
 cases h
theorem Iw {items:List (cQ P)} {ow:List Nat} {i d:Nat} {s:AS} {a:Act} {o:Oper} {t:TV} {F:List OObj} (h1:a.defers=[]) (hsz:a.tmps.size=s.tmps.length) (hinv:Inv w0 O X s.H ρ w) (htm:bq X ρ s a w)
  {ty:TypeId} {n:Nat} {parts:Array (Nat×Operand)} (ho:o.op= .buildSlice ty n parts) (h:cf P items ow i d s.ev s.H o.op=some (t,F)) (hd:F≠[]->s.H d=[]):
  ∃v w',(execOp a.eval o).run P w= .ok (.value v) w'/\cW w0 O X (iv s d t F) (a.put (some d) v) w':=by
 unfold execOp;rw[ho]at h⊢;simp only[cf]at h;split at h
 ·rename_i e hs;split at h
  ·rename_i z sz hz hszo;split at h
   ·rename_i l hlit;split at h
    ·rename_i hcond;obtain⟨c1,c2,c3,c4⟩:=hcond;obtain⟨i,zv,hi,hzv,hzc⟩:=jb hz;have hz0:((Array.range (n*sz)).map (zv.cells[· %zv.cells.size]!))=jt z (n*sz):=by unfold jt;rw[<- hzc]
     obtain⟨cells,g1,g2,g3,g4,g5⟩:=vK (bD htm) parts.toList 0 l (jt z (n*sz)) hlit (by rw[ns,c1];simp);have hrun:(Instr.buildSlice ty n (parts.map fun(i,x)=>(i,a.eval x))).run P w= .ok (.slice (some ⟨w.heap.size,0,none⟩) n n) (w.alloc (.cells cells e)):=by
      have g1':Instr.fill (fun i=>some (i*sz,sz)) (jt z (n*sz)) (parts.map fun(i,x)=>(i,a.eval x)).toList=some cells:=by rw[<- g1];simp
      unfold Instr.buildSlice;simp only[Sem.run_bind,run_underlying (dn hs),ak,dz hszo];rw[if_neg (by omega)];by_cases hn0:n*sz=0
      ·rw[if_pos hn0];have hm0:jt z (n*sz)= #[]:=by rw[hn0];simp[jt]
       rw[hm0]at g1';rw[Sem.run_bind];show Result.andThen (.ok #[] w) _=_;rw[ak];rw[show(Array.map (fun x=>(#[]:Array Value)[x%(#[]:Array Value).size]!) (Array.range (n*sz)))= #[] by rw[hn0];simp,g1'];rfl
      rw[if_neg hn0];simp only[Sem.run_bind,tS hi hzv,Sem.run_pure,ak];rw[hz0,g1'];rfl
     split at h
     ·injection h with h
      injection h with ht hF
      subst ht hF;refine⟨_,_,df hrun,?_⟩;have:=rq h1 hsz hinv htm (c:=n) (e:=e) (es:=sz) (elems:=l) (cells:=cells) (hd (by simp)) c4 (fun x hx=>(g4 x hx).1) (by rw[g2,ns]) (by omega)
       (by have:n*1<=n*sz:=Nat.mul_le_mul_left _ c4;omega) (fun x hx=>(g4 x hx).2)
       (fun i x j y hx hy=>by have:=g5 i x j y hx hy;rwa[Nat.zero_add]at this)
       (t:= .one (.sl d 0 0 n)) (v:= .slice (some ⟨w.heap.size,0,none⟩) n n) (.inr ⟨by rw[c1],by rw[c1]⟩)
      exact this
     injection h with h
     injection h with ht hF
     subst ht hF;refine⟨_,_,df hrun,?_⟩;refine dP h1 hsz (hinv.grow (jV w _)) (htm.grow (jV w _)) ?_;show bX _ _ _ _;have hl:(l.map (List.map ri)).length=n:=by simp[c1]
     have hcell: ∀(i:Nat) x (j:Nat) y,(l.map (List.map ri))[i]?=some x->x[j]?=some y-> ∃u:Value,cells[i*sz+j]?=some u/\bX (Xo X ρ s.H) w y u:=fun i x j y hx hy=>by
      rw[az]at hx;cases hx':l[i]? with
      |none=>rw[hx']at hx;cases hx
      |some x'=>
       rw[hx']at hx;simp at hx;subst hx;rw[az]at hy;cases hy':x'[j]? with
       |none=>rw[hy']at hy;cases hy
       |some y'=>
        rw[hy']at hy;simp at hy;subst hy;obtain⟨u,u1,u2,u3⟩:=g5 i x' j y' hx' hy';have hp:=(g4 x' (ax hx')).2 y' (ax hy');refine⟨u,by rwa[Nat.zero_add]at u1,?_⟩;cases y'<;>first|exact u3|cases hp
     have hf: ∃f:Nat->Nat->Value,∀(i:Nat) x (j:Nat) y,(l.map (List.map ri))[i]?=some x->x[j]?=some y->cells[i*sz+j]?=some (f i j)/\bX (Xo X ρ s.H) w y (f i j):=by
      refine⟨fun i j=>(cells[i*sz+j]?).getD undef,fun i x j y hx hy=>?_⟩;obtain⟨u,u1,u2⟩:=hcell i x j y hx hy;simp only[u1,Option.getD_some];exact⟨trivial,u2⟩
     obtain⟨f,hf⟩:=hf;have hnn:n<=16777216:=by have:n*1<=n*sz:=Nat.mul_le_mul_left _ c4;omega
     have:=bX.sl (X:=Xo X ρ s.H) (w:=w.alloc (.cells cells e)) w.heap.size 0 sz n (l.map (List.map ri)) f (fun hX=>by
      rcases hX with hX|⟨a',r,o',c,q1,q2⟩
      ·have:=hinv.bar _ hX;omega
      ·have:=bO (hinv.objs a' r o' q1) q2;omega) (by rw[World.size_alloc];omega) (fun x hx=>by simp at hx;obtain⟨x',hx',rfl⟩:=hx;simp;exact(g4 x' hx').1) (by omega) (by omega)
      (fun i x j y hx hy=>by
       rw[cell_of_row _ w.heap.size (0+i*sz+j) cells e (0,0) (heap_alloc_new w _),Nat.zero_add];exact(hf i x j y hx hy).1)
      (fun i x j y hx hy=>bX.stays (jV w _).stays (hf i x j y hx hy).2)
     rw[hl]at this;exact this
    cases h
   cases h
  cases h
 cases h
end
end
section
section
variable {P:Program} {w0 w w':World} {O X:Nat->Prop} {ρ:Rho} {H:OH}
structure But (b:Nat) (w w':World):Prop where
 os:w'.os=w.os
 tape:w'.tape=w.tape
 output:w'.output=w.output
 size:w.heap.size<=w'.heap.size
 block: ∀k,k<w.heap.size->k≠b->w'.heap[k]?=w.heap[k]?
theorem But.setRow (w:World) (b:Nat) (cs:Array Value):But b w (w.setRow b cs):=
 ⟨rfl,rfl,rfl,by simp[World.setRow],fun k hk hb=>by simp[World.setRow,Array.getElem?_modify,Ne.symm hb]⟩
theorem Keep.but {b:Nat} (h:Keep O w0 w) (e:But b w w') (hb:w0.heap.size<=b\/O b):Keep O w0 w':=
 ⟨e.os.trans h.os,e.tape.trans h.tape,e.output.trans h.output,Nat.le_trans h.size e.size,fun k hk ho=>by
  rw[e.block k (Nat.lt_of_lt_of_le hk h.size) (by rintro rfl;rcases hb with hb|hb;omega;exact ho hb)];exact h.block k hk ho⟩
theorem lG {ρ':Rho} {H':OH} {b:Nat} (hX:Xo X ρ H b) (e:But b w w')
  (hlive: ∀(a r:Nat) o,(H a)[r]?=some o-> ∃o',(H' a)[r]?=some o'/\o'.es=o.es/\o.elems.length<=o'.elems.length/\ρ' a r=ρ a r)
  (hback: ∀(a r:Nat) o b' c,(H' a)[r]?=some o->ρ' a r=some (b',c)->b'<w.heap.size->Xo X ρ H b') {x:AV} {v:Value}
  (h:x.rel ρ H (Xo X ρ H) w v):x.rel ρ' H' (Xo X ρ' H') w' v:=by
 refine n9 (fun x v hn h=>?_) x v h;cases x with
 |fn=>cases hn
 |p x=>
  refine bX.stays ⟨e.size,fun p u hp hu=>?_⟩ (bX.weaken (fun b' hb' h'=>?_) h)
  ·have hlt:=wX hu;by_cases hpb:p.block=b
   ·exfalso;apply hp;obtain hX|⟨a,r,o,c,h1,h2⟩:=hX
    ·exact .inl (hpb▸hX)
    obtain⟨o',g1,g2,g3,g4⟩:=hlive a r o h1;exact .inr ⟨a,r,o',c,g1,by rw[g4,hpb];exact h2⟩
   unfold World.cell? at hu⊢;rw[e.block _ hlt hpb];exact hu
  rcases h' with h'|⟨a,r,o,c,h1,h2⟩
  ·exact .inl h'
  exact hback a r o b' c h1 h2 hb'
 |sl a r off len=>
  obtain⟨o,h1,h2,h3⟩:=h;obtain⟨o',g1,g2,g3,g4⟩:=hlive a r o h1;refine⟨o',g1,by omega,?_⟩;rw[g4,g2];exact h3
 |ptr a r i j=>
  obtain⟨o,b',c,h1,h2,h3,h4⟩:=h;obtain⟨o',g1,g2,g3,g4⟩:=hlive a r o h1;exact⟨o',b',c,g1,by rw[g4];exact h2,by omega,by rw[g2];exact h4⟩
 |junk=>trivial
theorem pg {l:List OObj} {r r':Nat} {o o':OObj} (h:l[r]?=some o):(l.set r o')[r']?=if r'=r then some o' else l[r']?:=by
 by_cases hr:r'=r
 ·subst hr;rw[if_pos rfl,List.getElem?_set];simp[(List.getElem?_eq_some_iff.1 h).1]
 rw[if_neg hr,List.getElem?_set_ne (Ne.symm hr)]
theorem xG {e cs:List AV} {j:Nat} (h:j+cs.length<=e.length):(putCells e j cs).length=e.length:=by
 simp[putCells];omega
theorem xF {e cs:List AV} {j:Nat} (h:j+cs.length<=e.length) (k:Nat):(putCells e j cs)[k]?=if j<=k/\k<j+cs.length then cs[k-j]? else e[k]?:=xT h k
theorem yJ {i i' es j j' n:Nat} (h:i'≠i) (hj:j+n<=es) (hj':j'<es): ¬(i*es+j<=i'*es+j'/\i'*es+j'<i*es+j+n):=by
 rcases Nat.lt_or_gt_of_ne h with h|h
 ·have:(i'+1)*es<=i*es:=Nat.mul_le_mul_right _ h;rw[Nat.add_mul,Nat.one_mul]at this;omega
 have:(i+1)*es<=i'*es:=Nat.mul_le_mul_right _ h;rw[Nat.add_mul,Nat.one_mul]at this;omega
theorem wv {s:AS} {act:Act} (h1:act.defers=[]) (hsz:act.tmps.size=s.tmps.length) (hinv:Inv w0 O X s.H ρ w) (htm:bq X ρ s act w) {a r i j b c:Nat} {o:OObj} {e cs:List AV} {vs:List Value}
  (ho:(s.H a)[r]?=some o) (hρ:ρ a r=some (b,c)) (he:o.elems[i]?=some e) (hj:j+cs.length<=e.length) (hvl:vs.length=cs.length)
  (hrel: ∀(k:Nat) x,cs[k]?=some x-> ∃u:Value,vs[k]?=some u/\u.oneCell'=true/\x.rel ρ s.H (Xo X ρ s.H) w u) (hself: ∀x∈cs,bG a x):
  ∃cells,w.heap[b]?=some (.cells cells o.ty (0,0))/\i*o.es+j+vs.length<=cells.size/\
   Inv w0 O X (aJ s.H a ((s.H a).set r {o with elems:=o.elems.set i (putCells e j cs)})) ρ (w.setRow b (cells.toList.take (i*o.es+j)++vs++cells.toList.drop (i*o.es+j+vs.length)).toArray)/\
   bq X ρ ⟨s.tmps,aJ s.H a ((s.H a).set r {o with elems:=o.elems.set i (putCells e j cs)})⟩ act (w.setRow b (cells.toList.take (i*o.es+j)++vs++cells.toList.drop (i*o.es+j+vs.length)).toArray):=by
 have hobj:=hinv.objs a r o ho;obtain⟨q1,q2,q3⟩:=hobj;rw[hρ]at q3;obtain⟨cells,p1,p2,p3,p4,p5⟩:=q3;have hel:e.length=o.es:=q1 e (ax he);have hi:i<o.elems.length:=(List.getElem?_eq_some_iff.1 he).1;have hfit:i*o.es+j+vs.length<=cells.size:=by
  have:(i+1)*o.es<=c*o.es:=Nat.mul_le_mul_right _ (by omega);rw[Nat.add_mul,Nat.one_mul]at this;omega
 refine⟨cells,p1,hfit,?_⟩;have hXb:Xo X ρ s.H b:= .inr ⟨a,r,o,c,ho,hρ⟩;generalize hcl:(cells.toList.take (i*o.es+j)++vs++cells.toList.drop (i*o.es+j+vs.length))=cl;have hcget: ∀k:Nat,cl[k]?=if i*o.es+j<=k/\k<i*o.es+j+vs.length then vs[k-(i*o.es+j)]? else cells[k]?:=fun k=>by
  rw[<- hcl,xT (by simpa using hfit)];simp
 have hclen:cl.length=cells.size:=by rw[<- hcl];simp;omega
 have e0:=But.setRow w b cl.toArray;generalize hH':aJ s.H a ((s.H a).set r {o with elems:=o.elems.set i (putCells e j cs)})=H';have hH'a: ∀r',(H' a)[r']?=if r'=r then some {o with elems:=o.elems.set i (putCells e j cs)}else(s.H a)[r']?:=fun r'=>by rw[<- hH',aX];exact pg ho
 have hH'n: ∀a',a'≠a->H' a'=s.H a':=fun a' ha=>by rw[<- hH',aN ha]
 have hlive: ∀(a' r':Nat) o1,(s.H a')[r']?=some o1-> ∃o',(H' a')[r']?=some o'/\o'.es=o1.es/\o1.elems.length<=o'.elems.length/\ρ a' r'=ρ a' r':=fun a' r' o1 ho1=>by
  by_cases ha:a'=a
  ·subst ha;rw[hH'a];by_cases hr:r'=r
   ·subst hr;rw[ho]at ho1;injection ho1 with ho1
    subst ho1;rw[if_pos rfl];exact⟨_,rfl,rfl,by simp,rfl⟩
   rw[if_neg hr];exact⟨o1,ho1,rfl,ae _,rfl⟩
  rw[hH'n a' ha];exact⟨o1,ho1,rfl,ae _,rfl⟩
 have hback0: ∀(a' r':Nat) o1,(H' a')[r']?=some o1-> ∃o2,(s.H a')[r']?=some o2/\o1.es=o2.es/\(a'=a/\r'=r\/o1=o2):=fun a' r' o1 ho1=>by
  by_cases ha:a'=a
  ·subst ha;rw[hH'a]at ho1;by_cases hr:r'=r
   ·subst hr;rw[if_pos rfl]at ho1;injection ho1 with ho1
    exact⟨o,ho,by rw[<- ho1],.inl ⟨rfl,rfl⟩⟩
   rw[if_neg hr]at ho1;exact⟨o1,ho1,rfl,.inr rfl⟩
  rw[hH'n a' ha]at ho1;exact⟨o1,ho1,rfl,.inr rfl⟩
 have hback: ∀(a' r':Nat) o1 b' c',(H' a')[r']?=some o1->ρ a' r'=some (b',c')->b'<w.heap.size->Xo X ρ s.H b':=fun a' r' o1 b' c' ho1 hr1 _=>by
  obtain⟨o2,g1,_⟩:=hback0 a' r' o1 ho1;exact .inr ⟨a',r',o2,c',g1,hr1⟩
 have hmono: ∀x v,AV.rel ρ s.H (Xo X ρ s.H) w x v->AV.rel ρ H' (Xo X ρ H') (w.setRow b cl.toArray) x v:=fun x v hx=>lG hXb e0 hlive hback hx
 refine⟨⟨hinv.keep.but e0 (hinv.old a r o b c ho hρ).1,fun a' r' o1 ho1=>?_,fun a1 r1 a2 r2 o1 o2 b1 c1 c2 ho1 ho2 hr1 hr2=>?_,fun a1 r1 o1 b1 c1 ho1 hr1=>?_,fun b1 hb1=>Nat.lt_of_lt_of_le (hinv.bar b1 hb1) e0.size,fun a1 r1 o1 ho1=>?_⟩,fun t x hx=>?_⟩
 ·obtain⟨o2,g1,g2,g3⟩:=hback0 a' r' o1 ho1;by_cases har:a'=a/\r'=r
  ·obtain⟨rfl,rfl⟩:=har;rw[hH'a,if_pos rfl]at ho1;injection ho1 with ho1
   subst ho1;refine⟨fun y hy=>?_,q2,?_⟩
   ·rcases List.mem_or_eq_of_mem_set hy with hy|rfl
    ·exact q1 y hy
    rw[xG hj];exact hel
   rw[hρ];refine⟨cl.toArray,setRow_heap w b cells _ _ _ p1,by simp[hclen,p2],by simpa using p3,p4,fun i' e' j' x he' hx=>?_⟩;simp only[List.getElem?_toArray];rw[hcget];by_cases hii:i'=i
   ·subst hii;rw[List.getElem?_set]at he';simp[hi]at he';subst he';rw[xF hj]at hx;split at hx
    ·rename_i hjj;rw[if_pos (by omega)];obtain⟨u,u1,u2,u3⟩:=hrel _ _ hx;exact⟨u,by rw[show i'*o.es+j'-(i'*o.es+j)=j'-j by omega];exact u1,u2,hmono _ _ u3⟩
    rename_i hjj;rw[if_neg (by omega)];obtain⟨u,u1,u2,u3⟩:=p5 i' e j' x he hx;exact⟨u,u1,u2,hmono _ _ u3⟩
   rw[List.getElem?_set_ne (Ne.symm hii)]at he';have hj':j'<e'.length:=(List.getElem?_eq_some_iff.1 hx).1;rw[q1 e' (ax he')]at hj';rw[if_neg (by rw[hvl];exact yJ hii (by omega) hj')];obtain⟨u,u1,u2,u3⟩:=p5 i' e' j' x he' hx;exact⟨u,u1,u2,hmono _ _ u3⟩
  rcases g3 with g3|g3
  ·exact absurd g3 har
  subst g3;refine dK (hinv.objs a' r' o1 g1) rfl (fun b' c' hb'=>e0.block b' (bO (hinv.objs a' r' o1 g1) hb') (fun hbb=>?_)) hmono;subst hbb;exact har (hinv.inj a' r' a r o1 o b' c' c g1 ho hb' hρ)
 ·obtain⟨o1',g1,_⟩:=hback0 a1 r1 o1 ho1;obtain⟨o2',g2,_⟩:=hback0 a2 r2 o2 ho2;exact hinv.inj a1 r1 a2 r2 o1' o2' b1 c1 c2 g1 g2 hr1 hr2
 ·obtain⟨o1',g1,_⟩:=hback0 a1 r1 o1 ho1;exact hinv.old a1 r1 o1' b1 c1 g1 hr1
 ·obtain⟨o2,g1,g2,g3⟩:=hback0 a1 r1 o1 ho1;rcases g3 with⟨rfl,rfl⟩|g3
  ·rw[hH'a,if_pos rfl]at ho1;injection ho1 with ho1
   subst ho1;intro y hy x hx;rcases List.mem_or_eq_of_mem_set hy with hy|rfl
   ·exact hinv.self a1 r1 o ho y hy x hx
   unfold putCells at hx;simp only[List.mem_append]at hx;rcases hx with(hx|hx)|hx
   ·exact hinv.self a1 r1 o ho e (ax he) x (List.mem_of_mem_take hx)
   ·exact hself x hx
   exact hinv.self a1 r1 o ho e (ax he) x (List.mem_of_mem_drop hx)
  subst g3;exact hinv.self a1 r1 o1 g1
 obtain⟨v,v1,v2⟩:=htm t x hx;exact⟨v,v1,TV.rel_map v2 hmono⟩
theorem qS {t:TypeId} {b off:Nat} {v:Value} {ty:TypeId} {cells:Array Value} (hs:gh P t=some v.cells.size) (hb:w.heap[b]?=some (.cells cells ty (0,0))) (hl:off+v.cells.size<=cells.size) (h1: ∀u∈v.cells,u.oneCell'=true):
  (Instr.storeAt t (.pointer (some ⟨b,off,none⟩)) v).run P w= .ok () (w.setRow b (cells.toList.take off++v.cells.toList++cells.toList.drop (off+v.cells.size)).toArray):=by
 unfold Instr.storeAt storeVar;simp only[Instr.sureAddr,Sem.run_bind,Sem.run_pure,ak,dz hs];rw[if_neg (fun h=>h rfl)];have:=run_storeCells_at P b off ty v.cells.toList 0 cells w hb (by simpa using hl) (fun u hu=>h1 u (by simpa using hu));simpa using this
end
end
section
section
variable {P:Program} {w0 w w':World} {O X:Nat->Prop} {ρ:Rho} {H:OH}
theorem sS {ρ':Rho} {H':OH} {Y Y':Nat->Prop} {k:Nat->Nat->Bool} {t:TV} {v:Value} (h:t.rel ρ H Y w v) (hk: ∀x v,x.rel ρ H Y w v->AV.rel ρ' H' Y' w' (a6 k x) v):(a7 k t).rel ρ' H' Y' w' v:=by
 have agg: ∀cs v,bJ ρ H Y w cs v->bJ ρ' H' Y' w' (cs.map (a6 k)) v:=fun cs v h=>by
  obtain⟨vs,h1,h2,h3⟩:=h;refine⟨vs,h1,by simpa using h2,fun j x hx=>?_⟩;rw[az]at hx;cases hj:cs[j]? with
  |none=>rw[hj]at hx;cases hx
  |some y=>
   rw[hj]at hx;simp at hx;subst hx;obtain⟨u,u1,u2,u3⟩:=h3 j y hj;exact⟨u,u1,u2,hk _ _ u3⟩
 cases t with
 |one x=>exact hk _ _ h
 |agg cs=>exact agg cs v h
 |fn f cs=>obtain⟨u,h1,h2⟩:=h;exact⟨u,agg cs u h1,h2⟩
 |tup ts=>
  obtain⟨vs,h1,h2,h3⟩:=h;refine⟨vs,h1,by simpa using h2,fun j b cs hx=>?_⟩;rw[az]at hx;cases hj:ts[j]? with
  |none=>rw[hj]at hx;cases hx
  |some y=>
   obtain⟨b',cs'⟩:=y;rw[hj]at hx;simp at hx;obtain⟨rfl,rfl⟩:=hx;obtain⟨u,u1,u2⟩:=h3 j b' cs' hj;refine⟨u,u1,?_⟩;rcases u2 with⟨u2,u3⟩|⟨u2,x,rfl,u4⟩
   ·exact .inl ⟨u2,agg _ _ u3⟩
   exact .inr ⟨u2,_,rfl,hk _ _ u4⟩
theorem xl {ρ':Rho} {H':OH} {k:Nat->Nat->Bool} {s:AS} {a:Act} (h:bq X ρ s a w) (hk: ∀x v,x.rel ρ s.H (Xo X ρ s.H) w v->AV.rel ρ' H' (Xo X ρ' H') w' (a6 k x) v):bq X ρ' ⟨s.tmps.map (a7 k),H'⟩ a w':=by
 intro t x hx;simp only[az]at hx;cases hj:s.tmps[t]? with
 |none=>rw[hj]at hx;cases hx
 |some y=>
  rw[hj]at hx;simp at hx;subst hx;obtain⟨v,v1,v2⟩:=h t y hj;exact⟨v,v1,sS v2 hk⟩
theorem vM (hinv:Inv w0 O X H ρ w) {a b:Nat} {ob:OObj} (hb5:b<=4999) (hab:b≠a) (hb:H b=[ob]) (hp: ∀e∈ob.elems,∀x∈e,isPure x=true):
  Inv w0 O X (aJ (aJ H a (H a++[ob])) b []) (fun x y=>if x=a/\y=(H a).length then ρ b 0 else ρ x y) w/\
  (∀x v,AV.rel ρ H (Xo X ρ H) w x v->AV.rel (fun x y=>if x=a/\y=(H a).length then ρ b 0 else ρ x y) (aJ (aJ H a (H a++[ob])) b []) (Xo X (fun x y=>if x=a/\y=(H a).length then ρ b 0 else ρ x y) (aJ (aJ H a (H a++[ob])) b [])) w (a6 (fun x _=>x==b) x) v)/\
  (∀off len v,AV.rel ρ H (Xo X ρ H) w (.sl b 0 off len) v->AV.rel (fun x y=>if x=a/\y=(H a).length then ρ b 0 else ρ x y) (aJ (aJ H a (H a++[ob])) b []) (Xo X (fun x y=>if x=a/\y=(H a).length then ρ b 0 else ρ x y) (aJ (aJ H a (H a++[ob])) b [])) w (.sl a (H a).length off len) v):=by
 generalize hH:aJ (aJ H a (H a++[ob])) b []=H1;generalize hρ1:(fun x y=>if x=a/\y=(H a).length then ρ b 0 else ρ x y:Rho)=ρ1;have hHb:H1 b=[]:=by rw[<- hH];exact aX
 have hHa:H1 a=H a++[ob]:=by rw[<- hH,aN (Ne.symm hab),aX]
 have hHn: ∀x,x≠a->x≠b->H1 x=H x:=fun x h1 h2=>by rw[<- hH,aN h2,aN h1]
 have hρn: ∀x y,¬(x=a/\y=(H a).length)->ρ1 x y=ρ x y:=fun x y h=>by rw[<- hρ1];exact if_neg h
 have hρa:ρ1 a (H a).length=ρ b 0:=by rw[<- hρ1];exact if_pos ⟨rfl,rfl⟩
 have hb0:(H b)[0]?=some ob:=by rw[hb];rfl
 -- forward: a live row of H that is not of b is the same in H1
 have fwd: ∀(x y:Nat) o,(H x)[y]?=some o->x≠b->(H1 x)[y]?=some o/\ρ1 x y=ρ x y:=fun x y o ho hx=>by
  by_cases hxa:x=a
  ·subst hxa;have hlt:y<(H x).length:=(List.getElem?_eq_some_iff.1 ho).1;exact⟨by rw[hHa,aq hlt];exact ho,hρn _ _ (by omega)⟩
  rw[hHn x hxa hx];exact⟨ho,hρn _ _ (fun h=>hxa h.1)⟩
 -- back: a live row of H1 is one of H
 have back: ∀(x y:Nat) o,(H1 x)[y]?=some o-> ∃x' y',(H x')[y']?=some o/\ρ1 x y=ρ x' y'/\((x'=x/\y'=y/\x≠b)\/(x=a/\y=(H a).length/\x'=b/\y'=0/\o=ob)):=fun x y o ho=>by
  by_cases hxb:x=b
  ·subst hxb;rw[hHb]at ho;simp at ho
  by_cases hxa:x=a
  ·subst hxa;rw[hHa]at ho;rcases Nat.lt_trichotomy y (H x).length with hy|hy|hy
   ·rw[aq hy]at ho;exact⟨x,y,ho,hρn _ _ (by omega),.inl ⟨rfl,rfl,hxb⟩⟩
   ·subst hy;rw[ar (ae _),Nat.sub_self]at ho;simp at ho;subst ho;exact⟨b,0,hb0,hρa,.inr ⟨rfl,rfl,rfl,rfl,rfl⟩⟩
   rw[List.getElem?_eq_none (by simp;omega)]at ho;cases ho
  rw[hHn x hxa hxb]at ho;exact⟨x,y,ho,hρn _ _ (fun h=>hxa h.1),.inl ⟨rfl,rfl,hxb⟩⟩
 have hXo: ∀c,Xo X ρ1 H1 c->Xo X ρ H c:=fun c hc=>by
  rcases hc with hc|⟨x,y,o,n,h1,h2⟩
  ·exact .inl hc
  obtain⟨x',y',g1,g2,_⟩:=back x y o h1;exact .inr ⟨x',y',o,n,g1,by rw[<- g2];exact h2⟩
 have hXp: ∀x v,bX (Xo X ρ H) w x v->bX (Xo X ρ1 H1) w x v:=fun x v h=>bX.weaken (fun c _ hc=>hXo c hc) h
 have mono: ∀x v,AV.rel ρ H (Xo X ρ H) w x v->AV.rel ρ1 H1 (Xo X ρ1 H1) w (a6 (fun x _=>x==b) x) v:=fo (nt _) fun x v hn h=>by
  cases x with
  |fn=>cases hn
  |p x=>exact hXp x v h
  |sl x y off len=>
   simp only[a6];by_cases hxb:x=b
   ·subst hxb;simp;trivial
   simp only[beq_iff_eq,hxb,if_false];obtain⟨o,h1,h2,h3⟩:=h;obtain⟨f1,f2⟩:=fwd x y o h1 hxb;exact⟨o,f1,h2,by rw[f2];exact h3⟩
  |ptr x y i j=>
   simp only[a6];by_cases hxb:x=b
   ·subst hxb;simp;trivial
   simp only[beq_iff_eq,hxb,if_false];obtain⟨o,b',c,h1,h2,h3⟩:=h;obtain⟨f1,f2⟩:=fwd x y o h1 hxb;exact⟨o,b',c,f1,by rw[f2];exact h2,h3⟩
  |junk=>trivial
 have same: ∀z x v,bG z x->z≠b->AV.rel ρ H (Xo X ρ H) w x v->AV.rel ρ1 H1 (Xo X ρ1 H1) w x v:=fun z x v hs hz h=>by
  have:=mono x v h;cases x with
  |fn f x qs=>
   have hs:x=z:=hs.1;have hx:x≠b:=by omega
   simpa[a6,hx] using this
  |sl x y off len=>
   have hs:x=z:=hs;have hx:x≠b:=by omega
   simpa[a6,hx] using this
  |ptr x y i j=>
   have hs:x=z:=hs;have hx:x≠b:=by omega
   simpa[a6,hx] using this
  |p x=>exact this
  |junk=>trivial
 refine⟨⟨hinv.keep,fun x y o ho=>?_,fun x y x' y' o o' c n n' ho ho' hr hr'=>?_,fun x y o c n ho hr=>?_,hinv.bar,fun x y o ho=>?_⟩,mono,fun off len v h=>?_⟩
 ·obtain⟨x',y',g1,g2,g3⟩:=back x y o ho;have hobj:=hinv.objs x' y' o g1;obtain⟨q1,q2,q3⟩:=hobj;refine⟨q1,q2,?_⟩;rw[g2];cases hr:ρ x' y' with
  |none=>rw[hr]at q3;exact q3
  |some bc=>
   obtain⟨b',c⟩:=bc;rw[hr]at q3;obtain⟨cells,p1,p2,p3,p4,p5⟩:=q3;refine⟨cells,p1,p2,p3,p4,fun i e j z he hz=>?_⟩;obtain⟨u,u1,u2,u3⟩:=p5 i e j z he hz;refine⟨u,u1,u2,?_⟩;have hse:=hinv.self x' y' o g1 e (ax he) z (ax hz);rcases g3 with⟨rfl,rfl,hxb⟩|⟨rfl,rfl,rfl,rfl,rfl⟩
   ·exact same x' z u hse hxb u3
   have hpz:=hp e (ax he) z (ax hz);cases z<;>first|exact hXp _ _ u3|cases hpz
 ·obtain⟨x1,y1,g1,g2,g3⟩:=back x y o ho;obtain⟨x2,y2,k1,k2,k3⟩:=back x' y' o' ho';obtain⟨e1,e2⟩:=hinv.inj x1 y1 x2 y2 o o' c n n' g1 k1 (by rw[<- g2];exact hr) (by rw[<- k2];exact hr');rcases g3 with⟨g3,g4,g5⟩|⟨g3,g4,g5,g6,_⟩
  ·rcases k3 with⟨k3,k4,k5⟩|⟨k3,k4,k5,k6,_⟩
   ·omega
   omega
  rcases k3 with⟨k3,k4,k5⟩|⟨k3,k4,k5,k6,_⟩
  ·omega
  omega
 ·obtain⟨x1,y1,g1,g2,g3⟩:=back x y o ho;exact hinv.old x1 y1 o c n g1 (by rw[<- g2];exact hr)
 ·obtain⟨x',y',g1,g2,g3⟩:=back x y o ho;rcases g3 with⟨rfl,rfl,hxb⟩|⟨rfl,rfl,rfl,rfl,rfl⟩
  ·exact hinv.self x' y' o g1
  exact fun e he z hz=>cd (hp e he z hz)
 obtain⟨o,h1,h2,h3⟩:=h;rw[hb0]at h1;injection h1 with h1
 subst h1;exact⟨ob,by rw[hHa,ar (ae _),Nat.sub_self];rfl,h2,ma hb5 h3 hρa⟩
end
end
end Go.Proofs.YtalmoejhjceflaaGreat
