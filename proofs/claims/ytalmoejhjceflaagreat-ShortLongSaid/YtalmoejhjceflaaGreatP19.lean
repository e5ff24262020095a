/-
  Part 20 of a proof (walks and plain facts).
-/
import Derived.Test.YtalmoejhjceflaaGreatP18
set_option linter.all false
set_option maxRecDepth 100000
set_option maxHeartbeats 64000000
open Nat renaming reduceAdd → aa
open Nat renaming reduceEqDiff → ab
open List renaming replicate → af
open Nat renaming reduceBEq → ag
open Nat renaming reduceLeDiff → ai
open Int renaming reduceToNat → an
namespace Go.Proofs.YtalmoejhjceflaaGreat
open Go.RowKit
section
section
variable {P:Program} {w0 w w':World} {O X:Nat->Prop} {s s':AS} {a:Act} {ρ:Rho} {γ:Type} {fn:Func} {r:TV} {Post:World->(Nat->Prop)->Exit->Act->World->Prop}
theorem yg.weak {c:Code} (h:bW s s') (k:yg P c Post s'):yg P c Post s:=fun w0 X a w hX hr=>k w0 X a w hX (h _ _ _ _ _ hr)
theorem nX {x y:Code} (h:bu P x (Hj P fn r (jj P fn r) (yg P y (jj P fn r))) s):yg P (.seq x y) (jj P fn r) s:=Dq h
theorem HT (S:AS) {x y:Code} (h:bu P x (Hj P fn r (jj P fn r) (fun s'=>bW s' S)) s) (k:yg P y (jj P fn r) S):yg P (.seq x y) (jj P fn r) s:=Dq (h.mono fun e s' h=>by
 cases e with
 |normal=>exact yg.weak h k
 |_=>exact h)
theorem gz {ro:Option Nat} {ds:List Deferred} {Q:Exit->AS->Prop} {y:Code} {id:Nat} {ops:Array Oper} (h: ∀K:AS->Prop,(∀s',rR P ro ρ ds y Q s'->K s')->kO P ops.toList (some s) K):rR P ro ρ ds (.seq (.region id ops false) y) Q s:=HJ h
theorem pF {ro:Option Nat} {ds:List Deferred} {Q:Exit->AS->Prop} {id:Nat} {ops:Array Oper} (h: ∀K:AS->Prop,(∀s',Q .normal s'->K s')->kO P ops.toList (some s) K):rR P ro ρ ds (.region id ops false) Q s:=Hy h
theorem Bi {id0 id:Nat} {ops:Array Oper} {gs k:Tmp} {ps:Array Tmp} {asg bd tail:Code} {f:FuncId} {ap:Nat×Nat×Nat} {fa:Nat} {F F':List OObj} {tml:List TV} {H:γ->OH} {jump:γ->Option Code} {hH: ∀g,tT (H g)} {ht:tml.all oR=true} {g0 g1:γ} {rf:TV} (items:List (aH P)) (ow:List Nat)
  (hm: ∃o,ops[ops.size-1]?=some o/\o.guard=none/\o.op= .makeFunc (.func f) #[.tmp k] #[]/\o.dst=some gs/\gs≠k) (hpos:0<ops.size)
  (hcon: ∀(R:wH) (ρ:Rho) (hl: ∀x r c,ρ x r≠some (R.l,c)),R.ps=ps->R.asg=asg->R.bd=bd->mM P (A4 R ρ tml H jump hl hH ht) f [.one (.ptr 0 ap.1 ap.2.1 ap.2.2),.raw (.func (.yield R.l) #[] #[])] F F' g0 g1 rf)
  (hfa:fa<=4999) (hj0:jump g0=none) (haw:tml.all (Ib fa)=true)
  (h:ca P (items.map aH.a) ow (bC ops (ops.toList.take (ops.size-1)) 0) (some s) (fun s1=>s1.ev (.tmp k)=some (.one (.ptr fa ap.1 ap.2.1 ap.2.2))/\gs<s1.tmps.length/\s1.H fa=F.map (renO fa)/\H g0=aJ s1.H fa []/\tml.length=s1.tmps.length/\ ∀(t:Nat) x,tml[t]?=some x->x= .one .junk\/(s1.put (some gs) (.one .junk)).tmps[t]?=some x))
  (hQ: ∀(ρ:Rho) (ds:List Deferred),match jump g1 with
   |none=>rR P none ρ ds tail (fun e s'=>(e= .normal\/e= .ret)/\u7 P fn r s') ⟨tml,H g1⟩
   |some c=>c= .ret/\u7 P fn r ⟨tml,H g1⟩):yg P (.seq (.seq (.region id0 ops false) (.block id (.rangeFunc (.tmp gs) ps asg bd))) tail) (jj P fn r) s:=fun w0 X a w hX hr=>by
 obtain⟨s1,h1,k1,k2,k3,k4,k5,k6⟩:=bi P (items.map aH.a) ow ops _ 0 s _ h;obtain⟨o,ho,hg,hop,hdst,hne⟩:=hm;have hml:(ops.toList.take (ops.size-1)).length=ops.size-1:=by rw[List.length_take];simp
 refine wp_seq (wp_seq ((wpIn_wide (n:=0)).1 (wpIn_region (F:=FW none) ?_)));rw[show ops.size=(ops.toList.take (ops.size-1)).length+1 by omega,List.range_eq_range',<- List.range'_append_1,Nat.zero_add];refine nG (ops.toList.take (ops.size-1)) 0 s s1 a w (fun j o hj=>?_) h1 hr fun a' w' r'=>?_
 ·rw[List.getElem?_take]at hj;split at hj
  ·simpa using hj
  cases hj
 rw[hml,List.range'_succ,wpOpsIn_cons];unfold wpOpIn;rw[ho];simp only;rw[if_pos (by simp[Region.wanted,hg])];refine⟨fun _ _=>trivial,?_⟩;rw[show Oper.semAt (FW none).round a'.eval o=execOp a'.eval o from rfl];have hexec:(execOp a'.eval o).run P w'= .ok (.value (.func (.func f) #[a'.eval (.tmp k)] #[])) w':=by
  unfold execOp;rw[hop];simp only;refine df ?_;simp[Instr.makeFunc,Sem.run_pure]
 rw[hexec];show(Code.block id (.rangeFunc (.tmp gs) ps asg bd)).wp P (Exit.then (tail.wp P (jj P fn r w0 X)) (jj P fn r w0 X)) (a'.put o.dst (.func (.func f) #[a'.eval (.tmp k)] #[])) w';rw[hdst];obtain⟨n1,nsz,ρ,hinv,htm⟩:=r';have r2:cW w0 (fun _=>False) X (s1.put (some gs) (.one .junk)) (a'.put (some gs) (.func (.func f) #[a'.eval (.tmp k)] #[])) w':=dP n1 nsz hinv htm trivial;have hlt:gs<a'.tmps.size:=Nat.lt_of_lt_of_eq k2 nsz.symm;have hev:(a'.put (some gs) (.func (.func f) #[a'.eval (.tmp k)] #[])).eval (.tmp k)=a'.eval (.tmp k):=by
  show(a'.tmps.setIfInBounds gs _).getD k undef=a'.tmps.getD k undef;rw[Array.getD_eq_getD_getElem?,Array.getD_eq_getD_getElem?,Array.getElem?_setIfInBounds_ne hne]
 refine wp_block ?_;refine Lb (fs:= #[a'.eval (.tmp k)]) (targs:=[.one (.ptr 0 ap.1 ap.2.1 ap.2.2)]) r2 hX (by show(a'.tmps.setIfInBounds gs _)[gs]?=_;rw[Array.getElem?_setIfInBounds_self_of_lt hlt]) rfl (fun j t hj=>?_) hfa (by rw[eK];exact k3) (by rw[eK];exact k4) hj0 ⟨by simpa[AS.put] using k5,k6⟩ haw (fun R ρ hl e1 e2 e3=>hcon R ρ hl e1 e2 e3) (fun ρ' D w3 hfin=>?_)
 ·cases j with
  |succ j=>simp at hj
  |zero=>
   simp at hj;subst hj;refine⟨_,rfl,.tmp k,?_,hev⟩;show(s1.tmps.set gs _)[k]?=_;rw[List.getElem?_set_ne hne];exact k1
 have:=hQ ρ' [{target:= .collected D,args:= #[]}];cases hj:jump g1 with
 |none=>
  rw[hj]at this;exact Kx hX hfin this
 |some c=>
  rw[hj]at this;obtain⟨rfl,hret⟩:=this;exact wp_ret (wA hX hfin hfin.rel hret (.inr rfl))
end
end
structure rJ where
 left:Int
 steps:List Int
 stop:Bool
def rD (n m:Nat) (c:Int) (g:rJ):rJ×Bool:=if g.left<c\/c<0\/m<1\/n<m then(⟨g.left,g.steps,true⟩,false)else(⟨g.left-c,g.steps.set (m-1) (g.steps.getD (m-1) 0+c),false⟩,true)
def Qu (n:Nat) (g:rJ):Prop:=g.stop=false/\0<=g.left/\g.left<=1000000/\g.steps.length=n/\ ∀z∈g.steps,0<=z/\z+g.left<=1000000
theorem Qw {n m:Nat} {c:Int} {g:rJ} (h:Qu n g) (hy:(rD n m c g).2=true):Qu n (rD n m c g).1:=by
 unfold rD at hy⊢;split
 ·rename_i hc;rw[if_pos hc]at hy;cases hy
 rename_i hc;obtain⟨h1,h2,h3,h4,h5⟩:=h;have hz:0<=g.steps.getD (m-1) 0/\g.steps.getD (m-1) 0+g.left<=1000000:=by
  rw[List.getD_eq_getElem?_getD];cases e:g.steps[m-1]? with
  |none=>exact⟨Int.le_refl 0,by show(0:Int)+g.left<=_;omega⟩
  |some z=>exact h5 z (List.mem_of_getElem? e)
 refine⟨rfl,by show 0<=g.left-c;omega,by show g.left-c<=_;omega,by simp only[List.length_set];exact h4,fun z hz'=>?_⟩;rcases List.mem_or_eq_of_mem_set hz' with h|rfl
 ·have:=h5 z h;show 0<=z/\z+(g.left-c)<=_;omega
 show 0<=_/\_+(g.left-c)<=_;omega
def CF (n:Nat) (g:rJ):OH:=Hm [(7,[⟨29,1,[[.p (.raw (.int .i64 (if g.stop=true then 9 else 0)))]]⟩]),(9,[⟨2,1,[[.p (.raw (.int .i64 g.left))]]⟩]),(900,[⟨28,1,[[.sl 900 1 0 n]]⟩,⟨3,1,lc fI g.steps⟩,⟨28,1,[[.p (.raw (.slice none 0 0))]]⟩])]
theorem Kw (n:Nat) (g:rJ):tT (CF n g):=fun a o ho e he x hx=>by
 unfold CF Hm at ho;split at ho
 ·simp only[List.mem_singleton]at ho;subst ho;simp only[List.mem_singleton]at he;subst he;simp only[List.mem_singleton]at hx;subst hx;rfl
 unfold Hm at ho;split at ho
 ·simp only[List.mem_singleton]at ho;subst ho;simp only[List.mem_singleton]at he;subst he;simp only[List.mem_singleton]at hx;subst hx;rfl
 unfold Hm at ho;split at ho
 ·simp only[List.mem_cons,List.not_mem_nil,or_false]at ho;rcases ho with rfl|rfl|rfl
  ·simp only[List.mem_singleton]at he;subst he;simp only[List.mem_singleton]at hx;subst hx;rfl
  ·obtain⟨z,_,rfl⟩:=List.mem_map.1 he;simp only[fI,List.map_cons,List.map_nil,List.mem_singleton]at hx;subst hx;rfl
  simp only[List.mem_singleton]at he;subst he;simp only[List.mem_singleton]at hx;subst hx;rfl
 simp[Hm]at ho
def SN (g:rJ):Option Code:=if g.stop=true then some .ret else none
def Qv (g:rJ):TV:=if g.stop=true then .tup [(false,[.p (.raw (.slice none 0 0))]),(false,[.p (.raw (.int .i64 9))])]else .tup [(false,[.p (.sl (ls fI g.steps))]),(false,[.p (.raw (.int .i64 0))])]
abbrev Nr:List TV:=(j4 (jk::jk::.one (.ptr 900 2 0 0)::.one (.ptr 7 0 0 0)::.one (.ptr 900 0 0 0)::.one (.ptr 9 0 0 0)::j16 (j16 (j16 (jk::jk::[])))))
theorem Gw {n:Nat} {g g':rJ} (h:g'.steps.length=g.steps.length): ∀(x r:Nat) (o:OObj),(CF n g x)[r]?=some o-> ∃o':OObj,(CF n g' x)[r]?=some o'/\o'.es=o.es/\o'.elems.length=o.elems.length:=fun x r o ho=>by
 simp only[CF,Hm]at ho⊢;by_cases h7:x=7
 ·rw[if_pos h7]at ho⊢;cases r with
  |zero=>injection ho with ho;subst ho;exact⟨_,rfl,rfl,rfl⟩
  |succ r=>simp at ho
 rw[if_neg h7]at ho⊢;by_cases h9:x=9
 ·rw[if_pos h9]at ho⊢;cases r with
  |zero=>injection ho with ho;subst ho;exact⟨_,rfl,rfl,rfl⟩
  |succ r=>simp at ho
 rw[if_neg h9]at ho⊢;by_cases h900:x=900
 ·rw[if_pos h900]at ho⊢
  match r with
  |0=>injection ho with ho;subst ho;exact⟨_,rfl,rfl,rfl⟩
  |1=>injection ho with ho;subst ho;exact⟨_,rfl,rfl,by simp only[jK];exact h⟩
  |2=>injection ho with ho;subst ho;exact⟨_,rfl,rfl,rfl⟩
  |r+3=>simp at ho
 rw[if_neg h900]at ho;simp at ho
theorem D2 {γ:Type} {J:γ->Prop} {b:Int->γ->γ×Bool} (hb: ∀c g,J g->J (b c g).1): ∀(m:Nat) (x:Int) (g:γ),J g->J (lpM b m x g).1
 |0,_,_,hg=>hg
 |m+1,x,g,hg=>by
  have k:=hb x g hg;unfold lpM;generalize b x g=r at*
  obtain⟨g',t⟩:=r;cases t with
  |true=>exact D2 hb m _ _ k
  |false=>exact k
theorem EB {γ:Type} {J:γ->Prop} {yd:Nat->Int->γ->γ×Bool} (hy: ∀m c g,J g->J (yd m c g).1) (f:FF) (n:Nat) (B:Int): ∀(k:Nat) (y:List Int) (g:γ),J g->J (ir yd f n B k y g).1
 |0,y,g,hg=>hy _ _ g hg
 |k+1,y,g,hg=>by
  have q:=hy (n-(k+1)) (d6 f n B (k+1) (bj n y)-dB f n B (k+1) (bj n y)+1) g hg;unfold ir;generalize yd (n-(k+1)) (d6 f n B (k+1) (bj n y)-dB f n B (k+1) (bj n y)+1) g=r at*
  obtain⟨g',t⟩:=r;cases t with
  |true=>exact D2 (fun c g hg=>EB hy f n B k (c::y) g hg) _ _ _ q
  |false=>exact q
theorem QB {γ:Type} {J:γ->Prop} {yd:Nat->Int->γ->γ×Bool} (hy: ∀m c g,J g->J (yd m c g).1) (f:FF) (n:Nat) (B:Int) (g:γ) (hg:J g):J (EA yd f n B g):=by
 unfold EA;split
 ·exact hy _ _ g hg
 exact EB hy f n B _ _ g hg
theorem Eu {n m:Nat} {c:Int} {g:rJ} (h:g.steps.length=n):(rD n m c g).1.steps.length=n:=by
 unfold rD;split
 ·exact h
 simp only[List.length_set];exact h
theorem Hp {s:AS} {a n:Nat} {B:Int} {ds:List Int} {M:List (List Int)} (hH:s.H a=OD a B n (n+1) n (af n 0) ds M):bW s ⟨s.tmps,aJ s.H a (nM a B n n [] ds M)⟩:=by
 have h:=kq (s:=s) a 1 (o:=⟨2,1,lc fI (af n 0)⟩) (o':=⟨2,1,jnk n++lc fI []⟩) (by rw[hH];rfl) rfl rfl (by simp only[eG,jK,List.length_replicate,List.length_nil];omega) fun i e' he=>by
  have he':e'=[.junk]:=by
   have:=List.mem_of_getElem? he;simp only[jnk,lc,List.map_nil,List.append_nil]at this;exact(List.mem_replicate.1 this).2
  subst he';have hi:i<n:=by
   have:=(List.getElem?_eq_some_iff.1 he).1;simp only[eG,List.length_nil]at this;omega
  refine⟨[.p (.raw (.int .i64 0))],?_,rfl,fun j x hj=>?_⟩
  ·show(lc fI (af n 0))[i]?=_;simp[lc,fI,hi]
  cases j with
  |zero=>simp at hj;exact .inl hj.symm
  |succ j=>simp at hj
 rw[hH]at h;exact h
theorem Oq (n:Nat):af n [AV.p (.raw (.int .i64 0))]=lc fI (af n 0):=by simp[lc,fI]
theorem LE {n:Nat} {f:FF} {B k:Int} (hw:OP n f) (hR:isReducedM (mat n n f)=true) (hT:Sr n f B) (h0:0<=B) (h1:B<=4611686018427387904) (hc:n=1\/B<1073741824) (hk0:0<=k) (hk1:k<=1000000):
  CallC Tryz.prog 87 [ch (mat n n f),.raw (.int .i64 B),.raw (.int .i64 k)] ⟨[],Qv (EA (rD n) f n B ⟨k,af n 0,false⟩)⟩:=by
 have hn1:=hw.n1;have hn16:=hw.n16;have hml:=bV n n f;have hI:=ff (mat n n f);rw[hR]at hI;have hN:=FP hw B;refine yN Tryz.func87 rfl (by kernel_rfl) ?_;rw[Tryz.ntmps87];refine nX ?_;refine aO fun _ K=>?_;simp(disch:=omega) only[kd,ch,aa,af,ab];apply K
 show yg _ _ _ _;refine HT ⟨(ch (mat n n f)::.raw (.int .i64 B)::.raw (.int .i64 k)::jk::jk::jk::.one (.ptr 6 0 0 0)::.one (.ptr 7 0 0 0)::j16 (j16 (j16 (j4 ([]))))),Hm [(6,[⟨28,1,[[.p (.raw (.slice none 0 0))]]⟩]),(7,[⟨29,1,[[.p (.raw (.int .i64 0))]]⟩])]⟩ (aP ?_) ?_
 ·refine aI [⟨1,_,_,_,hI⟩] [] fun _ K=>?_;simp only[kd,ch,aa];apply K
  refine aU rfl ?_;refine aG ?_;refine aE fun _ K=>?_;simp(disch:=omega) only[kd,aa];apply K
  refine aU rfl ?_;refine aE fun _ K=>?_;simp(disch:=omega) only[kd,aa];apply K
  refine aU rfl ?_;refine aE fun _ K=>?_;simp(disch:=omega) only[kd,aa];apply K
  refine aU rfl ?_;refine aO fun _ K=>?_;simp(disch:=omega) only[kd,aa];apply K
  show bu _ _ _ _;refine aU rfl ?_;by_cases hn:n=1
  ·subst hn;refine aE fun _ K=>?_;simp(disch:=omega) only[kd,aa,hml];apply K
   refine aU rfl (aR ?_);refine aF ⟨rfl,rfl,trivial⟩ ?_;simp[wk]
  have hB:=hc.resolve_left hn;refine aE fun _ K=>?_;simp(disch:=omega) only[kd,aa,hml];apply K
  refine aU rfl (aR ?_);refine aF ⟨rfl,rfl,trivial⟩ ?_;simp[wk]
 refine nX ?_;refine EM 4 [] [] (by simp[j16,j4]) (by decide) fun _ K=>?_;simp(disch:=omega) only[kd,aa,ch,hml,ab];apply K
 refine⟨_,iG 8 36 900 rfl rfl rfl (by simp[cU,isPure]) (fun e he x hx=>by rw[Oq]at he;exact bz 3 1 _ e he x hx) (by omega) (by omega) (by omega),by simp[wk],?_⟩;simp only[List.map_cons,List.map_nil,zq,kB];intro _ K;simp(disch:=omega) only[kd,ab];apply K;show yg _ _ _ _;refine yg.weak ((Hk 6 900 rfl (by simp[cU,isPure]) (by omega) (fun h=>by omega)).trans (aF (tm:=(ch (mat n n f)::.raw (.int .i64 B)::.raw (.int .i64 k)::jk::jk::jk::.one (.ptr 900 2 0 0)::.one (.ptr 7 0 0 0)::.one (.ptr 900 0 0 0)::j16 (j16 (j16 (jk::jk::jk::[]))))) (l:=[(7,[⟨29,1,[[.p (.raw (.int .i64 0))]]⟩]),(900,[⟨28,1,[[.sl 900 1 0 n]]⟩,⟨3,1,lc fI (af n 0)⟩,⟨28,1,[[.p (.raw (.slice none 0 0))]]⟩])]) ⟨rfl,?_,trivial⟩ ?_)) ?_
 ·rw[<- Oq];rfl
 ·simp[wk,zW,f9,ld,aJ,Hm]
 refine nX ?_;refine aO fun _ K=>?_;simp(disch:=omega) only[kd,aa,ch,ab];apply K
 show yg _ _ _ _;refine nX ?_;refine li [⟨2,_,_,_,hN⟩] [] fun _ K=>?_;simp(disch:=omega) only[kd,ch,aa,ab];apply K
 show yg _ _ _ _;refine yg.weak ((Hp (a:=40) rfl).trans (aF (tm:=(j4 (jk::jk::.one (.ptr 900 2 0 0)::.one (.ptr 7 0 0 0)::.one (.ptr 900 0 0 0)::.one (.ptr 9 0 0 0)::.one (.ptr 40 0 0 0)::j16 (j16 (j16 (jk::[])))))) (l:=[(7,[⟨29,1,[[.p (.raw (.int .i64 0))]]⟩]),(9,[⟨2,1,[[.p (.raw (.int .i64 k))]]⟩]),(40,nM 40 B n n [] (be (n+1) (dk f)) (dT n f n)),(900,[⟨28,1,[[.sl 900 1 0 n]]⟩,⟨3,1,lc fI (af n 0)⟩,⟨28,1,[[.p (.raw (.slice none 0 0))]]⟩])]) ⟨rfl,rfl,rfl,rfl,trivial⟩ ?_)) ?_
 ·simp[wk]
 have hg0:Qu n ⟨k,af n 0,false⟩:=⟨rfl,hk0,hk1,by simp,fun z hz=>by
  obtain⟨_,rfl⟩:=List.mem_replicate.1 hz;refine⟨Int.le_refl 0,?_⟩;show 0+k<=_;omega⟩
 have hlen:(rJ.steps (EA (rD n) f n B ⟨k,af n 0,false⟩)).length=n:=QB (J:=fun g:rJ=>g.steps.length=n) (fun m c g h=>Eu h) f n B _ (by simp);refine Bi (tml:=Nr) (H:=CF n) (jump:=SN) (hH:=Kw n) (ht:=rfl) (g0:=⟨k,af n 0,false⟩) (g1:=EA (rD n) f n B ⟨k,af n 0,false⟩) (ap:=(0,0,0)) (fa:=40) (F:=nM 0 B n n [] (be (n+1) (dk f)) (dT n f n)) (F':=nM 0 B n n [] (be (n+1) (dk f)) (dT n f n)) (rf:= .tup []) (f:=131) (k:=41) [] [] ?_ ?_ ?_ (by omega) rfl rfl ?_ ?_
 ·exact⟨_,rfl,rfl,rfl,rfl,by decide⟩
 ·decide
 ·intro R ρ hl e1 e2 e3;refine Nv hT (fun m c g hg h1 h2 h3 h4=>?_) (fun m c g h=>Qw h) _ hg0;obtain⟨q1,q2,q3,q4,q5⟩:=hg;refine C8 e1 rfl rfl (by simp[SN,q1]) (Gw ((Eu q4).trans q4.symm)) ?_;rw[e2,e3];clear e1 e2 e3 hl hN hI hT hlen hg0 hw hR;obtain⟨left,steps,stop⟩:=g;simp only at q1 q2 q3 q4 q5;subst q1;obtain⟨z,hz⟩: ∃z,steps[m-1]?=some z:=⟨_,List.getElem?_eq_getElem (by omega)⟩;have hzb:=q5 z (List.mem_of_getElem? hz);have e4:IntKind.i64.wrap ((m:Int)-1)=((m-1:Nat):Int):=by rw[aM (by omega) (by omega)];omega
  by_cases hcl:left<c
  ·have e:rD n m c ⟨left,steps,false⟩=(⟨left,steps,true⟩,false):=if_pos (.inl hcl);rw[e];refine gz fun _ K=>?_;simp(disch:=omega) only[kd,kO,Option.isNone_none,nZ,mR,Nr,CF,uC];apply K
   refine pF fun _ K=>?_;simp(disch:=omega) only[kd,kO,Option.isNone_none,nZ,mR,uC];apply K
   refine⟨rfl,vh ?_⟩;refine wN (gz fun _ K=>?_);simp(disch:=omega) only[kd,kO,Option.isNone_none,nZ,mR,uC,ab];apply K;refine yA rfl (fun _=>?_) (fun h=>by cases h);refine gz fun _ K=>?_;simp(disch:=omega) only[kd,kO,Option.isNone_none,nZ,mR,uC,ab];apply K
   refine Dp ?_;refine⟨?_,.inr ⟨rfl,rfl,rfl⟩⟩;funext x;by_cases h7:x=7
   ·subst h7;rfl
   by_cases h900:x=900
   ·subst h900;rfl
   simp[CF,Hm,aJ,h7,h900]
  have e:rD n m c ⟨left,steps,false⟩=(⟨left-c,steps.set (m-1) (steps.getD (m-1) 0+c),false⟩,true):=if_neg (by simp only;omega);have eg:steps.getD (m-1) 0=z:=by rw[List.getD_eq_getElem?_getD,hz];rfl
  rw[e,eg];refine gz fun _ K=>?_;simp(disch:=omega) only[kd,kO,Option.isNone_none,nZ,mR,Nr,CF,uC];apply K
  refine pF fun _ K=>?_;simp(disch:=omega) only[kd,kO,Option.isNone_none,nZ,mR,uC];apply K
  refine⟨rfl,vh ?_⟩;refine wN (gz fun _ K=>?_);simp(disch:=omega) only[kd,kO,Option.isNone_none,nZ,mR,uC,ab];apply K;refine yA rfl (fun h=>by cases h) (fun _=>Hz ?_);show rR _ _ _ _ _ _ _;refine gz fun _ K=>?_;simp(disch:=omega) only[kd,kO,Option.isNone_none,nZ,mR,uC,ab,aM];apply K
  refine pF fun _ K=>?_;simp(disch:=omega) only[kd,kO,Option.isNone_none,nZ,mR,uC,ab,e4,hz,aM];apply K
  refine⟨?_,.inl ⟨rfl,rfl,rfl⟩⟩;funext x;by_cases h9:x=9
  ·subst h9;rfl
  by_cases h900:x=900
  ·subst h900;simp[CF,Hm,aJ,lc,fI,List.map_set]
  simp[CF,Hm,aJ,h9,h900]
 ·simp(disch:=omega) only[kd,List.size_toArray,aa,Nat.reduceSub,CF,Nr,ab];refine⟨by decide,by rw[fX];simp[lc],?_,?_⟩
  ·funext x;simp only[CF,aJ,Hm];by_cases h7:x=7
   ·subst h7;rfl
   by_cases h9:x=9
   ·subst h9;rfl
   by_cases h40:x=40
   ·subst h40;rfl
   simp[h7,h9,h40]
  have hq: ∀l:List TV,OC [7,9,900] l Nr-> ∀(t:Nat) x,Nr[t]?=some x->x=jk\/l[t]?=some x:=fun l h t x hx=>((ye h).2 t x hx).imp_right fun h=>h.1
  exact hq _ (by simp[Nr,OC,JF,xz,j16,j4])
 intro ρ ds;generalize EA (rD n) f n B ⟨k,af n 0,false⟩=g at*
 obtain⟨left,steps,stop⟩:=g;cases stop with
 |true=>
  refine⟨rfl,_,bW.refl _,?_,rfl⟩;simp(disch:=omega) only[kd,Tryz.results87,Nr,CF,ab,Qv]
 |false=>
  show rR _ _ _ _ _ _ _;simp only at hlen;refine gz fun _ K=>?_;simp(disch:=omega) only[kd,kO,Option.isNone_none,nZ,mR,Nr,CF,uC,ab];apply K
  refine Dp ⟨.inr rfl,_,rK 900 1 (o0:=⟨3,1,lc fI steps⟩) rfl (bz _ _ _),?_,rfl⟩;simp only[List.map_cons,List.map_nil,DO,fG,oB];simp(disch:=omega) only[kd,Tryz.results87,ab,reduceCtorEq,oB,fG,Qv];rw[List.take_of_length_le (by omega)]
abbrev Lk (e:Int):TV:= .tup [(false,[.p (.raw (.slice none 0 0))]),(false,[.p (.raw (.int .i64 e))])]
theorem LB (M:List (List Int)) (B k:Int) (h:isReducedM M=false):CallC Tryz.prog 87 [ch M,.raw (.int .i64 B),.raw (.int .i64 k)] ⟨[],Lk 6⟩:=by
 have hI:=ff M;rw[h]at hI;refine aK Tryz.func87 rfl (by kernel_rfl) ?_;rw[Tryz.ntmps87];refine aE fun _ K=>?_;simp(disch:=omega) only[kd,ch,aa,af,ab];apply K
 refine aG (aP ?_);refine aI [⟨1,_,_,_,hI⟩] [] fun _ K=>?_;simp only[kd,ch,aa];apply K
 refine bo rfl ?_;refine aE fun _ K=>?_;simp(disch:=omega) only[kd,ab];apply K
 (refine aL ⟨.inr rfl,aQ rfl ?_ rfl⟩;simp(disch:=omega) only[kd,Tryz.results87,ab])
theorem LC (M:List (List Int)) (B k:Int) (h:isReducedM M=true) (hb:B<0\/4611686018427387904<B\/k<0\/1000000<k):CallC Tryz.prog 87 [ch M,.raw (.int .i64 B),.raw (.int .i64 k)] ⟨[],Lk 1⟩:=by
 have hI:=ff M;rw[h]at hI;refine aK Tryz.func87 rfl (by kernel_rfl) ?_;rw[Tryz.ntmps87];refine aE fun _ K=>?_;simp(disch:=omega) only[kd,ch,aa,af,ab];apply K
 refine aG (aP ?_);refine aI [⟨1,_,_,_,hI⟩] [] fun _ K=>?_;simp only[kd,ch,aa];apply K
 refine aU rfl ?_;refine aG ?_;by_cases h1:B<0
 ·refine aE fun _ K=>?_;simp(disch:=omega) only[kd,aa];apply K
  refine bo rfl (aR ?_);show bu _ _ _ _;refine bo rfl ?_;refine aE fun _ K=>?_;simp(disch:=omega) only[kd,ab];apply K
  (refine aL ⟨.inr rfl,aQ rfl ?_ rfl⟩;simp(disch:=omega) only[kd,Tryz.results87,ab])
 refine aE fun _ K=>?_;simp(disch:=omega) only[kd,aa];apply K
 refine aU rfl ?_;by_cases h2:4611686018427387904<B
 ·refine aE fun _ K=>?_;simp(disch:=omega) only[kd,aa];apply K
  refine bo rfl (aR ?_);show bu _ _ _ _;refine bo rfl ?_;refine aE fun _ K=>?_;simp(disch:=omega) only[kd,ab];apply K
  (refine aL ⟨.inr rfl,aQ rfl ?_ rfl⟩;simp(disch:=omega) only[kd,Tryz.results87,ab])
 refine aE fun _ K=>?_;simp(disch:=omega) only[kd,aa];apply K
 refine aU rfl ?_;by_cases h3:k<0
 ·refine aE fun _ K=>?_;simp(disch:=omega) only[kd,aa];apply K
  refine bo rfl (aR ?_);show bu _ _ _ _;refine bo rfl ?_;refine aE fun _ K=>?_;simp(disch:=omega) only[kd,ab];apply K
  (refine aL ⟨.inr rfl,aQ rfl ?_ rfl⟩;simp(disch:=omega) only[kd,Tryz.results87,ab])
 refine aE fun _ K=>?_;simp(disch:=omega) only[kd,aa];apply K
 refine aU rfl ?_;refine aO fun _ K=>?_;simp(disch:=omega) only[kd,aa];apply K
 show bu _ _ _ _;refine bo rfl ?_;refine aE fun _ K=>?_;simp(disch:=omega) only[kd,ab];apply K
 (refine aL ⟨.inr rfl,aQ rfl ?_ rfl⟩;simp(disch:=omega) only[kd,Tryz.results87,ab])
theorem LD (M:List (List Int)) (B k:Int) (h:isReducedM M=true) (h0:0<=B) (h1:B<=4611686018427387904) (hk0:0<=k) (hk1:k<=1000000) (hl:1<M.length) (hl2:M.length<=1000) (hB:1073741824<=B):CallC Tryz.prog 87 [ch M,.raw (.int .i64 B),.raw (.int .i64 k)] ⟨[],Lk 9⟩:=by
 have hI:=ff M;rw[h]at hI;refine aK Tryz.func87 rfl (by kernel_rfl) ?_;rw[Tryz.ntmps87];refine aE fun _ K=>?_;simp(disch:=omega) only[kd,ch,aa,af,ab];apply K
 refine aG (aP ?_);refine aI [⟨1,_,_,_,hI⟩] [] fun _ K=>?_;simp only[kd,ch,aa];apply K
 refine aU rfl ?_;refine aG ?_;refine aE fun _ K=>?_;simp(disch:=omega) only[kd,aa];apply K
 refine aU rfl ?_;refine aE fun _ K=>?_;simp(disch:=omega) only[kd,aa];apply K
 refine aU rfl ?_;refine aE fun _ K=>?_;simp(disch:=omega) only[kd,aa];apply K
 refine aU rfl ?_;refine aO fun _ K=>?_;simp(disch:=omega) only[kd,aa];apply K
 show bu _ _ _ _;refine aU rfl ?_;refine aE fun _ K=>?_;simp(disch:=omega) only[kd,aa];apply K
 refine bo rfl ?_;refine aE fun _ K=>?_;simp(disch:=omega) only[kd,ab];apply K
 (refine aL ⟨.inr rfl,aQ rfl ?_ rfl⟩;simp(disch:=omega) only[kd,Tryz.results87,ab])
abbrev RO (b:Nat):PV:= .raw (.pointer (some ⟨b,0,none⟩))
abbrev Om:List PV:=[.raw (.bool true)]
theorem QD (b:Nat) {n c:Nat} {f:FF} {i j:Nat} (hi:i<n) (hj:j<c) (hn:n<=16) (hc:c<=16) (hf:I64 (f i j)):
  jh Tryz.prog b 4 241 [.raw (.int .i64 (i:Int)),.raw (.int .i64 (j:Int)),.one (.p (.ptr (jH (mat n c f)))),.one (.p (RO b))] Om ⟨[],.raw (.int .i64 (f i j))⟩ Om:=by
 have r0:=b6 c f hi;have c0:=aZ (f i) hj;have hI:=zm (f i j) hf.bg;rw[RB hf]at hI;refine og Tryz.func241 rfl (by kernel_rfl) ?_;rw[Tryz.ntmps241];refine yC 3 900 rfl rfl ?_;refine fK.weak (aF (tm:=(.raw (.int .i64 (i:Int))::rN j::.one (.p (.ptr (jH (mat n c f))))::.one (.ptr 900 0 0 0)::j16 (j4 (jk::[])))) (l:=[(900,[⟨4,1,[[.p (.raw (.bool true))]]⟩])]) ⟨rfl,trivial⟩ (by simp[wk,Br,r6,af])) ?_;refine aV (by kernel_rfl) fun _ K=>?_;simp only[kd];apply K
 refine yv [⟨7,_,_,_,hI⟩] [] (by kernel_rfl) fun _ K=>?_;simp(disch:=omega) only[kd,tZ,aa,r0,fR,c0,fZ];apply K
 refine aV (by kernel_rfl) fun _ K=>?_;simp(disch:=omega) only[kd,aa];apply K
 refine aV (by kernel_rfl) fun _ K=>?_;simp only[kd];apply K
 refine nT ⟨Om,rfl,rfl,.inr rfl,rfl,aQ rfl ?_ rfl⟩;simp(disch:=omega) only[kd,Tryz.results241,uR,lS]
theorem Ig (b:Nat) (n c:Nat) (f:FF) (hn1:1<=n) (hn:n<=16) (hc1:1<=c) (hc:c<=16) (hf: ∀i j,i<n->j<c->I64 (f i j)):
  jh Tryz.prog b 4 240 [.raw (.int .i64 (n:Int)),.raw (.int .i64 (c:Int)),.fn 241 [.p (.ptr (jH (mat n c f))),.p (RO b)]] Om ⟨[],ch (mat n c f)⟩ Om:=by
 refine og Tryz.func240 rfl (by kernel_rfl) ?_;rw[Tryz.ntmps240];refine bP fun _ K=>?_;simp only[kd,aa,af];apply K
 refine bP fun _ K=>?_;simp(disch:=omega) only[kd,aa];apply K
 refine iy (bP fun _ K=>?_);simp only[kd,aa];apply K;refine nY (G:=qp n) (fun g=>⟨(jk::rN c::.fn 241 [.p (.ptr (jH (mat n c f))),.p (RO b)]::j4 (.one (.sl 11 0 0 n)::j4 (jk::rN n::rN g.i::j16 (j4 (j4 (j4 ([]))))))),Hm [(11,kI 11 n c g.i (part f g.i 0))]⟩) (fun _=>Om) (fun g=>n-g.i) ⟨0,by omega⟩ ?_ rfl ?_
 ·refine aF ⟨?_,trivial⟩ ?_
  ·show[_]=_;simp[mH,mat]
  simp[wk]
 rintro⟨i,hi⟩;simp only;by_cases hm:i<n
 ·have k1:=PL (i:=i) (n:=n) 11 c hm;have k2:=IX (i:=i) (n:=n) 11 c hi;have k3:=bV i c (part f i 0);have k4:=Mm (i:=i) (n:=n) (c:=c) 11 (part f i 0) hm (fun j hj=>by unfold part;rw[if_neg (by omega)]);have k5:=PK (i:=i+1) (k:=i) (n:=n) 11 c (by omega);have k6:=IX (i:=i+1) (n:=n) 11 c (by omega);have k7:=s7 (n:=i+1) c (part f i 0) (i:=i) (by omega);refine bP fun _ K=>?_;simp(disch:=omega) only[kd];apply K
  refine wP rfl ?_;refine iy (jU ?_);refine bP fun _ K=>?_;simp only[kd];apply K
  refine bP fun _ K=>?_;simp(disch:=omega) only[kd,aa,ab,k1,ai,List.length_replicate,List.all_replicate,k3,ag];apply K
  refine gP.weak (aF (tm:=(jk::rN c::.fn 241 [.p (.ptr (jH (mat n c f))),.p (RO b)]::j4 (.one (.sl 11 0 0 n)::rN i::j4 (.raw (.int .i64 (n:Int))::rN i::j16 (j4 (j4 (j4 ([])))))))) (l:=[(11,kI 11 n c (i+1) (part f i 0))]) ⟨?_,trivial⟩ (by simp[wk])) ?_
  ·first|exact k4|rfl
  refine bP fun _ K=>?_;simp(disch:=omega) only[kd,aa,k5];apply K
  refine nY (G:=qp c) (fun g=>⟨(jk::rN c::.fn 241 [.p (.ptr (jH (mat n c f))),.p (RO b)]::j4 (.one (.sl 11 0 0 n)::rN i::j4 (.raw (.int .i64 (n:Int))::rN i::j4 (j4 (jk::jk::jk::rN c::rN g.i::j4 (j4 (j4 (jk::jk::jk::[])))))))),Hm [(11,kI 11 n c (i+1) (part f i g.i))]⟩) (fun _=>Om) (fun g=>c-g.i) ⟨0,by omega⟩ ?_ rfl ?_
  ·refine aF ⟨rfl,trivial⟩ ?_;simp[wk]
  rintro⟨j,hj⟩;simp only;by_cases hm3:j<c
  ·have hS:=QD b hm hm3 hn hc (hf i j hm hm3);have q7:=s7 (n:=i+1) c (part f i j) (i:=i) (by omega);have q8:=aZ (part f i j i) hm3;refine bP fun _ K=>?_;simp(disch:=omega) only[kd];apply K
   refine wP rfl ?_;refine iy (jU ?_);refine bP fun _ K=>?_;simp only[kd];apply K
   refine rS bU 8 hS [] [] (by kernel_rfl) (by kernel_rfl) (by rfl) (by rfl) fun _ K=>?_;simp(disch:=omega) only[kd,aa,k5,q7,q8,Jy];apply K
   show gP _ _ _ _ _ _ _;refine mf fun _ K=>?_;simp(disch:=omega) only[kd,aM];apply K
   refine⟨⟨j+1,by omega⟩,by simp only;omega,aF ⟨?_,trivial⟩ ?_,rfl⟩
   ·show _::_=_::_;rw[sZ fun a b _ _=>mD f i j a b]
   simp[wk]
  have hjc:j=c:=by omega
  subst hjc;refine bP fun _ K=>?_;simp(disch:=omega) only[kd];apply K
  refine wO rfl ?_;show gP _ _ _ _ _ _ _;refine mf fun _ K=>?_;simp(disch:=omega) only[kd,aM];apply K
  refine⟨⟨i+1,by omega⟩,by simp only;omega,aF ⟨?_,trivial⟩ ?_,rfl⟩
  ·show _::_=_::_;rw[sZ fun a b _ hb=>oV f i a b hb]
  simp[wk]
 have hin:i=n:=by omega
 subst hin;refine bP fun _ K=>?_;simp(disch:=omega) only[kd];apply K
 refine wO rfl ?_;show gP _ _ _ _ _ _ _;refine bP fun _ K=>?_;simp only[kd];apply K
 refine gP.weak ((dF 11 (IH (n:=i) (c:=c) (f:=part f i 0) (IW 11 i c (part f i 0)))).trans (aF (tm:=(j4 (jk::jk::ch (mat i c f)::j16 (j16 (j4 ([])))))) (l:=[]) trivial ?_)) ?_
 ·have e:=SA (H:=Hm [(11,kI 11 i c i (part f i 0))]) (d:=11) (n:=i) (c:=c) (f:=part f i 0) (IW 11 i c (part f i 0));rw[gK fun a b ha _=>oU f a b ha]at e;simp[wk];exact e.symm
 (refine Dr ⟨.inr rfl,rfl,aQ rfl ?_ rfl⟩;simp(disch:=omega) only[kd,Tryz.results240,ch])
theorem vV (n c:Nat) (f:FF) (hn1:1<=n) (hn:n<=16) (hc1:1<=c) (hc:c<=16) (hf: ∀i j,i<n->j<c->I64 (f i j)):
  CallC Tryz.prog 203 [jS (mat n c f)] ⟨[],.tup [(false,[.p (.sl (ls (fR fI) (mat n c f)))]),(false,[.p (.raw (.bool true))])]⟩:=by
 have hS:=Aq (mat n c f);rw[pj (D4 f hn1 hn hc1 hc),bV,sY f hn1]at hS;refine aK Tryz.func203 rfl (by kernel_rfl) ?_;rw[Tryz.ntmps203];refine aE fun _ K=>?_;simp(disch:=omega) only[kd,aa,jS,af];apply K
 refine aI [⟨1,_,_,_,hS⟩] [] fun _ K=>?_;simp(disch:=omega) only[kd,jS,aa,ab];apply K
 refine aG (aE fun _ K=>?_);simp(disch:=omega) only[kd,ab];apply K;refine aU rfl (aR ?_);show bu _ _ _ _;refine bu.weak ((nS 1 1 (cs:=jH (mat n c f)) rfl rfl).trans (aF (tm:=(jk::.one (.p (.ptr (jH (mat n c f))))::jk::jk::rN n::rN c::.one (.ptr 6 0 0 0)::j16 ([]))) (l:=[(6,[⟨4,1,[[.p (.raw (.bool true))]]⟩])]) ⟨rfl,trivial⟩ (by simp[wk,eZ,dI]))) ?_;refine aG (rO 6 (cs:=Om) rfl fun b=>?_);refine gP.weak (aF (tm:=(jk::.one (.p (.ptr (jH (mat n c f))))::jk::jk::rN n::rN c::NB b::j16 ([]))) (l:=[]) trivial (by simp[wk,uR,lS])) ?_;have hB:=Ig b n c f hn1 hn hc1 hc hf;refine vi 3 hB [] [] (by kernel_rfl) (by rfl) (by rfl) fun _ K=>?_;simp only[kd,jH,ch,aa,NB,gY];apply K
 refine⟨rfl,?_⟩;show bu _ _ _ _;refine bu.weak (aF (tm:=(j4 (jk::jk::.one (.ptr 6 0 0 0)::ch (mat n c f)::j4 (j4 (j4 (jk::jk::jk::[])))))) (l:=[(6,[⟨4,1,[[.p (.raw (.bool true))]]⟩])]) ⟨rfl,trivial⟩ (by simp[wk,Br,r6])) ?_;refine aG (aE fun _ K=>?_);simp only[kd,ch];apply K;refine aU rfl (aR ?_);show bu _ _ _ _;refine aE fun _ K=>?_;simp only[kd,aa];apply K
 (refine aL ⟨.inr rfl,aQ rfl ?_ rfl⟩;simp(disch:=omega) only[kd,Tryz.results203])
theorem zi {H:OH} {a:Nat} {o1 o2 o3:OObj} (h:H a=[o1,o2,o3]) (h1: ∀e∈o1.elems,∀x∈e,isPure x=true\/(∃off len,x= .sl a 1 off len)\/ ∃off len,x= .sl a 2 off len) (h2:cU o2) (h3:cU o3):rc H a:=fun r o ho e he x hx=>by
 rw[h]at ho
 match r with
 |0=>
  injection ho with ho
  subst ho;rcases h1 e he x hx with k|⟨off,len,k⟩|⟨off,len,k⟩
  ·exact .inl k
  ·exact .inr ⟨1,off,len,o2,k,by rw[h];rfl,h2⟩
  exact .inr ⟨2,off,len,o3,k,by rw[h];rfl,h3⟩
 |1=>
  injection ho with ho
  subst ho;exact .inl (h2 e he x hx)
 |2=>
  injection ho with ho
  subst ho;exact .inl (h3 e he x hx)
 |r+3=>simp at ho
def Rk (n:Nat) (f:FF):Prop:= ∀k i j,k<n->k<=i->i<n->k<=j->j<n->I64 (bk f k i j)
theorem zt (n:Nat) (f:FF) (k:Nat):List.drop 1 (List.take (n-k) (be (n-k) (elF f k 0)))=k9 n f k:=by
 rw[List.take_of_length_le (by rw[aW];omega)];show _=be _ _;apply List.ext_getElem?;intro b;rw[List.getElem?_drop];by_cases hb:b<n-k-1
 ·rw[aZ _ (by omega),aZ _ hb,Nat.add_comm 1 b];rfl
 rw[List.getElem?_eq_none (by rw[aW];omega),List.getElem?_eq_none (by rw[aW];omega)]
abbrev R8 (n:Nat) (f:FF):TV:= .agg [.p (.sl (ls fI (be (n+1) (dk f)))),.p (.sl (ls (fR fI) (dT n f n)))]
theorem Ma {n:Nat} {f:FF} (hw:OP n f) (hb:Rk n f):CallC Tryz.prog 138 [ch (mat n n f)] ⟨[],R8 n f⟩:=by
 have hn1:=hw.n1;have hn:=hw.n16;have hF:=lY n n f hn1 hn hn1 hn hw.i;have hS:=rI n f hn1 hn fun i j hi hj=>(hw.i i j hi hj).sz (by omega)
 rw[pu hw.nz]at hS;have hln:=mJ n f n;have hst: ∀k,k<n->(po n f n)[k]?=some (DJ n f k):=fun k hk=>by simp[po,hk]
 have hr0:[[AV.p (.raw (.int .i64 1))]]=lc fI (be 1 (dk f)):=by
  show _=lc fI [dk f 0];rw[cj];rfl
 refine aK Tryz.func138 rfl (by kernel_rfl) ?_;rw[Tryz.ntmps138];refine aE fun _ K=>?_;simp(disch:=omega) only[kd,ch,af,aa];apply K
 refine aI [⟨1,_,_,_,hF⟩] [] fun _ K=>?_;simp only[kd,ch,Rz,aa];apply K
 refine aI [⟨1,_,_,_,hS⟩] [] fun _ K=>?_;simp only[kd,jS,aa];apply K
 refine iI 3 [] [22] (by simp) (by decide) fun _ K=>?_;simp(disch:=omega) only[kd,aa,Nat.reduceMul,ai,ab];apply K
 refine⟨_,(iG 7 22 900 rfl rfl rfl (by simp[cU,isPure]) (by simp[cU,isPure]) (by omega) (by omega) (by omega)),by simp[wk],?_⟩;simp only[List.map_cons,List.map_nil,zq,kB];intro _ K;simp(disch:=omega) only[kd,ab,aa];apply K;refine bu.weak (iH 900 0 0 1 35 1 (by omega) rfl rfl rfl) ?_;refine aG (aE fun _ K=>?_);simp(disch:=omega) only[kd,aa,ab,hln];apply K;refine bH (G:=qp n) (fun q=>⟨(jk::jk::.one (.ptr 2 0 0 0)::j4 (.one (.ptr 900 0 0 0)::j16 (.one (.p (.sl (ls fM (po n f n))))::rN n::rN q.i::j16 (j4 (j4 (j4 (jk::[]))))))),Hm [(2,[⟨180,2,[[.p (.raw (.slice none 0 0)),.p (.raw (.slice none 0 0))]]⟩]),(900,[⟨180,2,[[.sl 900 1 0 (q.i+1),.sl 900 2 0 q.i]]⟩,⟨2,1,lc fI (be (q.i+1) (dk f))⟩,⟨35,1,lc (fR fI) (dT n f q.i)⟩])]⟩) (fun q=>n-q.i) ⟨0,by omega⟩ ?_ ?_
 ·refine aF ⟨rfl,?_,trivial⟩ ?_
  ·rw[<- hr0];rfl
  simp[wk]
 rintro⟨i,hi⟩;simp only;by_cases hm:i<n
 ·have hs:=hst i hm;have hI:=vV (n-i) (n-i) (elF f i) (by omega) (by omega) (by omega) (by omega) (fun a b ha hb'=>hb i (i+a) (i+b) hm (by omega) (by omega) (by omega) (by omega));have q1:=b6 (n-i) (elF f i) (show 0<n-i by omega);have q2:=aZ (elF f i 0) (show 0<n-i by omega);have q3:=bV (n-i) (n-i) (elF f i);have q4:=aW (n-i) (elF f i 0);have hrl:=aW (i+1) (dk f);have hll:=ii n f i;have hx1:=zt n f i;have h1k:1<=n-i:=by omega
  refine aE fun _ K=>?_;simp(disch:=omega) only[kd];apply K
  refine cX rfl ?_;refine aG (aP ?_);refine aE fun _ K=>?_;simp(disch:=omega) only[kd,aa,hs,fM];apply K
  refine aI [⟨1,_,_,_,hI⟩] [] fun _ K=>?_;simp only[kd,jS,aa];apply K
  refine dH bU (by kernel_rfl) fun _ K=>?_;simp(disch:=omega) only[kd,aa,ab,an,q1,fR,q2,iX,Nat.reduceMul,ai,hrl,ag,oI];apply K
  refine kv bU (by kernel_rfl) fun _ K=>?_;simp(disch:=omega) only[kd,aa,ab,an,q1,fR,q4,h1k,sW BW,hx1,Nat.reduceMul,ai,hll,ag,mq];apply K
  show bu _ _ _ _;refine aO fun _ K=>?_;simp(disch:=omega) only[kd,aM];apply K
  refine⟨⟨i+1,by omega⟩,by simp only;omega,aF ⟨rfl,?_,trivial⟩ ?_⟩
  ·rw[kf (i+1),<- pR n f i];rfl
  simp[wk]
 have hin:i=n:=by omega
 subst hin;have hrl:=aW (i+1) (dk f);have hll:=ii i f i;refine aE fun _ K=>?_;simp(disch:=omega) only[kd];apply K
 refine di rfl ?_;show bu _ _ _ _;refine iI 1 [] [] (by simp) (by decide) fun _ K=>?_;simp only[kd,ab,aa];apply K
 refine⟨_,dF 900 (zi rfl (fun e he x hx=>?_) (bz _ _ _) (bz _ _ _)),by simp[wk],?_⟩
 ·simp only[List.mem_singleton]at he;subst he;simp only[List.mem_cons,List.not_mem_nil,or_false]at hx;rcases hx with rfl|rfl
  ·exact .inr (.inl ⟨_,_,rfl⟩)
  exact .inr (.inr ⟨_,_,rfl⟩)
 simp only[List.map_cons,List.map_nil,eZ,dI];intro _ K;simp(disch:=omega) only[kd,ab,aa];apply K
 (refine aL ⟨.inr rfl,aQ rfl ?_ rfl⟩;simp(disch:=omega) only[kd,Tryz.results138,ab,aa])
 rw[List.take_of_length_le (show(be (i+1) (dk f)).length<=i+1 by omega),List.take_of_length_le (show(dT i f i).length<=i by omega)]
theorem Ns {n:Nat} {f:FF} (hw:OP n f) (hb:Rk n f):CallC Tryz.prog 145 [ch (mat n n f)] ⟨[],R8 n f⟩:=by
 have hn1:=hw.n1;have hn:=hw.n16;have hF:=lY n n f hn1 hn hn1 hn hw.i;have hS:=rI n f hn1 hn fun i j hi hj=>(hw.i i j hi hj).sz (by omega)
 rw[pu hw.nz]at hS;have hln:=mJ n f n;have hst: ∀k,k<n->(po n f n)[k]?=some (DJ n f k):=fun k hk=>by simp[po,hk]
 have hr0:[[AV.p (.raw (.int .i64 1))]]=lc fI (be 1 (dk f)):=by
  show _=lc fI [dk f 0];rw[cj];rfl
 refine aK Tryz.func145 rfl (by kernel_rfl) ?_;rw[Tryz.ntmps145];refine aE fun _ K=>?_;simp(disch:=omega) only[kd,ch,af,aa];apply K
 refine aI [⟨1,_,_,_,hF⟩] [] fun _ K=>?_;simp only[kd,ch,Rz,aa];apply K
 refine aI [⟨1,_,_,_,hS⟩] [] fun _ K=>?_;simp only[kd,jS,aa];apply K
 refine iI 3 [] [22] (by simp) (by decide) fun _ K=>?_;simp(disch:=omega) only[kd,aa,Nat.reduceMul,ai,ab];apply K
 refine⟨_,(iG 7 22 900 rfl rfl rfl (by simp[cU,isPure]) (by simp[cU,isPure]) (by omega) (by omega) (by omega)),by simp[wk],?_⟩;simp only[List.map_cons,List.map_nil,zq,kB];intro _ K;simp(disch:=omega) only[kd,ab,aa];apply K;refine bu.weak (iH 900 0 0 1 35 1 (by omega) rfl rfl rfl) ?_;refine aG (aE fun _ K=>?_);simp(disch:=omega) only[kd,aa,ab,hln];apply K;refine bH (G:=qp n) (fun q=>⟨(jk::jk::.one (.ptr 2 0 0 0)::j4 (.one (.ptr 900 0 0 0)::j16 (.one (.p (.sl (ls fM (po n f n))))::rN n::rN q.i::j16 (j4 (j4 (j4 (jk::[]))))))),Hm [(2,[⟨188,2,[[.p (.raw (.slice none 0 0)),.p (.raw (.slice none 0 0))]]⟩]),(900,[⟨188,2,[[.sl 900 1 0 (q.i+1),.sl 900 2 0 q.i]]⟩,⟨2,1,lc fI (be (q.i+1) (dk f))⟩,⟨35,1,lc (fR fI) (dT n f q.i)⟩])]⟩) (fun q=>n-q.i) ⟨0,by omega⟩ ?_ ?_
 ·refine aF ⟨rfl,?_,trivial⟩ ?_
  ·rw[<- hr0];rfl
  simp[wk]
 rintro⟨i,hi⟩;simp only;by_cases hm:i<n
 ·have hs:=hst i hm;have hI:=vV (n-i) (n-i) (elF f i) (by omega) (by omega) (by omega) (by omega) (fun a b ha hb'=>hb i (i+a) (i+b) hm (by omega) (by omega) (by omega) (by omega));have q1:=b6 (n-i) (elF f i) (show 0<n-i by omega);have q2:=aZ (elF f i 0) (show 0<n-i by omega);have q3:=bV (n-i) (n-i) (elF f i);have q4:=aW (n-i) (elF f i 0);have hrl:=aW (i+1) (dk f);have hll:=ii n f i;have hx1:=zt n f i;have h1k:1<=n-i:=by omega
  refine aE fun _ K=>?_;simp(disch:=omega) only[kd];apply K
  refine cX rfl ?_;refine aG (aP ?_);refine aE fun _ K=>?_;simp(disch:=omega) only[kd,aa,hs,fM];apply K
  refine aI [⟨1,_,_,_,hI⟩] [] fun _ K=>?_;simp only[kd,jS,aa];apply K
  refine dH bU (by kernel_rfl) fun _ K=>?_;simp(disch:=omega) only[kd,aa,ab,an,q1,fR,q2,iX,Nat.reduceMul,ai,hrl,ag,oI];apply K
  refine kv bU (by kernel_rfl) fun _ K=>?_;simp(disch:=omega) only[kd,aa,ab,an,q1,fR,q4,h1k,sW BW,hx1,Nat.reduceMul,ai,hll,ag,mq];apply K
  show bu _ _ _ _;refine aO fun _ K=>?_;simp(disch:=omega) only[kd,aM];apply K
  refine⟨⟨i+1,by omega⟩,by simp only;omega,aF ⟨rfl,?_,trivial⟩ ?_⟩
  ·rw[kf (i+1),<- pR n f i];rfl
  simp[wk]
 have hin:i=n:=by omega
 subst hin;have hrl:=aW (i+1) (dk f);have hll:=ii i f i;refine aE fun _ K=>?_;simp(disch:=omega) only[kd];apply K
 refine di rfl ?_;show bu _ _ _ _;refine iI 1 [] [] (by simp) (by decide) fun _ K=>?_;simp only[kd,ab,aa];apply K
 refine⟨_,dF 900 (zi rfl (fun e he x hx=>?_) (bz _ _ _) (bz _ _ _)),by simp[wk],?_⟩
 ·simp only[List.mem_singleton]at he;subst he;simp only[List.mem_cons,List.not_mem_nil,or_false]at hx;rcases hx with rfl|rfl
  ·exact .inr (.inl ⟨_,_,rfl⟩)
  exact .inr (.inr ⟨_,_,rfl⟩)
 simp only[List.map_cons,List.map_nil,eZ,dI];intro _ K;simp(disch:=omega) only[kd,ab,aa];apply K
 (refine aL ⟨.inr rfl,aQ rfl ?_ rfl⟩;simp(disch:=omega) only[kd,Tryz.results145,ab,aa])
 rw[List.take_of_length_le (show(be (i+1) (dk f)).length<=i+1 by omega),List.take_of_length_le (show(dT i f i).length<=i by omega)]
def fV (p:Int×Int):List PV:=[.raw (.int .i64 p.1),.raw (.int .i64 p.2)]
abbrev Q3 (l:List (Int×Int)):TV:= .one (.p (.sl (ls fV l)))
theorem Mj (f:FF) (B:Int) (hd0:0<f 0 0) (hd1:f 0 0<=4611686018427387904) (h0:0<=B) (h1:B<=4611686018427387904):CallC Tryz.prog 94 [ch (mat 1 1 f),.raw (.int .i64 B)] ⟨[],Q3 [(-isqF (B/f 0 0),isqF (B/f 0 0))]⟩:=by
 have hq0:0<=B/f 0 0:=Int.ediv_nonneg h0 (by omega);have hq1:B/f 0 0<=B:=Int.ediv_le_self _ h0;have hrt:=lL hq0 (by omega);have cR:=Ev (B/f 0 0) hq0 (by omega);have eq:Int.tdiv B (f 0 0)=B/f 0 0:=Int.tdiv_eq_ediv_of_nonneg h0;have hdne:(f 0 0=0)=False:=eq_false (by omega);have hml:=bV 1 1 f;have hr:=b6 (n:=1) 1 f (i:=0) (by omega);have hc:=aZ (m:=1) (f 0) (j:=0) (by omega);have hrl:=aW 1 (f 0);show CallC _ _ _ ⟨[],.one (.p (.sl [[.raw (.int .i64 (-isqF (B/f 0 0))),.raw (.int .i64 (isqF (B/f 0 0)))]]))⟩;rw[show -isqF (B/f 0 0)=0-isqF (B/f 0 0) by omega];generalize B/f 0 0=q at*
 generalize isqF q=r at*
 generalize f 0 0=d at*
 refine aK Tryz.func94 rfl (by kernel_rfl) ?_;rw[Tryz.ntmps94];refine aE fun _ K=>?_;simp only[kd,ch,aa,af];apply K
 refine aE fun _ K=>?_;simp only[kd,aa,hml];apply K
 refine aG (aE fun _ K=>?_);simp(disch:=omega) only[kd];apply K;refine bo rfl ?_;refine aI [⟨7,_,_,_,cR⟩] [] fun _ K=>?_;simp(disch:=omega) only[kd,aa,an,hr,fR,hc,eq,aM];apply K
 refine aE fun _ K=>?_;simp(disch:=omega) only[kd,aa,aM,ai,Nat.reduceMul];apply K
 (refine aL ⟨.inr rfl,aQ rfl ?_ rfl⟩;simp(disch:=omega) only[kd,Tryz.results94])
theorem Ln (M:List (List Int)) (B k e:Int) (he:e≠0) (cS:CallC Tryz.prog 87 [ch M,.raw (.int .i64 B),.raw (.int .i64 k)] ⟨[],Lk e⟩):CallC Tryz.prog 44 [ch M,.raw (.int .i64 B),.raw (.int .i64 k)] ⟨[],Lk e⟩:=by
 have hne:(e=0)=False:=eq_false he;refine aK Tryz.func44 rfl (by kernel_rfl) ?_;rw[Tryz.ntmps44];refine aE fun _ K=>?_;simp only[kd,ch,aa,af];apply K
 refine aG (aI [⟨3,_,_,_,cS⟩] [] fun _ K=>?_);simp only[kd,ch,aa];apply K;refine aE fun _ K=>?_;simp only[kd,hne];apply K
 refine bo rfl ?_;refine aE fun _ K=>?_;simp only[kd,aa];apply K
 (refine aL ⟨.inr rfl,aQ rfl ?_ rfl⟩;simp(disch:=omega) only[kd,Tryz.results44])
theorem Lo (M:List (List Int)) (B k:Int) (L:List Int) (l:List (Int×Int)) (cS:CallC Tryz.prog 87 [ch M,.raw (.int .i64 B),.raw (.int .i64 k)] ⟨[],.tup [(false,[.p (.sl (ls fI L))]),(false,[.p (.raw (.int .i64 0))])]⟩) (cI:CallC Tryz.prog 94 [ch M,.raw (.int .i64 B)] ⟨[],Q3 l⟩):
  CallC Tryz.prog 44 [ch M,.raw (.int .i64 B),.raw (.int .i64 k)] ⟨[],.tup [(false,[.p (.sl (ls fV l))]),(false,[.p (.raw (.int .i64 0))])]⟩:=by
 refine aK Tryz.func44 rfl (by kernel_rfl) ?_;rw[Tryz.ntmps44];refine aE fun _ K=>?_;simp only[kd,ch,aa,af];apply K
 refine aG (aI [⟨3,_,_,_,cS⟩] [] fun _ K=>?_);simp only[kd,ch,aa];apply K;refine aE fun _ K=>?_;simp(disch:=omega) only[kd];apply K
 refine aU rfl (aR ?_);show bu _ _ _ _;refine aI [⟨2,_,_,_,cI⟩] [] fun _ K=>?_;simp only[kd,ch,aa];apply K
 (refine aL ⟨.inr rfl,aQ rfl ?_ rfl⟩;simp(disch:=omega) only[kd,Tryz.results44])
section
variable {n:Nat} {f:FF}
theorem nE (hr:RedR f n) (h8:n<=8) (hb: ∀i j,i<n->j<n-> -262144<=f i j/\f i j<=262144):Rk n f:=fun k i j hk hki hi hkj hj=>by
 have:=jm h8 hr.1 (fun i hi j hj=>hb i j hi hj) hk (fun t ht=>⟨hr.2.1 t (by omega),j1 (by omega) h8 hr t (by omega),(hr.2.2.2 t (by omega)).1⟩) hki hi hkj hj;constructor<;>omega
theorem Cr (hr:RedR f n) (h1:1<=n) (h8:n<=8) (hb: ∀i j,i<n->j<n-> -262144<=f i j/\f i j<=262144):OP n f:=by
 have hst:=nE hr h8 hb;have hd: ∀k,k<=n->0<dk f k/\dk f k<65536:=fun k hk=>by
  cases k with
  |zero=>rw[cj];omega
  |succ k=>exact⟨hr.2.1 k (by omega),j1 (by omega) h8 hr k (by omega)⟩
 refine⟨h1,by omega,fun t ht=>?_,fun i j hi hj=>?_,fun k hk=>?_,fun k j hk hj=>?_⟩
 ·have:=hr.2.1 t (by omega);omega
 ·have:=hb i j hi hj;constructor<;>omega
 ·have:=hd k hk;constructor<;>omega
 by_cases hjk:j<k
 ·rw[wV hr.pd (by omega) hk hjk];constructor<;>omega
 exact hst k k j hk (Nat.le_refl k) hk (by omega) hj
theorem Qc (hr:RedR f n) (h8:n<=8) {B:Int} (h0:0<=B) (h1:B<=1073741824):mN n f B:=⟨hr,h8,h0,h1⟩
theorem Qb (hr:RedR f n) (h1:1<=n) (h8:n<=8) {B:Int} (h0:0<=B) (h2:B<=4611686018427387904) (hc:n=1\/B<1073741824):Sr n f B:=by
 by_cases hn:n=1
 ·subst hn;have h3:dk f 1<65536:=j1 (by omega) h8 hr 0 (by omega);exact .inl ⟨rfl,hr.2.1 0 (by omega),by omega,h0,h2⟩
 have:=hc.resolve_left hn;exact .inr ⟨by omega,hr,h8,h0,by omega⟩
end
theorem Ab {M:List (List Int)} (hM:isReducedM M=true):M=mat M.length M.length (ent M)/\1<=M.length/\M.length<=8/\RedR (ent M) M.length/\ ∀i j,i<M.length->j<M.length-> -262144<=ent M i j/\ent M i j<=262144:=by
 obtain⟨h1,h8,hsq,hr⟩:=(lK M).1 hM;obtain⟨_,_,_,hs⟩:=gI hM;have e:M=mat M.length M.length (ent M):=D5 fun r hr=>by
  obtain⟨i,hi⟩:=List.mem_iff_getElem?.1 hr;exact hsq.at_ hi
 refine⟨e,h1,h8,hr,fun i j hi hj=>?_⟩;have:=hs i hi j hj;unfold jF at this;omega
noncomputable def Q4 (M:List (List Int)) (B k:Int):TV:=
 if isReducedM M=true then
  if B<0\/4611686018427387904<B\/k<0\/1000000<k then Lk 1
  else if 1<M.length/\1073741824<=B then Lk 9
  else Qv (EA (rD M.length) (ent M) M.length B ⟨k,af M.length 0,false⟩)
 else Lk 6
theorem zR (M:List (List Int)) (B k:Int):CallC Tryz.prog 87 [ch M,.raw (.int .i64 B),.raw (.int .i64 k)] ⟨[],Q4 M B k⟩:=by
 unfold Q4;by_cases h1:isReducedM M=true
 ·rw[if_pos h1];by_cases h2:B<0\/4611686018427387904<B\/k<0\/1000000<k
  ·rw[if_pos h2];exact LC M B k h1 h2
  rw[if_neg h2];obtain⟨e,g1,g8,hr,hb⟩:=Ab h1;by_cases h3:1<M.length/\1073741824<=B
  ·rw[if_pos h3];exact LD M B k h1 (by omega) (by omega) (by omega) (by omega) h3.1 (by omega) h3.2
  rw[if_neg h3];have hc:M.length=1\/B<1073741824:=by omega
  have h:=LE (B:=B) (k:=k) (Cr hr g1 g8 hb) (by rw[<- e];exact h1) (Qb hr g1 g8 (by omega) (by omega) hc) (by omega) (by omega) hc (by omega) (by omega);rw[<- e]at h;exact h
 rw[if_neg h1];exact LB M B k (by simpa using h1)
theorem Ni {n:Nat} {f:FF} {B:Int} (hv:mN n f B) (k:Nat) (y:List Int) (xs:List (List PV)) (hk:y.length+(k+1)=n) (hT:mZ y) (hxl:xs.length=n) (hx: ∀i,i<y.length->xs[k+1+i]?=some [.raw (.int .i64 (y.getD i 0))]):
  CallC Tryz.prog 147 [.one (.p (.ptr [.sl (ls fI (be (n+1) (dk f))),.sl (ls (fR fI) (dT n f n))])),.raw (.int .i64 (k:Int)),.one (.p (.sl xs))] ⟨[],.raw (.int .i64 (qU f n k (bj n y)))⟩:=by
 have hn8:=hv.n8;have hM:=sT n f (show k<n by omega);have hMl:=ii n f n;have hRl:(k9 n f k).length=y.length:=(aW _ _).trans (by omega);have hR: ∀i,i<y.length->(k9 n f k)[i]?=some (bk f k k (k+(i+1))):=fun i hi=>aZ _ (by omega)
 have hsh:=fun m (hm:m<=y.length)=>hv.shP_c hk hT hm
 have hshA:=mG f hk;have hsp0:qV f k y 0=0:=rfl;have hsps: ∀i,qV f k y i+bk f k k (k+(i+1))*y.getD i 0=qV f k y (i+1):=fun _=>rfl
 have e1:IntKind.i64.wrap ((k:Int)+1)=((k+1:Nat):Int):=aM (by omega) (by omega);rw[<- hshA];clear hv hT hshA;generalize be (n+1) (dk f)=D at*
 generalize dT n f n=M at*
 generalize k9 n f k=r at*
 generalize qV f k y=sp at*
 refine aK Tryz.func147 rfl (by kernel_rfl) ?_;rw[Tryz.ntmps147];refine aE fun _ K=>?_;simp only[kd,aa,af];apply K
 refine aE fun _ K=>?_;simp only[kd];apply K
 refine aG (aE fun _ K=>?_);simp(disch:=omega) only[kd,aa,hM,fR,hRl];apply K;refine bH (G:=qp y.length) (fun q=>⟨(jk::rN k::.one (.p (.sl xs))::j4 (.raw (.int .i64 (sp q.i))::j4 (j4 (iu r::rN y.length::rN q.i::j16 (jk::[]))))),Hm []⟩) (fun q=>y.length-q.i) ⟨0,by omega⟩ ?_ ?_
 ·refine aF trivial ?_;simp[wk,hsp0]
 rintro⟨i,hi0⟩;simp only;by_cases hm:i<y.length
 ·have hRi:=hR i hm;have s0:=hsh i (by omega);have s1:=hsh (i+1) (by omega);have s2:=hsps i;have e3:IntKind.i64.wrap (((k+1:Nat):Int)+(i:Int))=((k+1+i:Nat):Int):=by rw[aM (by omega) (by omega)];omega
  have hxi:=hx i hm;generalize bk f k k (k+(i+1))=q at*
  generalize y.getD i 0=yi at*
  refine aE fun _ K=>?_;simp(disch:=omega) only[kd,iu];apply K
  refine cX rfl ?_;refine aG (aP ?_);refine aE fun _ K=>?_;simp(disch:=omega) only[kd,aa,hRi];apply K
  refine aO fun _ K=>?_;simp(disch:=omega) only[kd,aa,e1,e3,hxi,aM,s2];apply K
  show bu _ _ _ _;refine aO fun _ K=>?_;simp(disch:=omega) only[kd,aM];apply K
  refine⟨⟨i+1,by omega⟩,by simp only;omega,aF trivial ?_⟩;simp[wk]
 have hin:i=y.length:=by omega
 subst hin;refine aE fun _ K=>?_;simp(disch:=omega) only[kd,iu];apply K
 refine di rfl ?_;show bu _ _ _ _;refine aE fun _ K=>?_;simp only[kd];apply K
 (refine aL ⟨.inr rfl,aQ rfl ?_ rfl⟩;simp(disch:=omega) only[kd,Tryz.results147])
theorem MT (L:List Int) (z:Int) (hl:1<=L.length) (hl2:L.length<=1000) (hz:L[L.length-1]?=some z) (h1: -1000000000<=z) (h2:z<=1000000000):CallC Tryz.prog 88 [iu L] ⟨[],.raw (.int .i64 (Int.tdiv (z-1) 2))⟩:=by
 have e:IntKind.i64.wrap ((L.length:Int)-1)=((L.length-1:Nat):Int):=by rw[aM (by omega) (by omega)];omega
 have hd:(Int.tdiv (z-1) 2).natAbs<=(z-1).natAbs:=by
  rw[Int.natAbs_tdiv];exact Nat.div_le_self _ _
 have hq:IntKind.i64.wrap (Int.tdiv (z-1) 2)=Int.tdiv (z-1) 2:=aM (by omega) (by omega);have hlt:L.length-1<L.length:=by omega
 refine aK Tryz.func88 rfl (by kernel_rfl) ?_;rw[Tryz.ntmps88];refine aE fun _ K=>?_;simp only[kd,iu,af];apply K
 refine aE fun _ K=>?_;simp(disch:=omega) only[kd,aa,e,hz,aM,hq];apply K
 (refine aL ⟨.inr rfl,aQ rfl ?_ rfl⟩;simp(disch:=omega) only[kd,Tryz.results88])
def FS (f:FF) (x:List Int) (i j:Nat):Int:=cg (fun b=>f i b*x.getD i 0*x.getD b 0) j
def Ha (f:FF) (x:List Int) (n i:Nat):Int:=cg (fun a=>FS f x a n) i
theorem Eb {f:FF} {x:List Int} {n E T i b:Nat} (hE: ∀i j,i<n->j<n->(f i j).natAbs<=E) (hT: ∀i,(x.getD i 0).natAbs<=T) (hb:E*T*T<=72057594037927936) (hi:i<n) (hj:b<n):(f i b*x.getD i 0).natAbs<=72057594037927936/\(f i b*x.getD i 0*x.getD b 0).natAbs<=72057594037927936:=by
 have h1:(f i b*x.getD i 0).natAbs<=E*T:=by rw[Int.natAbs_mul];exact Nat.mul_le_mul (hE i b hi hj) (hT i)
 have h2:(f i b*x.getD i 0*x.getD b 0).natAbs<=E*T*T:=by rw[Int.natAbs_mul];exact Nat.mul_le_mul h1 (hT b)
 refine⟨?_,Nat.le_trans h2 hb⟩;rcases Nat.eq_zero_or_pos T with h|h
 ·rw[h,Nat.mul_zero]at h1;omega
 exact Nat.le_trans h1 (Nat.le_trans (Nat.le_mul_of_pos_right _ h) hb)
theorem MG (n:Nat) (f:FF) (x:List Int) (E T:Nat) (hn:n<=8) (hx:x.length=n) (hE: ∀i j,i<n->j<n->(f i j).natAbs<=E) (hT: ∀i,(x.getD i 0).natAbs<=T) (hb:E*T*T<=72057594037927936):
  CallC Tryz.prog 40 [ch (mat n n f),iu x] ⟨[],.raw (.int .i64 (Ha f x n n))⟩:=by
 have hml:=bV n n f;have hI: ∀i,i<n-> ∀j,j<=n->(FS f x i j).natAbs<=576460752303423488:=fun i hi j hj=>by
  have:=rC (F:=fun b=>f i b*x.getD i 0*x.getD b 0) (B:=72057594037927936) j fun b hb'=>(Eb hE hT hb hi (by omega)).2
  unfold FS;omega
 have hP: ∀i,i<=n->(Ha f x n i).natAbs<=4611686018427387904:=fun i hi=>by
  have:=rC (F:=fun a=>FS f x a n) (B:=576460752303423488) i fun a ha=>hI a (by omega) n (Nat.le_refl n)
  unfold Ha;omega
 have hxi: ∀i,i<n->x[i]?=some (x.getD i 0):=fun i hi=>by rw[List.getD_eq_getElem?_getD,List.getElem?_eq_getElem (by omega)];rfl
 have hIs: ∀i j,FS f x i j+f i j*x.getD i 0*x.getD j 0=FS f x i (j+1):=fun _ _=>rfl
 have hPs: ∀i,Ha f x n i+FS f x i n=Ha f x n (i+1):=fun _=>rfl
 have hI0: ∀i,FS f x i 0=0:=fun _=>rfl
 have hP0:Ha f x n 0=0:=rfl;have hrow: ∀i,i<n->(mat n n f)[i]?=some (be n (f i)):=fun i hi=>b6 n f hi
 have ht:=fun i b (hi:i<n) (hj:b<n)=>Eb (x:=x) hE hT hb hi hj
 clear hE hT hb;refine aK Tryz.func40 rfl (by kernel_rfl) ?_;rw[Tryz.ntmps40];refine aE fun _ K=>?_;simp only[kd,ch,iu,aa,af];apply K
 refine aE fun _ K=>?_;simp only[kd];apply K
 refine aG (aE fun _ K=>?_);simp only[kd,aa,hml];apply K;refine bH (G:=qp n) (fun g=>⟨(jk::iu x::jk::jk::jk::.raw (.int .i64 (Ha f x n g.i))::j4 (ch (mat n n f)::rN n::rN g.i::j16 (j4 (j4 (jk::jk::jk::[]))))),Hm []⟩) (fun g=>n-g.i) ⟨0,by omega⟩ ?_ ?_
 ·refine aF trivial ?_;simp[wk,hP0]
 rintro⟨i,hi⟩;simp only;by_cases hm:i<n
 ·have hr:=hrow i hm;have hrl:=aW n (f i);refine aE fun _ K=>?_;simp(disch:=omega) only[kd,iu,ch];apply K
  refine cX rfl ?_;refine aG (aP ?_);refine aE fun _ K=>?_;simp(disch:=omega) only[kd,aa,hr,fR];apply K
  refine aE fun _ K=>?_;simp only[kd,aa,hrl];apply K
  refine bH (G:=qp n) (fun g=>⟨(jk::iu x::jk::jk::jk::.raw (.int .i64 (Ha f x n i+FS f x i g.i))::rN i::jk::jk::jk::ch (mat n n f)::rN n::rN i::j4 (iu (be n (f i))::rN n::rN g.i::j16 (j4 ([])))),Hm []⟩) (fun g=>n-g.i) ⟨0,by omega⟩ ?_ ?_
  ·refine aF trivial ?_;simp[wk,hI0]
  rintro⟨j,hj⟩;simp only;by_cases hm2:j<n
  ·have hc:=aZ (f i) hm2;have x1:=hxi i hm;have x2:=hxi j hm2;have t1:=ht i j hm hm2;have s1:=hIs i j;have b1:=hI i hm (j+1) (by omega);have b2:=hP i (by omega);have s2:Ha f x n i+FS f x i j+f i j*x.getD i 0*x.getD j 0=Ha f x n i+FS f x i (j+1):=by rw[<- s1];omega
   generalize x.getD i 0=xi at*
   generalize x.getD j 0=xj at*
   generalize f i j=a at*
   generalize hs':FS f x i (j+1)=s' at*
   generalize FS f x i j=s at*
   generalize Ha f x n i=p at*
   generalize hu:a*xi=u at*
   generalize hw:u*xj=w at*
   refine aE fun _ K=>?_;simp(disch:=omega) only[kd,iu,ch];apply K
   refine cX rfl ?_;refine aG (aP ?_);refine aE fun _ K=>?_;simp(disch:=omega) only[kd,aa,hc];apply K
   refine kv bU (by kernel_rfl) fun _ K=>?_;simp(disch:=omega) only[kd,aa,x1,hu,aM,x2,hw,s2];apply K
   show bu _ _ _ _;refine aO fun _ K=>?_;simp(disch:=omega) only[kd,aM];apply K
   refine⟨⟨j+1,by omega⟩,by simp only;omega,aF trivial ?_⟩;simp[wk,hs']
  have hjn:j=n:=by omega
  subst hjn;refine aE fun _ K=>?_;simp(disch:=omega) only[kd,iu,ch];apply K
  refine di rfl ?_;show bu _ _ _ _;refine aO fun _ K=>?_;simp(disch:=omega) only[kd,aM];apply K
  refine⟨⟨i+1,by omega⟩,by simp only;omega,aF trivial ?_⟩;simp[wk,hPs]
 have hin:i=n:=by omega
 subst hin;refine aE fun _ K=>?_;simp(disch:=omega) only[kd,iu,ch];apply K
 refine di rfl ?_;show bu _ _ _ _;refine aE fun _ K=>?_;simp only[kd];apply K
 (refine aL ⟨.inr rfl,aQ rfl ?_ rfl⟩;simp(disch:=omega) only[kd,Tryz.results40])
theorem Pl (n:Nat) (f:FF) (hn1:1<=n) (hn:n<=16):CallC Tryz.prog 39 [ch (mat n n f)] ⟨[],iu (be n fun i=>f i i)⟩:=by
 have hml:=bV n n f;have hz:af n [AV.p (.raw (.int .i64 0))]=lc fI (be n fun j=>if j<0 then f j j else 0):=by
  have h0:(be n fun j=>if j<0 then f j j else 0)=af n 0:=List.ext_getElem? fun i=>by
   by_cases hi:i<n<;>simp[be,hi]
  rw[h0];exact Pv n
 refine aK Tryz.func39 rfl (by kernel_rfl) ?_;rw[Tryz.ntmps39];refine aE fun _ K=>?_;simp only[kd,ch,af];apply K
 refine aE fun _ K=>?_;simp(disch:=omega) only[kd,aa,hml];apply K
 refine aG (aE fun _ K=>?_);simp only[kd,aa,hml];apply K;refine bH (G:=qp n) (fun g=>⟨(jk::jk::jk::.one (.sl 8 0 0 n)::j4 (jk::ch (mat n n f)::rN n::rN g.i::j4 (j4 (j4 (jk::[]))))),Hm [(8,[⟨2,1,lc fI (be n fun j=>if j<g.i then f j j else 0)⟩])]⟩) (fun g=>n-g.i) ⟨0,by omega⟩ ?_ ?_
 ·refine aF ⟨?_,trivial⟩ ?_
  ·rw[<- hz];rfl
  simp[wk]
 rintro⟨i,hi⟩;simp only;by_cases hm:i<n
 ·have hr:=b6 n f hm;have hc:=aZ (f i) hm;have hrl:=aW n (f i);have hgl:=aW n (fun j=>if j<i then f j j else 0);have hgi:=aZ (fun j=>if j<i then f j j else 0) hm;have hset:(lc fI (be n fun j=>if j<i then f j j else 0)).set i [AV.p (.raw (.int .i64 (f i i)))]=lc fI (be n fun j=>if j<i+1 then f j j else 0):=by
   rw[show[AV.p (.raw (.int .i64 (f i i)))]=(fI (f i i)).map AV.p from rfl,pT,ke];refine congrArg _ (dv fun j hj=>?_);by_cases h1:j=i
   ·subst h1;simp
   by_cases h2:j<i
   ·rw[if_neg h1,if_pos h2,if_pos (by omega)]
   rw[if_neg h1,if_neg h2,if_neg (by omega)]
  refine aE fun _ K=>?_;simp(disch:=omega) only[kd,ch];apply K
  refine cX rfl ?_;refine aG (aP ?_);refine aE fun _ K=>?_;simp(disch:=omega) only[kd,aa,hr,fR];apply K
  refine aO fun _ K=>?_;simp(disch:=omega) only[kd,aa,hc,hgi,hset];apply K
  show bu _ _ _ _;refine aO fun _ K=>?_;simp(disch:=omega) only[kd,aM];apply K
  refine⟨⟨i+1,by omega⟩,by simp only;omega,aF ⟨rfl,trivial⟩ ?_⟩;simp[wk]
 have hin:i=n:=by omega
 subst hin;have hgl:=aW i (fun j=>if j<i then f j j else 0);refine aE fun _ K=>?_;simp(disch:=omega) only[kd,ch];apply K
 refine di rfl ?_;show bu _ _ _ _;refine aE fun _ K=>?_;simp only[kd];apply K
 refine aL ⟨.inr rfl,xM 8 (dR rfl) ?_ rfl⟩;have eT:List.take i (be i fun j=>if j<i then f j j else 0)=be i fun j=>f j j:=by
  rw[List.take_of_length_le (by omega)];exact dv fun j hj=>if_pos hj
 simp(disch:=omega) only[kd,Tryz.results39,eT,iu]
def A0 (L:List Int):Nat->Int
 |0=>L.getD 0 0
 |i+1=>if L.getD (i+1) 0<A0 L i then L.getD (i+1) 0 else A0 L i
structure SV (n:Nat) where
 i:Nat
 h:i+1<=n
theorem RJ (L:List Int) (h1:1<=L.length) (h2:L.length<=1000):CallC Tryz.prog 38 [iu L] ⟨[],.raw (.int .i64 (A0 L (L.length-1)))⟩:=by
 have hx: ∀i,i<L.length->L[i]?=some (L.getD i 0):=fun i hi=>by rw[List.getD_eq_getElem?_getD,List.getElem?_eq_getElem hi];rfl
 have h0:=hx 0 (by omega);have hm0:A0 L 0=L.getD 0 0:=rfl;have hms: ∀i,(if L.getD (i+1) 0<A0 L i then L.getD (i+1) 0 else A0 L i)=A0 L (i+1):=fun _=>rfl
 refine aK Tryz.func38 rfl (by kernel_rfl) ?_;rw[Tryz.ntmps38];refine aE fun _ K=>?_;simp only[kd,iu,af];apply K
 refine aG (aE fun _ K=>?_);simp(disch:=omega) only[kd,aa];apply K;refine aU rfl (aR ?_);show bu _ _ _ _;refine aE fun _ K=>?_;simp(disch:=omega) only[kd,aa,an,h0];apply K
 refine aG (aE fun _ K=>?_);simp only[kd];apply K;refine bH (G:=SV L.length) (fun g=>⟨(iu L::jk::jk::.raw (.int .i64 (A0 L g.i))::.raw (.int .i64 ((g.i+1:Nat):Int))::j16 (j4 ([]))),Hm []⟩) (fun g=>L.length-g.i) ⟨0,h1⟩ ?_ ?_
 ·refine aF trivial ?_;simp[wk,hm0]
 rintro⟨i,hi⟩;simp only;by_cases hm:i+1<L.length
 ·have hxi:=hx (i+1) hm;have hs:=hms i;refine aG (aE fun _ K=>?_);simp(disch:=omega) only[kd,aa,iu];apply K;refine bo rfl (aR ?_);refine aG (aP ?_);refine aO fun _ K=>?_;simp(disch:=omega) only[kd,aa,hxi,hs];apply K
  show bu _ _ _ _;refine aO fun _ K=>?_;simp(disch:=omega) only[kd,aa,aM];apply K
  refine⟨⟨i+1,hm⟩,by simp only;omega,aF trivial ?_⟩;simp[wk]
 have hin:i=L.length-1:=by omega
 subst hin;refine aG (aE fun _ K=>?_);simp(disch:=omega) only[kd,aa,iu];apply K;refine aU rfl (cK ?_);show bu _ _ _ _;refine aE fun _ K=>?_;simp only[kd];apply K
 (refine aL ⟨.inr rfl,aQ rfl ?_ rfl⟩;simp(disch:=omega) only[kd,Tryz.results38])
theorem Jg (x:Int) (l:List Int):ls fI (x::l)=fI x::ls fI l:=rfl
theorem Qd {P:Program} {fn:Func} {d:Nat} {ty:TypeId} {l:List Int} {s:AS} (hd:s.H d=[⟨ty,1,lc fI l⟩]) (hres:qc P s fn.results.toList=some (.one (.sl d 0 0 l.length))) (h5:d<=4999):
  ∃s',bW s s'/\qt P fn ⟨[⟨ty,1,lc fI l⟩],.one (.sl 0 0 0 l.length)⟩ s':=
 ⟨s,bW.refl s,_,d,hres,Kf (by simp[selfTV,bG]) h5,by rw[hd];simp[renO,jL],rfl⟩
theorem Il (l:List Int) (h1:1<=l.length) (h2:l.length<=1000):CallC Tryz.prog 142 [iu l] ⟨[⟨2,1,lc fI l⟩],.one (.sl 0 0 0 l.length)⟩:=by
 obtain⟨x,l',rfl⟩: ∃x l',l=x::l':=by
  cases l with
  |nil=>simp at h1
  |cons x l'=>exact⟨x,l',rfl⟩
 refine aK Tryz.func142 rfl (by kernel_rfl) ?_;rw[Tryz.ntmps142];refine aE fun _ K=>?_;simp only[kd,iu,af];apply K
 refine aG (aE fun _ K=>?_);simp only[kd,Jg];apply K;have back:([PV.raw (.int .i64 x)]::ls fI l')=ls fI (x::l'):=rfl;simp only[back];clear back;generalize x::l'=L at*
 refine aU rfl (aR ?_);show bu _ _ _ _;refine aI [] [5] fun _ K=>?_;simp(disch:=omega) only[kd,aa,Nat.reduceMul,Nat.zero_le,ai,PO BW];apply K
 refine aL ⟨.inr rfl,Qd (d:=5) rfl ?_ (by decide)⟩;simp(disch:=omega) only[kd,Tryz.results142]
theorem fh {a b:Int} (h:a<=b):rng a b=a::rng (a+1) b:=by
 unfold rng;rw[show(b-a+1).toNat=(b-(a+1)+1).toNat+1 by omega,List.range_succ_eq_map,List.map_cons,List.map_map]
 congr 1
 ·simp
 refine List.map_congr_left fun i _=>?_
 show a+((i+1:Nat):Int)=a+1+(i:Int);omega
theorem fm {a b:Int} (h: ¬a<=b):rng a b=[]:=by
 unfold rng;rw[show(b-a+1).toNat=0 by omega];rfl
theorem yy {P:Program} {γ:Type} {L:jd γ} {ks:List Nat} {s:AS} {g:γ} {c z:Code} {Q:Exit->AS->γ->Prop} (S:AS) (h1:dY P L ks c (ux (fun s' g'=>bW s' S/\g'=g) Q) s g) (h2:dY P L ks z Q S g):dY P L ks c (ux (dY P L ks z Q) Q) s g:=fun vf w0 O X a w r=>
 wp_mono (h1 vf w0 O X a w r) fun e a' w' ⟨s',g',q1,q2⟩=>by
  cases e with
  |normal=>
   obtain⟨hw,rfl⟩:=q1;exact⟨s',g',h2.weak hw,q2⟩
  |_=>exact⟨s',g',q1,q2⟩
noncomputable def uD (f:FF) (n:Nat) (B:Int) (ex:Bool):Nat->List Int->Bool->List (List Int)
 |0,y,z=>(rng (if z=true then 0 else dB f n B 0 (bj n y)) (d6 f n B 0 (bj n y))).flatMap fun c=>if(z&&decide (c=0))=true\/(ex&&!decide (nF f n B 0 (bj n (c::y))=0))=true then[]else[c::y]
 |k+1,y,z=>(rng (if z=true then 0 else dB f n B (k+1) (bj n y)) (d6 f n B (k+1) (bj n y))).flatMap fun c=>uD f n B ex k (c::y) (z&&decide (c=0))
abbrev yh (a n m:Nat) (y D:List Int) (M acc:List (List Int)) (ex:Bool):List OObj:=[⟨182,1,[[.fn 139 a [(1,0,0),(2,0,0),(0,0,0),(6,0,0),(4,0,0)]]]⟩,⟨180,2,[[.p (.sl (ls fI D)),.p (.sl (ls (fR fI) M))]]⟩,⟨35,1,[[.sl a 3 0 n]]⟩,⟨2,1,jnk m++lc fI y⟩,⟨26,1,[[.sl a 5 0 acc.length]]⟩,⟨35,1,lc (fR fI) acc⟩,⟨4,1,[[.p (.raw (.bool ex))]]⟩]
theorem rp (a d n m:Nat) (y D:List Int) (M acc:List (List Int)) (ex:Bool):(yh a n m y D M acc ex).map (renO d)=yh d n m y D M acc ex:=by
 simp only[yh,List.map_cons,List.map_nil,renO,cb,jL,List.map_append,fX,List.isEmpty_cons,Bool.false_eq_true,if_false]
theorem yR (a n m:Nat) (y D:List Int) (M acc:List (List Int)) (ex:Bool): ∀o∈yh a n m y D M acc ex,selfO a o:=fun o ho e he x hx=>by
 simp only[List.mem_cons,List.not_mem_nil,or_false]at ho;rcases ho with rfl|rfl|rfl|rfl|rfl|rfl|rfl
 ·simp only[List.mem_singleton]at he;subst he;simp only[List.mem_singleton]at hx;subst hx;exact⟨rfl,by simp⟩
 ·simp only[List.mem_singleton]at he;subst he;simp only[List.mem_cons,List.not_mem_nil,or_false]at hx;rcases hx with rfl|rfl<;>trivial
 ·simp only[List.mem_singleton]at he;subst he;simp only[List.mem_singleton]at hx;subst hx;rfl
 ·simp only[List.mem_append]at he;rcases he with he|he
  ·obtain⟨_,rfl⟩:=List.mem_replicate.1 he;simp only[List.mem_singleton]at hx;subst hx;trivial
  exact cd (bz 2 1 _ e he x hx)
 ·simp only[List.mem_singleton]at he;subst he;simp only[List.mem_singleton]at hx;subst hx;rfl
 ·exact cd (bz 35 1 _ e he x hx)
 simp only[List.mem_singleton]at he;subst he;simp only[List.mem_singleton]at hx;subst hx;trivial
abbrev Ov:List (Nat×Nat):=[(1,3),(2,4),(0,5),(6,6),(4,7)]
theorem Pi (a n m m':Nat) (y y' D:List Int) (M acc acc':List (List Int)) (ex:Bool): ∀r∈Ov.map Prod.fst,∀o,(yh a n m y D M acc ex)[r]?=some o-> ∃o',(yh a n m' y' D M acc' ex)[r]?=some o'/\o'.es=o.es/\o.elems.length<=o'.elems.length:=fun r hr o h=>by
 simp only[Ov,List.map_cons,List.map_nil,List.mem_cons,List.not_mem_nil,or_false]at hr;rcases hr with rfl|rfl|rfl|rfl|rfl<;>(injection h with h;subst h;exact⟨_,rfl,rfl,Nat.le_refl _⟩)
abbrev Te (k:Nat) (rest:Int) (z:Bool):List TV:=[.raw (.int .i64 (k:Int)),.raw (.int .i64 rest),.raw (.bool z),.one (.ptr 0 1 0 0),.one (.ptr 0 2 0 0),.one (.ptr 0 0 0 0),.one (.ptr 0 6 0 0),.one (.ptr 0 4 0 0)]
abbrev Ri (n:Nat) (f:FF) (B:Int) (ex:Bool) (k:Nat) (y:List Int) (z:Bool) (acc:List (List Int)):Prop:=
 jT Tryz.prog QZ (Ov.map Prod.fst) 139 (Te k (nF f n B (k+1) (bj n y)) z) (yh 0 n (k+1) y (be (n+1) (dk f)) (dT n f n) acc ex) (yh 0 n (k+1) y (be (n+1) (dk f)) (dT n f n) (acc++uD f n B ex k y z) ex) () () (.tup [])
end Go.Proofs.YtalmoejhjceflaaGreat
