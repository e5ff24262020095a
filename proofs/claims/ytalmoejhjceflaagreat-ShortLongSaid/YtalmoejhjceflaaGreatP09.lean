/-
  Part 10 of a proof (walks and plain facts).
-/
import Derived.Test.YtalmoejhjceflaaGreatP08
import Derived.Scope
import Derived.RangeFuncRecord
import Derived.OrdersIn
set_option linter.all false
set_option maxRecDepth 100000
set_option maxHeartbeats 64000000
open List renaming all_eq_true → aj
open List renaming mem_map → am
open List renaming mem_of_getElem? → ax
open List renaming getElem?_map → az
namespace Go.Proofs.YtalmoejhjceflaaGreat
open Go.RowKit
def kB (a e d:Nat):AV->AV
 | .sl b r off len=>if b=a then .sl d r off len else if b=e then .sl d (r+1) off len else .sl b r off len
 | .ptr b r i j=>if b=a then .ptr d r i j else if b=e then .ptr d (r+1) i j else .ptr b r i j
 | .fn f b qs=>if b=a then .fn f d qs else if b=e then .fn f d (qs.map fun q=>(q.1+1,q.2))else .fn f b qs
 |x=>x
theorem Jh (a e d:Nat):lf (kB a e d):=fun f b qs=>by
 by_cases h:b=a
 ·exact .inr ⟨d,qs,if_pos h,rfl,fun n q hn=>⟨q,hn,if_pos h⟩⟩
 by_cases h2:b=e
 ·exact .inr ⟨d,_,(if_neg h).trans (if_pos h2),by simp,fun n q hn=>⟨_,by rw[az,hn];rfl,(if_neg h).trans (if_pos h2)⟩⟩
 exact .inr ⟨b,qs,(if_neg h).trans (if_neg h2),rfl,fun n q hn=>⟨q,hn,(if_neg h).trans (if_neg h2)⟩⟩
def zq (a e d:Nat):TV->TV
 | .one x=> .one (kB a e d x)
 | .agg cs=> .agg (cs.map (kB a e d))
 | .fn f cs=> .fn f (cs.map (kB a e d))
 | .tup ts=> .tup (ts.map fun t=>(t.1,t.2.map (kB a e d)))
theorem IU {a e d:Nat} {ρ ρ':Rho} {H H':OH} {Y Y':Nat->Prop} {w:World} {t:TV} {v:Value} (h:t.rel ρ H Y w v) (hk: ∀x v,x.rel ρ H Y w v->AV.rel ρ' H' Y' w (kB a e d x) v):(zq a e d t).rel ρ' H' Y' w v:=by
 have hagg: ∀cs v,bJ ρ H Y w cs v->bJ ρ' H' Y' w (cs.map (kB a e d)) v:=fun cs v ⟨vs,g1,g2,g3⟩=>by
  refine⟨vs,g1,by simpa using g2,fun j x hx=>?_⟩;rw[az]at hx;obtain⟨y,hy,rfl⟩:=Option.map_eq_some_iff.1 hx;obtain⟨u,u1,u2,u3⟩:=g3 j y hy;exact⟨u,u1,u2,hk y u u3⟩
 cases t with
 |one x=>exact hk x v h
 |agg cs=>exact hagg cs v h
 |fn f cs=>obtain⟨u,h1,h2⟩:=h;exact⟨u,hagg cs u h1,h2⟩
 |tup ts=>
  obtain⟨vs,g1,g2,g3⟩:=h;refine⟨vs,g1,by simpa using g2,fun j c cs hj=>?_⟩;rw[az]at hj;obtain⟨z,hz,hzz⟩:=Option.map_eq_some_iff.1 hj;obtain⟨c',cs'⟩:=z;simp at hzz;obtain⟨rfl,rfl⟩:=hzz;obtain⟨u,u1,u2⟩:=g3 j c' cs' hz;refine⟨u,u1,?_⟩;rcases u2 with⟨u2,u3⟩|⟨u2,q',rfl,u4⟩
  ·exact .inl ⟨u2,hagg _ _ u3⟩
  exact .inr ⟨u2,_,rfl,hk _ _ u4⟩
theorem iG {s:AS} (a e d:Nat) {oa oe:OObj} (ha:s.H a=[oa]) (he:s.H e=[oe]) (hd:s.H d=[]) (hpa:cU oa) (hpe:cU oe) (hae:a≠e) (ha5:a<=4999) (he5:e<=4999):
  bW s ⟨s.tmps.map (zq a e d),aJ (aJ (aJ s.H a []) e []) d [oa,oe]⟩:=by
 rintro w0 O X act w ⟨h1,hsz,ρ,hinv,htm⟩;have htm:bq X ρ s act w:=htm;have had:a≠d:=by rintro rfl;rw[ha]at hd;cases hd
 have hed:e≠d:=by rintro rfl;rw[he]at hd;cases hd
 generalize hH:aJ (aJ (aJ s.H a []) e []) d [oa,oe]=H1;generalize hρ1:(fun x y=>if x=d then(if y=0 then ρ a 0 else if y=1 then ρ e 0 else none)else ρ x y:Rho)=ρ1;have hHd:H1 d=[oa,oe]:=by rw[<- hH];exact aX
 have hHa:H1 a=[]:=by rw[<- hH,aN had,aN hae,aX]
 have hHe:H1 e=[]:=by rw[<- hH,aN hed,aX]
 have hHn: ∀x,x≠d->x≠a->x≠e->H1 x=s.H x:=fun x h1 h2 h3=>by rw[<- hH,aN h1,aN h3,aN h2]
 have hρn: ∀x y,x≠d->ρ1 x y=ρ x y:=fun x y h=>by rw[<- hρ1];exact if_neg h
 have hρa:ρ1 d 0=ρ a 0:=by rw[<- hρ1];simp
 have hρe:ρ1 d 1=ρ e 0:=by rw[<- hρ1];simp
 have one: ∀(z:Nat) (oz:OObj) r o,s.H z=[oz]->(s.H z)[r]?=some o->r=0/\o=oz:=fun z oz r o hz h=>by
  rw[hz]at h;cases r with
  |zero=>simp at h;exact⟨rfl,h.symm⟩
  |succ r=>simp at h
 have ha0:(s.H a)[0]?=some oa:=by rw[ha];rfl
 have he0:(s.H e)[0]?=some oe:=by rw[he];rfl
 have back: ∀(x y:Nat) o,(H1 x)[y]?=some o-> ∃x' y',(s.H x')[y']?=some o/\ρ1 x y=ρ x' y'/\((x=d/\y=0/\x'=a/\y'=0/\o=oa)\/(x=d/\y=1/\x'=e/\y'=0/\o=oe)\/(x≠d/\x≠a/\x≠e/\x'=x/\y'=y)):=fun x y o ho=>by
  by_cases hxd:x=d
  ·subst hxd;rw[hHd]at ho
   match y,ho with
   |0,ho=>simp at ho;subst ho;exact⟨a,0,ha0,hρa,.inl ⟨rfl,rfl,rfl,rfl,rfl⟩⟩
   |1,ho=>simp at ho;subst ho;exact⟨e,0,he0,hρe,.inr (.inl ⟨rfl,rfl,rfl,rfl,rfl⟩)⟩
   |y+2,ho=>simp at ho
  by_cases hxa:x=a
  ·subst hxa;rw[hHa]at ho;simp at ho
  by_cases hxe:x=e
  ·subst hxe;rw[hHe]at ho;simp at ho
  rw[hHn x hxd hxa hxe]at ho;exact⟨x,y,ho,hρn _ _ hxd,.inr (.inr ⟨hxd,hxa,hxe,rfl,rfl⟩)⟩
 have hXo: ∀c,Xo X ρ1 H1 c->Xo X ρ s.H c:=fun c hc=>by
  rcases hc with hc|⟨x,y,o,n,h1,h2⟩
  ·exact .inl hc
  obtain⟨x',y',g1,g2,_⟩:=back x y o h1;exact .inr ⟨x',y',o,n,g1,by rw[<- g2];exact h2⟩
 have hav: ∀x v,AV.rel ρ s.H (Xo X ρ s.H) w x v->AV.rel ρ1 H1 (Xo X ρ1 H1) w (kB a e d x) v:=fo (Jh a e d) fun x v hn h=>by
  cases x with
  |fn=>cases hn
  |p x=>exact bX.weaken (fun c _ hc=>hXo c hc) h
  |sl b r off len=>
   obtain⟨o,g1,g2,g3⟩:=h;simp only[kB];by_cases hb:b=a
   ·subst hb;obtain⟨rfl,rfl⟩:=one b oa r o ha g1;rw[if_pos rfl];exact⟨o,by rw[hHd];rfl,g2,ma ha5 g3 hρa⟩
   rw[if_neg hb];by_cases hb':b=e
   ·subst hb';obtain⟨rfl,rfl⟩:=one b oe r o he g1;rw[if_pos rfl];exact⟨o,by rw[hHd];rfl,g2,ma he5 g3 hρe⟩
   rw[if_neg hb'];have hbd:b≠d:=by rintro rfl;rw[hd]at g1;simp at g1
   exact⟨o,by rw[hHn b hbd hb hb'];exact g1,g2,by rw[hρn _ _ hbd];exact g3⟩
  |ptr b r i j=>
   obtain⟨o,b',c,g1,g2,g3⟩:=h;simp only[kB];by_cases hb:b=a
   ·subst hb;obtain⟨rfl,rfl⟩:=one b oa r o ha g1;rw[if_pos rfl];exact⟨o,b',c,by rw[hHd];rfl,by rw[hρa];exact g2,g3⟩
   rw[if_neg hb];by_cases hb':b=e
   ·subst hb';obtain⟨rfl,rfl⟩:=one b oe r o he g1;rw[if_pos rfl];exact⟨o,b',c,by rw[hHd];rfl,by rw[hρe];exact g2,g3⟩
   rw[if_neg hb'];have hbd:b≠d:=by rintro rfl;rw[hd]at g1;simp at g1
   exact⟨o,b',c,by rw[hHn b hbd hb hb'];exact g1,by rw[hρn _ _ hbd];exact g2,g3⟩
  |junk=>trivial
 have hcell: ∀(x':Nat) z u,bG x' z->x'≠a->x'≠e->AV.rel ρ s.H (Xo X ρ s.H) w z u->AV.rel ρ1 H1 (Xo X ρ1 H1) w z u:=fun x' z u hs h1 h2 h=>by
  have:=hav z u h;cases z with
  |sl b r off len=>
   have hs:b=x':=hs;simpa[kB,hs,h1,h2] using this
  |ptr b r i j=>
   have hs:b=x':=hs;simpa[kB,hs,h1,h2] using this
  |fn f b qs=>
   have hs:b=x':=hs.1;simpa[kB,hs,h1,h2] using this
  |p x=>exact this
  |junk=>trivial
 have hpure: ∀z u,isPure z=true->AV.rel ρ s.H (Xo X ρ s.H) w z u->AV.rel ρ1 H1 (Xo X ρ1 H1) w z u:=fun z u hp h=>by
  cases z with
  |p x=>exact bX.weaken (fun c _ hc=>hXo c hc) h
  |_=>cases hp
 refine⟨h1,by simpa using hsz,ρ1,⟨hinv.keep,fun x y o ho=>?_,fun x y x' y' o o' c n n' ho ho' hr hr'=>?_,fun x y o c n ho hr=>?_,hinv.bar,fun x y o ho=>?_⟩,fun t x hx=>?_⟩
 ·obtain⟨x',y',g1,g2,g3⟩:=back x y o ho;obtain⟨q1,q2,q3⟩:=hinv.objs x' y' o g1;refine⟨q1,q2,?_⟩;rw[g2];cases hr:ρ x' y' with
  |none=>rw[hr]at q3;exact q3
  |some bc=>
   obtain⟨b',c⟩:=bc;rw[hr]at q3;obtain⟨cells,p1,p2,p3,p4,p5⟩:=q3;refine⟨cells,p1,p2,p3,p4,fun i el j z he' hz=>?_⟩;obtain⟨u,u1,u2,u3⟩:=p5 i el j z he' hz;refine⟨u,u1,u2,?_⟩;rcases g3 with⟨_,_,_,_,rfl⟩|⟨_,_,_,_,rfl⟩|⟨k1,k2,k3,rfl,rfl⟩
   ·exact hpure z u (hpa el (ax he') z (ax hz)) u3
   ·exact hpure z u (hpe el (ax he') z (ax hz)) u3
   exact hcell x' z u (hinv.self x' y' o g1 el (ax he') z (ax hz)) k2 k3 u3
 ·obtain⟨x1,y1,g1,g2,g3⟩:=back x y o ho;obtain⟨x2,y2,k1,k2,k3⟩:=back x' y' o' ho';obtain⟨e1,e2⟩:=hinv.inj x1 y1 x2 y2 o o' c n n' g1 k1 (by rw[<- g2];exact hr) (by rw[<- k2];exact hr');rcases g3 with⟨a1,a2,a3,a4,_⟩|⟨a1,a2,a3,a4,_⟩|⟨a1,a2,a3,a4,a5⟩<;>rcases k3 with⟨b1,b2,b3,b4,_⟩|⟨b1,b2,b3,b4,_⟩|⟨b1,b2,b3,b4,b5⟩<;>omega
 ·obtain⟨x1,y1,g1,g2,g3⟩:=back x y o ho;exact hinv.old x1 y1 o c n g1 (by rw[<- g2];exact hr)
 ·obtain⟨x',y',g1,g2,g3⟩:=back x y o ho;rcases g3 with⟨_,_,_,_,rfl⟩|⟨_,_,_,_,rfl⟩|⟨k1,k2,k3,rfl,rfl⟩
  ·exact fun el he' z hz=>cd (hpa el he' z hz)
  ·exact fun el he' z hz=>cd (hpe el he' z hz)
  exact hinv.self x' y' o g1
 simp only[az]at hx;obtain⟨y,hy,rfl⟩:=Option.map_eq_some_iff.1 hx;obtain⟨v,v1,v2⟩:=htm t y hy;exact⟨v,v1,IU v2 hav⟩
section
section
variable {P:Program} {b:Nat} {ty:TypeId} {cs cs':List PV} {Q:Exit->AS->List PV->Prop} {s:AS}
end
theorem zw {w0:World} {O X:Nat->Prop} {a:Act} {w:World} {s:AS} (d:Nat) {ty:TypeId} {cs:List PV} (hd:s.H d=[⟨ty,cs.length,[cs.map AV.p]⟩]) (r:cW w0 O X s a w):
  ∃b,(w0.heap.size<=b\/O b)/\ ¬X b/\fO b ty w0 (fun j=>O j\/j=b) (fun j=>X j\/j=b) ⟨s.tmps.map (uR d b),aJ s.H d []⟩ cs a w:=by
 obtain⟨h1,hsz,ρ,hinv,htm⟩:=r;have htm:bq X ρ s a w:=htm;have hget:(s.H d)[0]?=some ⟨ty,cs.length,[cs.map AV.p]⟩:=by rw[hd];rfl
 obtain⟨z1,z2,z3⟩:=hinv.objs d 0 _ hget;cases hρ:ρ d 0 with
 |none=>rw[hρ]at z3;cases z3
 |some bc=>
  obtain⟨b,n⟩:=bc;rw[hρ]at z3;obtain⟨cells,p1,p2,p3,p4,p5⟩:=z3;have hold:=hinv.old d 0 _ b n hget hρ;have hna: ∀(x y:Nat) o,(aJ s.H d [] x)[y]?=some o->x≠d/\(s.H x)[y]?=some o:=fun x y o ho=>by
   by_cases hx:x=d
   ·subst hx;rw[aX]at ho;simp at ho
   rw[aN hx]at ho;exact⟨hx,ho⟩
  have hXo: ∀j,Xo (fun j=>X j\/j=b) ρ (aJ s.H d []) j->Xo X ρ s.H j:=fun j hj=>by
   rcases hj with(hj|rfl)|⟨x,y,o,n',g1,g2⟩
   ·exact .inl hj
   ·exact .inr ⟨d,0,_,n,hget,hρ⟩
   exact .inr ⟨x,y,o,n',(hna x y o g1).2,g2⟩
  have hmap: ∀x v,AV.rel ρ s.H (Xo X ρ s.H) w x v->AV.rel ρ (aJ s.H d []) (Xo (fun j=>X j\/j=b) ρ (aJ s.H d [])) w (lS d b x) v:=fo (Jj d b) fun x v hn hx=>by
   cases x with
   |fn=>cases hn
   |p x=>exact bX.weaken (fun j _ hj=>hXo j hj) hx
   |sl x r off len=>
    simp only[lS];split
    ·trivial
    rename_i hxd;obtain⟨o,g1,g2⟩:=hx;exact⟨o,by rw[aN hxd];exact g1,g2⟩
   |ptr x r i j=>
    simp only[lS];split
    ·rename_i hxd;subst hxd;split
     ·rename_i hc;obtain⟨rfl,rfl,rfl⟩:=hc;obtain⟨o,b',c',g1,g2,g3,g4⟩:=hx;rw[hρ]at g2;injection g2 with g2
      injection g2 with g2 g2'
      subst g2;rw[g4];simp only[Nat.zero_mul,Nat.add_zero];exact bX.raw _ rfl
     trivial
    rename_i hxd;obtain⟨o,b',c',g1,g2⟩:=hx;exact⟨o,b',c',by rw[aN hxd];exact g1,g2⟩
   |junk=>trivial
  have hagg: ∀cs v,bJ ρ s.H (Xo X ρ s.H) w cs v->bJ ρ (aJ s.H d []) (Xo (fun j=>X j\/j=b) ρ (aJ s.H d [])) w (cs.map (lS d b)) v:=fun cs v ⟨vs,g1,g2,g3⟩=>by
   refine⟨vs,g1,by simpa using g2,fun j x hx=>?_⟩;rw[az]at hx;obtain⟨y,hy,rfl⟩:=Option.map_eq_some_iff.1 hx;obtain⟨u,u1,u2,u3⟩:=g3 j y hy;exact⟨u,u1,u2,hmap y u u3⟩
  have hrel:fO b ty w0 (fun j=>O j\/j=b) (fun j=>X j\/j=b) ⟨s.tmps.map (uR d b),aJ s.H d []⟩ cs a w:=by
   refine⟨h1,by simpa using hsz,ρ,⟨⟨hinv.keep.os,hinv.keep.tape,hinv.keep.output,hinv.keep.size,fun k hk hn=>hinv.keep.block k hk (fun h=>hn (.inl h))⟩,fun x y o ho=>?_,fun x y x' y' o o' j c c' ho ho'=>hinv.inj x y x' y' o o' j c c' (hna x y o ho).2 (hna x' y' o' ho').2,fun x y o j c ho hj=>?_,fun j hj=>?_,fun x y o ho=>hinv.self x y o (hna x y o ho).2⟩,fun t x hx=>?_,.inr rfl,.inr rfl,?_⟩
   ·obtain⟨hxd,ho'⟩:=hna x y o ho;obtain⟨q1,q2,q3⟩:=hinv.objs x y o ho';refine⟨q1,q2,?_⟩;cases hr:ρ x y with
    |none=>rw[hr]at q3;exact q3
    |some bc=>
     obtain⟨b',c'⟩:=bc;rw[hr]at q3;obtain⟨cells',r1,r2,r3,r4,r5⟩:=q3;refine⟨cells',r1,r2,r3,r4,fun i e j z he hz=>?_⟩;obtain⟨u,u1,u2,u3⟩:=r5 i e j z he hz;have hs:=hinv.self x y o ho' e (ax he) z (ax hz);have:=hmap z u u3;refine⟨u,u1,u2,?_⟩;cases z with
     |sl z _ _ _=>have hs:z=x:=hs;subst hs;simpa[lS,hxd] using this
     |ptr z _ _ _=>have hs:z=x:=hs;subst hs;simpa[lS,hxd] using this
     |fn _ z _=>have hs:z=x:=hs.1;subst hs;simpa[lS,hxd] using this
     |p z=>exact this
     |junk=>trivial
   ·obtain⟨hxd,ho'⟩:=hna x y o ho;obtain⟨g1,g2⟩:=hinv.old x y o j c ho' hj;refine⟨?_,?_⟩
    ·rcases g1 with g|g
     ·exact .inl g
     exact .inr (.inl g)
    rintro(g|rfl)
    ·exact g2 g
    exact hxd (hinv.inj x y d 0 o _ j c n ho' hget hj hρ).1
   ·rcases hj with hj|rfl
    ·exact hinv.bar j hj
    exact(Array.getElem?_eq_some_iff.1 p1).1
   ·simp only[az]at hx;obtain⟨y,hy,rfl⟩:=Option.map_eq_some_iff.1 hx;obtain⟨v,v1,v2⟩:=htm t y hy;refine⟨v,v1,?_⟩;cases y with
    |one x=>exact hmap x v v2
    |agg cs=>exact hagg cs v v2
    |fn f cs=>obtain⟨u,h1,h2⟩:=v2;exact⟨u,hagg cs u h1,h2⟩
    |tup ts=>
     obtain⟨vs,g1,g2,g3⟩:=v2;refine⟨vs,g1,by simpa using g2,fun j c cs hj=>?_⟩;rw[az]at hj;obtain⟨z,hz,hzz⟩:=Option.map_eq_some_iff.1 hj;obtain⟨c',cs'⟩:=z;simp at hzz;obtain⟨rfl,rfl⟩:=hzz;obtain⟨u,u1,u2⟩:=g3 j c' cs' hz;refine⟨u,u1,?_⟩;rcases u2 with⟨u2,u3⟩|⟨u2,q',rfl,u4⟩
     ·exact .inl ⟨u2,hagg _ _ u3⟩
     exact .inr ⟨u2,_,rfl,hmap _ _ u4⟩
   refine⟨cells,n,p1,p2,by simpa using p3,p4,z2,fun j x hx=>?_⟩;obtain⟨v,v1,v2,v3⟩:=p5 0 (cs.map AV.p) j (.p x) rfl (by rw[az,hx];rfl);exact⟨v,by simpa using v1,v2,bX.weaken (fun j _ hj=>hXo j hj) v3⟩
  exact⟨b,hold.1,hold.2,hrel⟩
def r6 (d b:Nat):AV->AV
 | .p (.raw (.pointer (some ⟨b',0,none⟩)))=>if b'=b then .ptr d 0 0 0 else .p (.raw (.pointer (some ⟨b',0,none⟩)))
 |x=>x
def Br (d b:Nat):TV->TV
 | .one x=> .one (r6 d b x)
 | .agg cs=> .agg (cs.map (r6 d b))
 | .fn f cs=> .fn f (cs.map (r6 d b))
 | .tup ts=> .tup (ts.map fun t=>(t.1,t.2.map (r6 d b)))
theorem yK {w0:World} {O X:Nat->Prop} {a:Act} {w:World} {s:AS} {b d:Nat} {ty:TypeId} {cs:List PV} (hold:w0.heap.size<=b\/O b) (hnX: ¬X b) (hd:s.H d=[]) (r:fO b ty w0 (fun j=>O j\/j=b) (fun j=>X j\/j=b) s cs a w):
  cW w0 O X ⟨s.tmps.map (Br d b),aJ s.H d [⟨ty,cs.length,[cs.map AV.p]⟩]⟩ a w:=by
 obtain⟨k1,ksz,ρ,kinv,ktm,_,_,cells,n,p1,p2,p3,p4,p5,p6⟩:=r;have ktm:bq (fun j=>X j\/j=b) ρ s a w:=ktm;generalize hρ2:newρ ρ d (fun r=>if r=0 then some (b,n)else none)=ρ2;generalize hH2:aJ s.H d [⟨ty,cs.length,[cs.map AV.p]⟩]=H2;have hd2:H2 d=[⟨ty,cs.length,[cs.map AV.p]⟩]:=by rw[<- hH2,aX]
 have hne2: ∀x,x≠d->H2 x=s.H x:=fun x hx=>by rw[<- hH2,aN hx]
 have hrd: ∀r,ρ2 d r=if r=0 then some (b,n)else none:=fun r=>by rw[<- hρ2,newρ_eq]
 have hrn: ∀x r,x≠d->ρ2 x r=ρ x r:=fun x r hx=>by rw[<- hρ2,newρ_ne hx]
 have hone: ∀(y:Nat) o,(H2 d)[y]?=some o->y=0/\o=⟨ty,cs.length,[cs.map AV.p]⟩:=fun y o ho=>by
  rw[hd2]at ho
  match y,ho with
  |0,ho=>exact⟨rfl,by simpa using ho.symm⟩
  |y+1,ho=>simp at ho
 have hXo: ∀j,Xo X ρ2 H2 j->Xo (fun j=>X j\/j=b) ρ s.H j:=fun j hj=>by
  rcases hj with hj|⟨x,y,o,c,g1,g2⟩
  ·exact .inl (.inl hj)
  by_cases hx:x=d
  ·subst hx;obtain⟨rfl,_⟩:=hone y o g1;rw[hrd,if_pos rfl]at g2;injection g2 with g2
   injection g2 with g2
   exact .inl (.inr g2.symm)
  rw[hne2 x hx]at g1;rw[hrn x y hx]at g2;exact .inr ⟨x,y,o,c,g1,g2⟩
 have kmap: ∀x v,AV.rel ρ s.H (Xo (fun j=>X j\/j=b) ρ s.H) w x v->AV.rel ρ2 H2 (Xo X ρ2 H2) w x v:=n9 fun x v hn hx=>by
  cases x with
  |fn=>cases hn
  |p x=>exact bX.weaken (fun j _ hj=>hXo j hj) hx
  |sl x r off len=>
   obtain⟨o,g1,g2⟩:=hx;have hxd:x≠d:=by rintro rfl;rw[hd]at g1;simp at g1
   exact⟨o,by rw[hne2 x hxd];exact g1,by rw[hrn x r hxd];exact g2⟩
  |ptr x r i j=>
   obtain⟨o,b',c,g1,g2,g3⟩:=hx;have hxd:x≠d:=by rintro rfl;rw[hd]at g1;simp at g1
   exact⟨o,b',c,by rw[hne2 x hxd];exact g1,by rw[hrn x r hxd];exact g2,g3⟩
  |junk=>trivial
 have kmapB: ∀x v,AV.rel ρ s.H (Xo (fun j=>X j\/j=b) ρ s.H) w x v->AV.rel ρ2 H2 (Xo X ρ2 H2) w (r6 d b x) v:=fun x v hx=>by
  unfold r6;split
  ·split
   ·rename_i hb;subst hb;obtain⟨rfl,_⟩:=bs (ρ:=ρ) (H:=s.H) hx;exact⟨⟨ty,cs.length,[cs.map AV.p]⟩,_,n,by rw[hd2];rfl,by rw[hrd,if_pos rfl],by simp,by simp⟩
   exact kmap _ _ hx
  exact kmap _ _ hx
 have hagg: ∀cs v,bJ ρ s.H (Xo (fun j=>X j\/j=b) ρ s.H) w cs v->bJ ρ2 H2 (Xo X ρ2 H2) w (cs.map (r6 d b)) v:=fun cs v ⟨vs,g1,g2,g3⟩=>by
  refine⟨vs,g1,by simpa using g2,fun j x hx=>?_⟩;rw[az]at hx;obtain⟨y,hy,rfl⟩:=Option.map_eq_some_iff.1 hx;obtain⟨u,u1,u2,u3⟩:=g3 j y hy;exact⟨u,u1,u2,kmapB y u u3⟩
 refine⟨k1,by simpa using ksz,ρ2,⟨⟨kinv.keep.os,kinv.keep.tape,kinv.keep.output,kinv.keep.size,fun k hk hn=>?_⟩,fun x y o ho=>?_,fun x y x' y' o o' j c c' ho ho' hj hj'=>?_,fun x y o j c ho hj=>?_,fun j hj=>kinv.bar j (.inl hj),fun x y o ho=>?_⟩,fun t x hx=>?_⟩
 ·by_cases hkb:k=b
  ·subst hkb;exfalso;rcases hold with g|g
   ·omega
   exact hn g
  exact kinv.keep.block k hk (fun hh=>by
   rcases hh with hh|hh
   ·exact hn hh
   exact hkb hh)
 ·by_cases hx:x=d
  ·subst hx;obtain⟨rfl,rfl⟩:=hone y o ho;refine⟨fun e he=>by simp at he;subst he;simp,p5,?_⟩;rw[hrd,if_pos rfl];refine⟨cells,p1,p2,by simpa using p3,p4,fun i e j z he hz=>?_⟩
   match i,he with
   |0,he=>
    simp at he;subst he;rw[az]at hz;obtain⟨y,hy,rfl⟩:=Option.map_eq_some_iff.1 hz;obtain⟨v,v1,v2,v3⟩:=p6 j y hy;exact⟨v,by simpa using v1,v2,bX.weaken (fun j _ hj=>hXo j hj) v3⟩
   |i+1,he=>simp at he
  replace ho:(H2 x)[y]?=some o:=ho
  rw[hne2 x hx]at ho;exact dK (kinv.objs x y o ho) (hrn x y hx) (fun _ _ _=>rfl) kmap
 ·by_cases hx:x=d
  ·subst hx;obtain⟨rfl,_⟩:=hone y o ho;rw[hrd,if_pos rfl]at hj;injection hj with hj
   injection hj with hj _
   subst hj;by_cases hx':x'=x
   ·subst hx';obtain⟨rfl,_⟩:=hone y' o' ho';exact⟨rfl,rfl⟩
   replace ho':(H2 x')[y']?=some o':=ho'
   rw[hne2 x' hx']at ho';rw[hrn x' y' hx']at hj';exact absurd (.inr rfl) (kinv.old x' y' o' _ c' ho' hj').2
  replace ho:(H2 x)[y]?=some o:=ho
  rw[hne2 x hx]at ho;rw[hrn x y hx]at hj;by_cases hx':x'=d
  ·subst hx';obtain⟨rfl,_⟩:=hone y' o' ho';rw[hrd,if_pos rfl]at hj';injection hj' with hj'
   injection hj' with hj' _
   subst hj';exact absurd (.inr rfl) (kinv.old x y o _ c ho hj).2
  replace ho':(H2 x')[y']?=some o':=ho'
  rw[hne2 x' hx']at ho';rw[hrn x' y' hx']at hj';exact kinv.inj x y x' y' o o' j c c' ho ho' hj hj'
 ·by_cases hx:x=d
  ·subst hx;obtain⟨rfl,_⟩:=hone y o ho;rw[hrd,if_pos rfl]at hj;injection hj with hj
   injection hj with hj _
   subst hj;exact⟨hold,hnX⟩
  replace ho:(H2 x)[y]?=some o:=ho
  rw[hne2 x hx]at ho;rw[hrn x y hx]at hj;obtain⟨g1,g2⟩:=kinv.old x y o j c ho hj;refine⟨?_,fun hx=>g2 (.inl hx)⟩;rcases g1 with g|g|g
  ·exact .inl g
  ·exact .inr g
  exact absurd (.inr g) g2
 ·by_cases hx:x=d
  ·subst hx;obtain⟨_,rfl⟩:=hone y o ho;intro e he z hz;simp at he;subst he;obtain⟨q,_,rfl⟩:=List.mem_map.1 hz;trivial
  replace ho:(H2 x)[y]?=some o:=ho
  rw[hne2 x hx]at ho;exact kinv.self x y o ho
 simp only[az]at hx;obtain⟨y,hy,rfl⟩:=Option.map_eq_some_iff.1 hx;obtain⟨v,v1,v2⟩:=ktm t y hy;refine⟨v,v1,?_⟩;cases y with
 |one x=>exact kmapB x v v2
 |agg cs=>exact hagg cs v v2
 |fn f cs=>obtain⟨u,h1,h2⟩:=v2;exact⟨u,hagg cs u h1,h2⟩
 |tup ts=>
  obtain⟨vs,g1,g2,g3⟩:=v2;refine⟨vs,g1,by simpa using g2,fun j c cs hj=>?_⟩;rw[az]at hj;obtain⟨z,hz,hzz⟩:=Option.map_eq_some_iff.1 hj;obtain⟨c',cs'⟩:=z;simp at hzz;obtain⟨rfl,rfl⟩:=hzz;obtain⟨u,u1,u2⟩:=g3 j c' cs' hz;refine⟨u,u1,?_⟩;rcases u2 with⟨u2,u3⟩|⟨u2,q',rfl,u4⟩
  ·exact .inl ⟨u2,hagg _ _ u3⟩
  exact .inr ⟨u2,_,rfl,kmapB _ _ u4⟩
theorem rO {P:Program} {c:Code} {Q:Exit->AS->Prop} {s:AS} (d:Nat) {ty:TypeId} {cs:List PV} (hd:s.H d=[⟨ty,cs.length,[cs.map AV.p]⟩])
  (h: ∀b,gP P b ty c (fun e s' cs'=>s'.H d=[]/\Q e ⟨s'.tmps.map (Br d b),aJ s'.H d [⟨ty,cs'.length,[cs'.map AV.p]⟩]⟩) ⟨s.tmps.map (uR d b),aJ s.H d []⟩ cs):bu P c Q s:=fun w0 O X a w r=>by
 obtain⟨b,h1,h2,h3⟩:=zw d hd r;exact wp_mono (h b _ _ _ _ _ h3) fun e a' w' ⟨s',cs',⟨hq1,hq2⟩,hr⟩=>⟨_,hq2,yK h1 h2 hq1 hr⟩
end
section
def Tc (Q:Exit->AS->Prop):Exit->AS->Prop
 | .goto _,_=>False
 |e,s=>Q e s
section
variable {P:Program} {s:AS} {Q:Exit->AS->Prop}
theorem EL {c:Code} (h:bu P c (Tc Q) s):bu P (.scope c) Q s:=fun _ _ _ _ _ r=>
 wp_scope_straight (wp_mono (h _ _ _ _ _ r) fun e a w ⟨s',h1,h2⟩=>by
  cases e<;>first|exact⟨s',h1,h2⟩|exact h1.elim)
theorem EJ {l:Nat} (h:Q .normal s):bu P (.label l) Q s:=fun _ _ _ _ _ r=>wp_label ⟨s,h,r⟩
end
section
variable {P:Program} {b:Nat} {ty:TypeId} {cs:List PV} {s:AS} {Q:Exit->AS->List PV->Prop}
theorem yC {c:Code} (k d:Nat) (hk:s.tmps[k]?=some (.raw (.pointer (some ⟨b,0,none⟩)))) (hd:s.H d=[])
  (h:fK P k c (fun e s'=> ∃cs',s'.H d=[⟨ty,cs'.length,[cs'.map AV.p]⟩]/\s'.tmps[k]?=some (.one (.ptr d 0 0 0))/\Q e ⟨s'.tmps.map (uR d b),aJ s'.H d []⟩ cs') ⟨s.tmps.map (Br d b),aJ s.H d [⟨ty,cs.length,[cs.map AV.p]⟩]⟩):gP P b ty c Q s cs:=fun w0 O X a w r=>by
 have hO:O b:=by obtain⟨_,_,_,_,_,hO,_⟩:=r;exact hO
 have hX:X b:=by obtain⟨_,_,_,_,_,_,hX,_⟩:=r;exact hX
 have eO:(fun j=>O j\/j=b)=O:=by
  funext j;exact propext ⟨fun h=>h.elim id (fun e=>by rw[e];exact hO),.inl⟩
 have eX:(fun j=>(X j/\j≠b)\/j=b)=X:=by
  funext j;refine propext ⟨fun h=>h.elim (·.1) (fun e=>by rw[e];exact hX),fun h=>?_⟩;by_cases e:j=b
  ·exact .inr e
  exact .inl ⟨h,e⟩
 have hslot:a.tmps[k]?=some (.pointer (some ⟨b,0,none⟩)):=by
  obtain⟨_,_,ρ,_,htm,_⟩:=r;obtain⟨v,v1,v2⟩:=htm k _ hk;rw[v1,(bs (H:=s.H) (ρ:=ρ) v2).1]
 have r':fO b ty w0 (fun j=>O j\/j=b) (fun j=>(X j/\j≠b)\/j=b) s cs a w:=by rw[eO,eX];exact r
 have hrel:=yK (.inr hO) (fun h=>h.2 rfl) hd r';refine wp_mono (h _ _ _ _ _ _ ⟨hrel,hslot⟩) fun e a' w' ⟨s',⟨cs',q1,q2,q3⟩,hr,hs⟩=>?_
 obtain⟨b',g1,g2,g3⟩:=zw d q1 hr;have hb:b'=b:=by
  obtain⟨_,_,ρ,_,htm,_⟩:=id g3;obtain⟨v,v1,v2⟩:=htm k (.raw (.pointer (some ⟨b',0,none⟩))) (by
   show(s'.tmps.map (uR d b'))[k]?=_;rw[az,q2];simp[uR,lS])
  rw[hs]at v1;injection v1 with v1
  have:=(bs v2).1;rw[<- v1]at this;injection this with this
  injection this with this
  injection this with this
  exact this.symm
 subst hb;rw[eO,eX]at g3;exact⟨_,cs',q3,g3⟩
end
end
theorem Pz {s:AS} {w0 w:World} {O X:Nat->Prop} {ρ:Rho} {act:Act} (a:Nat) (hok:rc s.H a) (hinv:Inv w0 O X s.H ρ w) (htm:bq X ρ s act w):Inv w0 O X (aJ s.H a []) ρ w/\bq X ρ ⟨s.tmps.map (eZ s.H a),aJ s.H a []⟩ act w:=by
 have hna: ∀(x y:Nat) o,(aJ s.H a [] x)[y]?=some o->x≠a/\(s.H x)[y]?=some o:=fun x y o ho=>by
  by_cases hx:x=a
  ·subst hx;rw[aX]at ho;simp at ho
  rw[aN hx]at ho;exact⟨hx,ho⟩
 have hXo: ∀b,Xo X ρ (aJ s.H a []) b->Xo X ρ s.H b:=fun b hb=>by
  rcases hb with hb|⟨x,y,o,n,g1,g2⟩
  ·exact .inl hb
  exact .inr ⟨x,y,o,n,(hna x y o g1).2,g2⟩
 have hZb: ∀(r:Nat) o,(s.H a)[r]?=some o-> ∀b c,ρ a r=some (b,c)-> ¬Xo X ρ (aJ s.H a []) b:=fun r o ho b c hr hX=>by
  rcases hX with hX|⟨x,y,o',n,g1,g2⟩
  ·exact(hinv.old a r o b c ho hr).2 hX
  obtain⟨hx,g1'⟩:=hna x y o' g1;exact hx (hinv.inj x y a r o' o b n c g1' ho g2 hr).1
 have hpure: ∀x u,isPure x=true->AV.rel ρ s.H (Xo X ρ s.H) w x u->bX (Xo X ρ (aJ s.H a [])) w (ri x) u:=fun x u hp h=>by
  cases x<;>first|exact bX.weaken (fun b _ hb=>hXo b hb) h|cases hp
 have hcell: ∀(r:Nat) o,(s.H a)[r]?=some o-> ∀e∈o.elems,∀x∈e,∀u,AV.rel ρ s.H (Xo X ρ s.H) w x u->bX (Xo X ρ (aJ s.H a [])) w (kV s.H a x) u:=fun r o ho e he x hx u hu=>by
  rcases hok r o ho e he x hx with hp|⟨r',off,len,o',rfl,ho',hpr⟩
  ·have:=hpure x u hp hu;cases x<;>first|exact this|cases hp
  simp only[kV,ho'];exact mB (hinv.objs a r' o' ho') ho' (fun e he y hy u hu=>hpure y u (hpr e he y hy) hu) (hZb r' o' ho') hu
 have hmap: ∀x v,AV.rel ρ s.H (Xo X ρ s.H) w x v->AV.rel ρ (aJ s.H a []) (Xo X ρ (aJ s.H a [])) w (dI s.H a x) v:=fo (zC s.H a) fun x v hn h=>by
  cases x with
  |fn=>cases hn
  |p x=>exact bX.weaken (fun b _ hb=>hXo b hb) h
  |sl b r off len=>
   simp only[dI];by_cases hb:b=a
   ·subst hb;rw[if_pos rfl];have h':=h;obtain⟨o,g1,g2,g3⟩:=h;rw[g1];exact mB (hinv.objs b r o g1) g1 (hcell r o g1) (hZb r o g1) h'
   rw[if_neg hb];obtain⟨o,g1,g2⟩:=h;exact⟨o,by rw[aN hb];exact g1,g2⟩
  |ptr b r i j=>
   simp only[dI];by_cases hb:b=a
   ·subst hb;rw[if_pos rfl];trivial
   rw[if_neg hb];obtain⟨o,b',c,g1,g2⟩:=h;exact⟨o,b',c,by rw[aN hb];exact g1,g2⟩
  |junk=>trivial
 have hagg: ∀cs v,bJ ρ s.H (Xo X ρ s.H) w cs v->bJ ρ (aJ s.H a []) (Xo X ρ (aJ s.H a [])) w (cs.map (dI s.H a)) v:=fun cs v h=>by
  obtain⟨vs,g1,g2,g3⟩:=h;refine⟨vs,g1,by simpa using g2,fun j x hx=>?_⟩;rw[az]at hx;obtain⟨y,hy,rfl⟩:=Option.map_eq_some_iff.1 hx;obtain⟨u,u1,u2,u3⟩:=g3 j y hy;exact⟨u,u1,u2,hmap y u u3⟩
 refine⟨⟨hinv.keep,fun x y o ho=>?_,fun x y x' y' o o' b c c' ho ho'=>hinv.inj x y x' y' o o' b c c' (hna x y o ho).2 (hna x' y' o' ho').2,fun x y o b c ho=>hinv.old x y o b c (hna x y o ho).2,hinv.bar,fun x y o ho=>hinv.self x y o (hna x y o ho).2⟩,fun t x hx=>?_⟩
 ·obtain⟨hx,ho'⟩:=hna x y o ho;obtain⟨q1,q2,q3⟩:=hinv.objs x y o ho';refine⟨q1,q2,?_⟩;cases hr:ρ x y with
  |none=>rw[hr]at q3;exact q3
  |some bc=>
   obtain⟨b,c⟩:=bc;rw[hr]at q3;obtain⟨cells,p1,p2,p3,p4,p5⟩:=q3;refine⟨cells,p1,p2,p3,p4,fun i e j z he hz=>?_⟩;obtain⟨u,u1,u2,u3⟩:=p5 i e j z he hz;have hs:=hinv.self x y o ho' e (ax he) z (ax hz);have:=hmap z u u3;refine⟨u,u1,u2,?_⟩;cases z with
   |sl z _ _ _=>have hs:z=x:=hs;subst hs;simpa[dI,hx] using this
   |ptr z _ _ _=>have hs:z=x:=hs;subst hs;simpa[dI,hx] using this
   |fn _ z _=>have hs:z=x:=hs.1;subst hs;simpa[dI,hx] using this
   |p z=>exact this
   |junk=>trivial
 simp only[az]at hx;obtain⟨y,hy,rfl⟩:=Option.map_eq_some_iff.1 hx;obtain⟨v,v1,v2⟩:=htm t y hy;refine⟨v,v1,?_⟩;cases y with
 |one x=>exact hmap x v v2
 |agg cs=>exact hagg cs v v2
 |fn f cs=>obtain⟨u,h1,h2⟩:=v2;exact⟨u,hagg cs u h1,h2⟩
 |tup ts=>
  obtain⟨vs,g1,g2,g3⟩:=v2;refine⟨vs,g1,by simpa using g2,fun j b cs hj=>?_⟩;rw[az]at hj;obtain⟨z,hz,hzz⟩:=Option.map_eq_some_iff.1 hj;obtain⟨b',cs'⟩:=z;simp at hzz;obtain⟨rfl,rfl⟩:=hzz;obtain⟨u,u1,u2⟩:=g3 j b' cs' hz;refine⟨u,u1,?_⟩;rcases u2 with⟨u2,u3⟩|⟨u2,q,rfl,u4⟩
  ·exact .inl ⟨u2,hagg _ _ u3⟩
  exact .inr ⟨u2,_,rfl,hmap q u u4⟩
theorem nS {s:AS} (a k:Nat) {ty:TypeId} {es:Nat} {cs:List PV} (hH:s.H a=[⟨ty,es,[cs.map AV.p]⟩]) (hk:s.tmps[k]?=some (.one (.ptr a 0 0 0))):bW s ⟨(s.tmps.map (eZ s.H a)).set k (.one (.p (.ptr cs))),aJ s.H a []⟩:=by
 rintro w0 O X act w ⟨h1,hsz,ρ,hinv,htm⟩;have htm:bq X ρ s act w:=htm;have hrow:(s.H a)[0]?=some ⟨ty,es,[cs.map AV.p]⟩:=by rw[hH];rfl
 have hok:rc s.H a:=fun r o ho e he x hx=>by
  rw[hH]at ho;cases r with
  |succ r=>simp at ho
  |zero=>
   simp at ho;subst ho;simp at he;subst he;obtain⟨y,_,rfl⟩:=List.mem_map.1 hx;exact .inl rfl
 obtain⟨hinv',htm'⟩:=Pz a hok hinv htm;refine⟨h1,by simpa using hsz,ρ,hinv',fun t x hx=>?_⟩;by_cases e:t=k
 ·subst e;simp only at hx;have hlt:=(List.getElem?_eq_some_iff.1 hk).1;rw[List.getElem?_set_self (by simpa using hlt)]at hx;injection hx with hx
  subst hx;obtain⟨v,v1,o,b,c,g1,g2,g3,rfl⟩:=htm t _ hk;rw[hrow]at g1;injection g1 with g1
  subst g1;refine⟨_,v1,?_⟩;obtain⟨q1,q2,q3⟩:=hinv.objs a 0 _ hrow;rw[g2]at q3;obtain⟨cells,p1,p2,p3,p4,p5⟩:=q3;have hXo: ∀b,Xo X ρ (aJ s.H a []) b->Xo X ρ s.H b:=fun b hb=>by
   rcases hb with hb|⟨x,y,o,n,g1,g2⟩
   ·exact .inl hb
   by_cases hx:x=a
   ·subst hx;rw[aX]at g1;simp at g1
   rw[aN hx]at g1;exact .inr ⟨x,y,o,n,g1,g2⟩
  have hnb: ¬Xo X ρ (aJ s.H a []) b:=fun hX=>by
   rcases hX with hX|⟨x,y,o',n,g1,g3⟩
   ·exact(hinv.old a 0 _ b c hrow g2).2 hX
   by_cases hx:x=a
   ·subst hx;rw[aX]at g1;simp at g1
   rw[aN hx]at g1;exact hx (hinv.inj x y a 0 o' _ b n c g1 hrow g3 g2).1
  show bX _ w (.ptr cs) _;rw[show(0:Nat)*(⟨ty,es,[cs.map AV.p]⟩:OObj).es+0=0 by simp];have hkey: ∀(j:Nat) x,cs[j]?=some x-> ∃u:Value,cells[j]?=some u/\bX (Xo X ρ (aJ s.H a [])) w x u:=fun j x hx=>by
   obtain⟨u,u1,u2,u3⟩:=p5 0 (cs.map AV.p) j (.p x) rfl (by rw[az,hx];rfl);refine⟨u,by simpa using u1,bX.weaken (fun b _ hb=>hXo b hb) u3⟩
  refine bX.ptr b 0 cs (fun j=>(cells[j]?).getD undef) hnb (Array.getElem?_eq_some_iff.1 p1).1 (fun j x hx=>?_) (fun j x hx=>?_)
  ·obtain⟨u,u1,u2⟩:=hkey j x hx;rw[cell_of_row _ b _ cells _ _ p1,Nat.zero_add,u1];rfl
  obtain⟨u,u1,u2⟩:=hkey j x hx;simp only[u1,Option.getD_some];exact u2
 simp only at hx;rw[List.getElem?_set_ne (Ne.symm e)]at hx;exact htm' t x hx
section
def Cp:TV->Bool
 | .one (.p _)=>true
 | .agg cs=>cs.all isPure
 | .fn _ cs=>cs.all isPure
 |_=>false
theorem Cq {ρ ρ':Rho} {H H':OH} {Y Y':Nat->Prop} {w:World} {t:TV} {v:Value} (hY: ∀b,Y' b->Y b) (hn:Cp t=true) (h:t.rel ρ H Y w v):t.rel ρ' H' Y' w v:=by
 have av: ∀x u,isPure x=true->AV.rel ρ H Y w x u->AV.rel ρ' H' Y' w x u:=fun x u hx hu=>by
  cases x with
  |p x=>exact bX.weaken (fun b _ hb=>hY b hb) hu
  |_=>cases hx
 have agg: ∀cs v,cs.all isPure=true->bJ ρ H Y w cs v->bJ ρ' H' Y' w cs v:=fun cs v hc ⟨vs,g1,g2,g3⟩=>by
  simp only[aj]at hc;exact⟨vs,g1,g2,fun j x hx=>by obtain⟨u,u1,u2,u3⟩:=g3 j x hx;exact⟨u,u1,u2,av x u (hc x (ax hx)) u3⟩⟩
 cases t with
 |one x=>
  cases x with
  |p x=>exact bX.weaken (fun b _ hb=>hY b hb) h
  |_=>cases hn
 |agg cs=>exact agg cs v hn h
 |fn f cs=>obtain⟨u,h1,h2⟩:=h;exact⟨u,agg cs u hn h1,h2⟩
 |tup ts=>cases hn
def l4 (k:Nat):Nat->List TV->Bool
 |_,[]=>true
 |i,t::l=>(i==k||Cp t)&&l4 k (i+1) l
theorem qO {k:Nat}: ∀{l:List TV} {i j:Nat} {t:TV},l4 k i l=true->i+j≠k->l[j]?=some t->Cp t=true
 |[],_,_,_,_,_,h=>by simp at h
 |u::l,i,0,t,h,hj,ht=>by
  simp at ht;subst ht;simp only[l4,Bool.and_eq_true,Bool.or_eq_true,beq_iff_eq]at h;exact h.1.resolve_left (fun e=>hj (by rw[e,Nat.add_zero]))
 |u::l,i,j+1,t,h,hj,ht=>by
  simp only[l4,Bool.and_eq_true]at h;exact qO (i:=i+1) (j:=j) h.2 (by omega) (by simpa using ht)
def famB (F:List OObj) (ρ:Rho):Nat->Prop:=fun j=> ∃(r:Nat) (o:OObj) (c:Nat),F[r]?=some o/\ρ 0 r=some (j,c)
theorem Cf {ρ ρ':Rho} {H H':OH} {Y Y':Nat->Prop} {w:World} {r:TV} {v:Value} (hY: ∀j,j<w.heap.size->Y' j->Y j) (hn:noRefTV r=true) (h:r.rel ρ H Y w v):r.rel ρ' H' Y' w v:=by
 have av: ∀x u,dZ x=true->AV.rel ρ H Y w x u->AV.rel ρ' H' Y' w x u:=fun x u hx hu=>by
  cases x with
  |p x=>exact bX.weaken hY hu
  |junk=>trivial
  |_=>cases hx
 have agg: ∀cs v,cs.all dZ=true->bJ ρ H Y w cs v->bJ ρ' H' Y' w cs v:=fun cs v hc ⟨vs,g1,g2,g3⟩=>by
  simp only[aj]at hc;exact⟨vs,g1,g2,fun j x hx=>by obtain⟨u,u1,u2,u3⟩:=g3 j x hx;exact⟨u,u1,u2,av x u (hc x (ax hx)) u3⟩⟩
 cases r with
 |one x=>exact av x v hn h
 |agg cs=>exact agg cs v hn h
 |fn f cs=>obtain⟨u,h1,h2⟩:=h;exact⟨u,agg cs u hn h1,h2⟩
 |tup ts=>
  simp only[noRefTV,aj]at hn;obtain⟨vs,g1,g2,g3⟩:=h;refine⟨vs,g1,g2,fun j c cs hj=>?_⟩;obtain⟨u,u1,u2⟩:=g3 j c cs hj;have hall:=hn (c,cs) (ax hj);refine⟨u,u1,?_⟩;rcases u2 with⟨u2,u3⟩|⟨u2,x,rfl,u4⟩
  ·exact .inl ⟨u2,agg _ _ (List.all_eq_true.2 hall) u3⟩
  exact .inr ⟨u2,x,rfl,av x u (hall x (by simp)) u4⟩
section
variable {P:Program} {s:AS} {a:Act} {w0 w:World} {O X:Nat->Prop}
end
end
section
section
variable {ρ ρ':Rho} {H H':OH} {Y Y':Nat->Prop} {w w':World} {d:Nat}
theorem F9 {t:TV} {v:Value} (hs:selfTV 0 t) (h:t.rel ρ H Y w v) (k: ∀x v,bG 0 x->AV.rel ρ H Y w x v->AV.rel ρ' H' Y' w' (cb d x) v):(renTV d t).rel ρ' H' Y' w' v:=by
 have agg: ∀cs v,(∀x∈cs,bG 0 x)->bJ ρ H Y w cs v->bJ ρ' H' Y' w' (cs.map (cb d)) v:=fun cs v hc ⟨vs,g1,g2,g3⟩=>by
  refine⟨vs,g1,by simpa using g2,fun j x hx=>?_⟩;rw[az]at hx;obtain⟨y,hy,rfl⟩:=Option.map_eq_some_iff.1 hx;obtain⟨u,u1,u2,u3⟩:=g3 j y hy;exact⟨u,u1,u2,k y u (hc y (ax hy)) u3⟩
 cases t with
 |one x=>exact k x v hs h
 |agg cs=>exact agg cs v hs h
 |fn f cs=>obtain⟨u,h1,h2⟩:=h;exact⟨u,agg cs u hs h1,h2⟩
 |tup ts=>
  obtain⟨vs,g1,g2,g3⟩:=h;refine⟨vs,g1,by simpa using g2,fun j c cs hj=>?_⟩;rw[az]at hj;obtain⟨⟨c',cs'⟩,hy,e⟩:=Option.map_eq_some_iff.1 hj;simp at e;obtain⟨rfl,rfl⟩:=e;obtain⟨u,u1,u2⟩:=g3 j c' cs' hy;have hsc: ∀x∈cs',bG 0 x:=hs (c',cs') (ax hy);refine⟨u,u1,?_⟩;rcases u2 with⟨u2,u3⟩|⟨u2,x,rfl,u4⟩
  ·exact .inl ⟨u2,agg _ _ hsc u3⟩
  exact .inr ⟨u2,_,rfl,k x u (hsc x (by simp)) u4⟩
theorem Cs {t:TV} {v:Value} (hs:selfTV 0 t) (h:(renTV d t).rel ρ H Y w v) (k: ∀x v,bG 0 x->AV.rel ρ H Y w (cb d x) v->AV.rel ρ' H' Y' w' x v):t.rel ρ' H' Y' w' v:=by
 have agg: ∀cs v,(∀x∈cs,bG 0 x)->bJ ρ H Y w (cs.map (cb d)) v->bJ ρ' H' Y' w' cs v:=fun cs v hc ⟨vs,g1,g2,g3⟩=>by
  refine⟨vs,g1,by simpa using g2,fun j x hx=>?_⟩;obtain⟨u,u1,u2,u3⟩:=g3 j (cb d x) (by rw[az,hx];rfl);exact⟨u,u1,u2,k x u (hc x (ax hx)) u3⟩
 cases t with
 |one x=>exact k x v hs h
 |agg cs=>exact agg cs v hs h
 |fn f cs=>obtain⟨u,h1,h2⟩:=h;exact⟨u,agg cs u hs h1,h2⟩
 |tup ts=>
  obtain⟨vs,g1,g2,g3⟩:=h;refine⟨vs,g1,by simpa using g2,fun j c cs hj=>?_⟩;obtain⟨u,u1,u2⟩:=g3 j c (cs.map (cb d)) (by rw[az,hj];rfl);have hsc: ∀x∈cs,bG 0 x:=hs (c,cs) (ax hj);refine⟨u,u1,?_⟩;rcases u2 with⟨u2,u3⟩|⟨u2,x,e,u4⟩
  ·exact .inl ⟨u2,agg _ _ hsc u3⟩
  cases cs with
  |nil=>cases e
  |cons y l=>
   simp at e;obtain⟨rfl,rfl⟩:=e;exact .inr ⟨u2,y,rfl,k y u (hsc y (by simp)) u4⟩
end
structure Df (P:Program) (f:FuncId) (args:List TV) (F F':List OObj) (r:TV):Prop where
 able:callable P f=true
 sA: ∀t∈args,selfTV 0 t
 sR:selfTV 0 r
 sF: ∀o∈F,selfO 0 o
 sF': ∀o∈F',selfO 0 o
 calls: ∀(X:Nat->Prop) (w:World) (vs:Array Value) (ρ:Rho),Inv w (famB F ρ) X (famH 0 F) ρ w->vs.size=args.length->
  (∀(j:Nat) t,args[j]?=some t-> ∃v:Value,vs[j]?=some v/\t.rel ρ (famH 0 F) (Xo X ρ (famH 0 F)) w v)->
  Calls P f vs w fun e w'=> ∃v,e= .returned v/\ ∃ρ':Rho,Inv w (famB F ρ) X (famH 0 F') ρ' w'/\r.rel ρ' (famH 0 F') (Xo X ρ' (famH 0 F')) w' v
def Rg (P:Program) (fn:Func) (F':List OObj) (r:TV) (s:AS):Prop:=s.H=famH 0 F'/\qc P s fn.results.toList=some r
theorem Df.toC {P:Program} {f:FuncId} {args:List TV} {F':List OObj} {r:TV} {k:Nat} {ty:TypeId} {es:Nat} (h:Df P f args [⟨ty,es,[]⟩] F' r) (he:0<es) (hk:args[k]?=some (.one (.sl 0 0 0 0))) (hp:l4 k 0 args=true):
  CallC P f (args.set k (.one (.p (.raw (.slice none 0 0))))) ⟨F',r⟩:=by
 refine⟨h.able,fun X w vs hX hvs ha=>?_⟩;have e0:famB [⟨ty,es,[]⟩] (fun _ _=>none)=fun _=>False:=by
  funext j;apply propext;constructor
  ·rintro⟨_,_,_,_,h⟩;cases h
  intro h;exact h.elim
 have eX:Xo X (fun _ _=>none) (famH 0 [⟨ty,es,[]⟩])=X:=by
  funext j;apply propext;constructor
  ·rintro(h|⟨_,_,_,_,_,h⟩)
   ·exact h
   cases h
  exact .inl
 have hl:=(List.getElem?_eq_some_iff.1 hk).1;have:=h.calls X w vs (fun _ _=>none) ⟨Keep.refl w,fun a r o ho=>?_,fun a r a' r' o o' b c c' _ _ h1=>(by cases h1),fun a r o b c _ h1=>(by cases h1),hX,fun a r o ho=>?_⟩ (by simpa using hvs) (fun j t ht=>?_)
 ·rw[e0]at this;exact this
 ·obtain⟨rfl,rfl,rfl⟩:=ox ho;exact⟨fun e he=>(by cases he),he,rfl⟩
 ·obtain⟨rfl,rfl,rfl⟩:=ox ho;exact fun e he=>by cases he
 rw[eX];by_cases hj:j=k
 ·subst hj;obtain⟨v,v1,v2⟩:=ha j _ (List.getElem?_set_self hl);rw[hk]at ht;injection ht with ht
  subst ht;have:=(bs (ρ:=fun _ _=>none) (H:=fun _=>[]) v2).1;exact⟨v,v1,_,rfl,by simp,.inl ⟨rfl,this,rfl,rfl⟩⟩
 obtain⟨v,v1,v2⟩:=ha j t (by rw[List.getElem?_set_ne (Ne.symm hj)];exact ht);exact⟨v,v1,Cq (fun _ h=>h) (qO (i:=0) hp (by omega) ht) v2⟩
def kF (fa:Nat):Nat->Nat->Bool:=fun x _=>x==fa
section
variable {P:Program} {s:AS} {a:Act} {w0 w:World} {O X:Nat->Prop}
theorem vD {B:Nat->Prop} {ρ:Rho} (h1:a.defers=[]) (hsz:a.tmps.size=s.tmps.length) (hinv:Inv w0 O X s.H ρ w) (htm:bq X ρ s a w) (hB: ∀j,B j->O j/\X j) {fa:Nat} {F F':List OObj} {r:TV} (sR:selfTV 0 r) (hself: ∀o∈F,selfO 0 o) (hself': ∀o∈F',selfO 0 o) (hfa:fa<=4999) (hfam:s.H fa=F.map (renO fa)):
  ∃(X1:Nat->Prop) (ρ0:Rho),Inv w (fun j=>famB F ρ0 j\/B j) X1 (famH 0 F) ρ0 w/\(∀j,B j->X1 j)/\
   (∀t v,selfTV 0 t->(renTV fa t).rel ρ s.H (Xo X ρ s.H) w v->t.rel ρ0 (famH 0 F) (Xo X1 ρ0 (famH 0 F)) w v)/\
   (∀j,famB F ρ0 j-> ∃(y:Nat) (o:OObj) (c:Nat),(s.H fa)[y]?=some o/\ρ fa y=some (j,c))/\
   (∀y,ρ0 0 y=ρ fa y)/\
   ∀v w1 ρ',Inv w (fun j=>famB F ρ0 j\/B j) X1 (famH 0 F') ρ' w1->r.rel ρ' (famH 0 F') (Xo X1 ρ' (famH 0 F')) w1 v-> ∃ρ1:Rho,(∀y,ρ1 fa y=ρ' 0 y)/\Inv w0 O X (aJ s.H fa (F'.map (renO fa))) ρ1 w1/\(∀x v,AV.rel ρ s.H (Xo X ρ s.H) w x v->AV.rel ρ1 (aJ s.H fa (F'.map (renO fa))) (Xo X ρ1 (aJ s.H fa (F'.map (renO fa)))) w1 (a6 (kF fa) x) v)/\(renTV fa r).rel ρ1 (aJ s.H fa (F'.map (renO fa))) (Xo X ρ1 (aJ s.H fa (F'.map (renO fa)))) w1 v:=by
 have hF: ∀(y:Nat) o',(s.H fa)[y]?=some o'↔ ∃o,F[y]?=some o/\o'=renO fa o:=fun y o'=>by
  rw[hfam,az];constructor
  ·intro h;obtain⟨o,g1,g2⟩:=Option.map_eq_some_iff.1 h;exact⟨o,g1,g2.symm⟩
  rintro⟨o,g1,rfl⟩;rw[g1];rfl
 let ρ0:Rho:=fun x y=>if x=0 then ρ fa y else none
 have hρ0: ∀y,ρ0 0 y=ρ fa y:=fun y=>if_pos rfl
 let own:Nat->Prop:=famB F ρ0
 have hown: ∀j,own j↔ ∃(y:Nat) (o':OObj) (c':Nat),(s.H fa)[y]?=some o'/\ρ fa y=some (j,c'):=fun j=>by
  constructor
  ·rintro⟨y,o,c',g1,g2⟩;exact⟨y,_,c',(hF y _).2 ⟨o,g1,rfl⟩,by rw[<- hρ0];exact g2⟩
  rintro⟨y,o',c',g1,g2⟩;obtain⟨o,g3,_⟩:=(hF y o').1 g1;exact⟨y,o,c',g3,by rw[hρ0];exact g2⟩
 have hownX: ∀j,own j->Xo X ρ s.H j:=fun j hj=>by
  obtain⟨y,o',c',g1,g2⟩:=(hown j).1 hj;exact .inr ⟨fa,y,o',c',g1,g2⟩
 let X1:Nat->Prop:=fun j=>Xo X ρ s.H j/\ ¬own j
 have hXlt: ∀j,Xo X ρ s.H j->j<w.heap.size:=fun b hb=>by
  rcases hb with hb|⟨x,y,o',n,g1,g2⟩
  ·exact hinv.bar b hb
  exact bO (hinv.objs x y o' g1) g2
 have hset:Xo X1 ρ0 (famH 0 F)=Xo X ρ s.H:=by
  funext j;apply propext;constructor
  ·rintro(h|⟨x,y,o',c',g1,g2⟩)
   ·exact h.1
   have hx0:x=0:=by
    by_cases h:x=0
    ·exact h
    simp[famH,h]at g1
   subst hx0;exact hownX j ⟨y,o',c',by simpa[famH] using g1,g2⟩
  intro h;by_cases hj:own j
  ·obtain⟨y,o',c',g1,g2⟩:=hj;exact .inr ⟨0,y,o',c',by simpa[famH] using g1,g2⟩
  exact .inl ⟨h,hj⟩
 have f0: ∀(x y:Nat) o',(famH 0 F x)[y]?=some o'->x=0/\F[y]?=some o':=fun x y o' h=>by
  by_cases hx:x=0
  ·subst hx;exact⟨rfl,by simpa[famH] using h⟩
  simp[famH,hx]at h
 have back0: ∀x v,bG 0 x->AV.rel ρ s.H (Xo X ρ s.H) w (cb fa x) v->AV.rel ρ0 (famH 0 F) (Xo X ρ s.H) w x v:=EY fun x v hn hs h=>by
  cases x with
  |fn=>cases hn
  |p x=>exact h
  |junk=>trivial
  |sl z y off len=>
   have hs:z=0:=hs;subst hs;obtain⟨o',g1,g2,g3⟩:=h;obtain⟨o2,g4,rfl⟩:=(hF y o').1 g1;exact⟨o2,by simpa[famH] using g4,by simpa[renO] using g2,ma hfa g3 (hρ0 y)⟩
  |ptr z y i j=>
   have hs:z=0:=hs;subst hs;obtain⟨o',b',c',g1,g2,g3,g5⟩:=h;obtain⟨o2,g4,rfl⟩:=(hF y o').1 g1;exact⟨o2,b',c',by simpa[famH] using g4,by rw[hρ0];exact g2,by simpa[renO] using g3,g5⟩
 have hBX1: ∀j,B j->X1 j:=fun j hj=>⟨.inl (hB j hj).2,fun⟨y,o',c',g1,g2⟩=>(hinv.old fa y _ j c' ((hF y _).2 ⟨o',g1,rfl⟩) (by rw[<- hρ0];exact g2)).2 (hB j hj).2⟩
 have hinv0:Inv w (fun j=>own j\/B j) X1 (famH 0 F) ρ0 w:=by
  refine⟨Keep.refl w,fun x y o' ho'=>?_,fun x y x' y' o1 o2 j c1 c2 ho1 ho2 q1 q2=>?_,fun x y o' j c' ho' q=>?_,fun j hj=>hXlt j hj.1,fun x y o' ho'=>?_⟩
  ·obtain⟨rfl,ho'⟩:=f0 x y o' ho';rw[hset];obtain⟨z1,z2,z3⟩:=hinv.objs fa y (renO fa o') ((hF y _).2 ⟨o',ho',rfl⟩);refine⟨fun e he=>?_,z2,?_⟩
   ·have:=z1 (e.map (cb fa)) (by simp only[renO,am];exact⟨e,he,rfl⟩);simpa[renO] using this
   rw[hρ0];cases hr:ρ fa y with
   |none=>rw[hr]at z3;simpa[renO] using z3
   |some bc=>
    obtain⟨b',c'⟩:=bc;rw[hr]at z3;obtain⟨cells,p1,p2,p3,p4,p5⟩:=z3;refine⟨cells,p1,p2,by simpa[renO] using p3,p4,fun i e j z he hz=>?_⟩;obtain⟨u,u1,u2,u3⟩:=p5 i (e.map (cb fa)) j (cb fa z) (by simp[renO,he]) (by rw[az,hz];rfl);exact⟨u,u1,u2,back0 z u (hself o' (ax ho') e (ax he) z (ax hz)) u3⟩
  ·obtain⟨rfl,ho1⟩:=f0 x y o1 ho1;obtain⟨rfl,ho2⟩:=f0 x' y' o2 ho2;exact⟨rfl,(hinv.inj fa y fa y' _ _ j c1 c2 ((hF y _).2 ⟨o1,ho1,rfl⟩) ((hF y' _).2 ⟨o2,ho2,rfl⟩) (by rw[<- hρ0];exact q1) (by rw[<- hρ0];exact q2)).2⟩
  ·obtain⟨rfl,ho'⟩:=f0 x y o' ho';have ho2:own j:=⟨y,o',c',ho',q⟩;exact⟨.inr (.inl ho2),fun h=>h.2 ho2⟩
  obtain⟨rfl,ho'⟩:=f0 x y o' ho';exact hself o' (ax ho')
 refine⟨X1,ρ0,hinv0,hBX1,fun t v hs h=>?_,fun j hj=>(hown j).1 hj,hρ0,?_⟩
 ·rw[hset];exact Cs hs h back0
 intro v w1 ρ' hi hr1;have f1: ∀(x y:Nat) o',(famH 0 F' x)[y]?=some o'->x=0/\F'[y]?=some o':=fun x y o' h=>by
  by_cases hx:x=0
  ·subst hx;exact⟨rfl,by simpa[famH] using h⟩
  simp[famH,hx]at h
 generalize hH1:aJ s.H fa (F'.map (renO fa))=H1;generalize hρ1e:(fun x y=>if x=fa then ρ' 0 y else ρ x y:Rho)=ρ1;have hHf:H1 fa=F'.map (renO fa):=by rw[<- hH1];exact aX
 have hHn: ∀x,x≠fa->H1 x=s.H x:=fun x h=>by rw[<- hH1];exact aN h
 have hρf: ∀y,ρ1 fa y=ρ' 0 y:=fun y=>by rw[<- hρ1e];exact if_pos rfl
 have hρn: ∀x y,x≠fa->ρ1 x y=ρ x y:=fun x y h=>by rw[<- hρ1e];exact if_neg h
 have hF1: ∀(y:Nat) o',(H1 fa)[y]?=some o'↔ ∃o,F'[y]?=some o/\o'=renO fa o:=fun y o'=>by
  rw[hHf,az];constructor
  ·intro h;obtain⟨o,g1,g2⟩:=Option.map_eq_some_iff.1 h;exact⟨o,g1,g2.symm⟩
  rintro⟨o,g1,rfl⟩;rw[g1];rfl
 have hblk: ∀j,j<w.heap.size-> ¬own j-> ¬B j->w1.heap[j]?=w.heap[j]?:=fun j hj hno hnb=>hi.keep.block j hj fun h=>h.elim hno hnb
 have hnew: ∀(y:Nat) o' j c',F'[y]?=some o'->ρ' 0 y=some (j,c')->(w.heap.size<=j\/own j)/\ ¬X1 j:=fun y o' j c' g1 g2=>by
  obtain⟨k1,k2⟩:=hi.old 0 y o' j c' (by simpa[famH] using g1) g2;exact⟨k1.imp_right fun h=>h.resolve_right fun hb=>k2 (hBX1 j hb),k2⟩
 have hXn: ∀j,j<w.heap.size->Xo X ρ1 H1 j->Xo X ρ s.H j:=fun j hj h=>by
  rcases h with h|⟨x,y,o',c',g1,g2⟩
  ·exact .inl h
  by_cases hx:x=fa
  ·subst hx;obtain⟨o2,g3,_⟩:=(hF1 y o').1 g1;rw[hρf]at g2;rcases(hnew y o2 j c' g3 g2).1 with g|g
   ·omega
   exact hownX j g
  rw[hHn x hx]at g1;rw[hρn x y hx]at g2;exact .inr ⟨x,y,o',c',g1,g2⟩
 have monop: ∀x v,bX (Xo X ρ s.H) w x v->bX (Xo X ρ1 H1) w1 x v:=fun x v h=>bX.later (fun j hj hx=>hXn j hj hx) hi.keep.size (fun p v hp hno hc=>by
  rw[<- hc];exact iK (hblk p.block hp (fun h=>hno (hownX _ h)) fun h=>hno (.inl (hB _ h).2))) h
 -- what the call says of the family, told of number fa
 have hset1: ∀j,j<w1.heap.size->Xo X ρ1 H1 j->Xo X1 ρ' (famH 0 F') j:=fun j _ h=>by
  rcases h with h|⟨x,y,o',c',g1,g2⟩
  ·have hj:=hinv.bar j h;by_cases ho2:own j
   ·obtain⟨y,o',c',g1,g2⟩:=(hown j).1 ho2;exact absurd h (hinv.old fa y o' j c' g1 g2).2
   exact .inl ⟨.inl h,ho2⟩
  by_cases hx:x=fa
  ·subst hx;obtain⟨o2,g3,_⟩:=(hF1 y o').1 g1;rw[hρf]at g2;exact .inr ⟨0,y,o2,c',by simpa[famH] using g3,g2⟩
  rw[hHn x hx]at g1;rw[hρn x y hx]at g2;by_cases ho2:own j
  ·obtain⟨y',o2,c2,k1,k2⟩:=(hown j).1 ho2;exact absurd (hinv.inj x y fa y' o' o2 j c' c2 g1 k1 g2 k2).1 hx
  exact .inl ⟨.inr ⟨x,y,o',c',g1,g2⟩,ho2⟩
 have fwd: ∀x v,bG 0 x->AV.rel ρ' (famH 0 F') (Xo X1 ρ' (famH 0 F')) w1 x v->AV.rel ρ1 H1 (Xo X ρ1 H1) w1 (cb fa x) v:=iW (c:=bG 0) (fun _ _ _ _ _ _ h=>h.1) (mv fa) fun x v hn hs h=>by
  cases x with
  |fn=>cases hn
  |p x=>exact bX.weaken (fun j hj hx=>hset1 j hj hx) h
  |junk=>trivial
  |sl z y off len=>
   have hs:z=0:=hs;subst hs;obtain⟨o',g1,g2,g3⟩:=h;obtain⟨_,g1⟩:=f1 0 y o' g1;exact⟨renO fa o',(hF1 y _).2 ⟨o',g1,rfl⟩,by simpa[renO] using g2,ma (by decide) g3 (hρf y)⟩
  |ptr z y i j=>
   have hs:z=0:=hs;subst hs;obtain⟨o',b',c',g1,g2,g3,g5⟩:=h;obtain⟨_,g1⟩:=f1 0 y o' g1;exact⟨renO fa o',b',c',(hF1 y _).2 ⟨o',g1,rfl⟩,by rw[hρf];exact g2,by simpa[renO] using g3,g5⟩
 have mono: ∀x v,AV.rel ρ s.H (Xo X ρ s.H) w x v->AV.rel ρ1 H1 (Xo X ρ1 H1) w1 (a6 (kF fa) x) v:=fo (nt _) fun x v hn h=>by
  cases x with
  |fn=>cases hn
  |p x=>exact monop x v h
  |junk=>trivial
  |sl z y off len=>
   obtain⟨o',g1,g2,g3⟩:=h;simp only[a6];by_cases hz:z=fa
   ·rw[if_pos (by simp[kF,hz])];trivial
   rw[if_neg (by simp[kF,hz])];exact⟨o',by rw[hHn z hz];exact g1,g2,by rw[hρn z y hz];exact g3⟩
  |ptr z y i j=>
   obtain⟨o',b',c',g1,g2,g3,g5⟩:=h;simp only[a6];by_cases hz:z=fa
   ·rw[if_pos (by simp[kF,hz])];trivial
   rw[if_neg (by simp[kF,hz])];exact⟨o',b',c',by rw[hHn z hz];exact g1,by rw[hρn z y hz];exact g2,g3,g5⟩
 have monoN: ∀(z:Nat) x v,z≠fa->bG z x->AV.rel ρ s.H (Xo X ρ s.H) w x v->AV.rel ρ1 H1 (Xo X ρ1 H1) w1 x v:=fun z x v hz hs h=>by
  have:=mono x v h;cases x with
  |sl y _ _ _=>have hs:y=z:=hs;subst hs;simpa[a6,kF,hz] using this
  |ptr y _ _ _=>have hs:y=z:=hs;subst hs;simpa[a6,kF,hz] using this
  |fn _ y _=>have hs:y=z:=hs.1;subst hs;simpa[a6,kF,hz] using this
  |p x=>exact this
  |junk=>trivial
 have hinv':Inv w0 O X H1 ρ1 w1:=by
  refine⟨⟨hi.keep.os.trans hinv.keep.os,hi.keep.tape.trans hinv.keep.tape,hi.keep.output.trans hinv.keep.output,Nat.le_trans hinv.keep.size hi.keep.size,fun j hj hno=>?_⟩,fun x y o' ho'=>?_,fun x y x' y' o1 o2 j c1 c2 ho1 ho2 q1 q2=>?_,fun x y o' j c' ho' q=>?_,fun j hj=>Nat.lt_of_lt_of_le (hinv.bar j hj) hi.keep.size,fun x y o' ho'=>?_⟩
  ·rw[hblk j (Nat.lt_of_lt_of_le hj hinv.keep.size) (fun h=>?_) (fun h=>hno (hB j h).1)]
   ·exact hinv.keep.block j hj hno
   obtain⟨y,o',c',g1,g2⟩:=(hown j).1 h;rcases(hinv.old fa y o' j c' g1 g2).1 with g|g
   ·omega
   exact hno g
  ·by_cases hx:x=fa
   ·subst hx;obtain⟨o2,g3,rfl⟩:=(hF1 y o').1 ho';obtain⟨z1,z2,z3⟩:=hi.objs 0 y o2 (by simpa[famH] using g3);refine⟨fun e he=>?_,z2,?_⟩
    ·simp only[renO,am]at he;obtain⟨e',he',rfl⟩:=he;rw[List.length_map];exact z1 e' he'
    rw[hρf];cases hr:ρ' 0 y with
    |none=>rw[hr]at z3;simp[renO,z3]
    |some bc=>
     obtain⟨b',c'⟩:=bc;rw[hr]at z3;obtain⟨cells,p1,p2,p3,p4,p5⟩:=z3;refine⟨cells,p1,p2,by simpa[renO] using p3,p4,fun i e j z he hz=>?_⟩;simp only[renO,az]at he;obtain⟨e',he',rfl⟩:=Option.map_eq_some_iff.1 he;rw[az]at hz;obtain⟨z',hz',rfl⟩:=Option.map_eq_some_iff.1 hz;obtain⟨u,u1,u2,u3⟩:=p5 i e' j z' he' hz';exact⟨u,u1,u2,fwd z' u (hself' o2 (ax g3) e' (ax he') z' (ax hz')) u3⟩
   rw[hHn x hx]at ho';have hob:=hinv.objs x y o' ho';obtain⟨z1,z2,z3⟩:=id hob;refine⟨z1,z2,?_⟩;rw[hρn x y hx];cases hr:ρ x y with
   |none=>rw[hr]at z3;exact z3
   |some bc=>
    obtain⟨b',c'⟩:=bc;rw[hr]at z3;obtain⟨cells,p1,p2,p3,p4,p5⟩:=z3;refine⟨cells,?_,p2,p3,p4,fun i e j z he hz=>?_⟩
    ·rw[hblk b' (bO hob hr) (fun h=>?_) (fun h=>(hinv.old x y o' b' c' ho' hr).2 (hB b' h).2)]
     ·exact p1
     obtain⟨y',o2,c2,k1,k2⟩:=(hown b').1 h;exact hx (hinv.inj x y fa y' o' o2 b' c' c2 ho' k1 hr k2).1
    obtain⟨u,u1,u2,u3⟩:=p5 i e j z he hz;exact⟨u,u1,u2,monoN x z u hx (hinv.self x y o' ho' e (ax he) z (ax hz)) u3⟩
  ·by_cases hx:x=fa
   ·subst hx;obtain⟨o3,g3,_⟩:=(hF1 y o1).1 ho1;rw[hρf]at q1;by_cases hx':x'=x
    ·subst hx';obtain⟨o4,g4,_⟩:=(hF1 y' o2).1 ho2;rw[hρf]at q2;exact⟨rfl,(hi.inj 0 y 0 y' o3 o4 j c1 c2 (by simpa[famH] using g3) (by simpa[famH] using g4) q1 q2).2⟩
    rw[hHn x' hx']at ho2;rw[hρn x' y' hx']at q2;exfalso;have hlt:=bO (hinv.objs x' y' o2 ho2) q2;rcases(hnew y o3 j c1 g3 q1).1 with g|g
    ·omega
    obtain⟨y3,o5,c5,k1,k2⟩:=(hown j).1 g;exact hx' (hinv.inj x' y' x y3 o2 o5 j c2 c5 ho2 k1 q2 k2).1
   rw[hHn x hx]at ho1;rw[hρn x y hx]at q1;by_cases hx':x'=fa
   ·subst hx';obtain⟨o4,g4,_⟩:=(hF1 y' o2).1 ho2;rw[hρf]at q2;exfalso;have hlt:=bO (hinv.objs x y o1 ho1) q1;rcases(hnew y' o4 j c2 g4 q2).1 with g|g
    ·omega
    obtain⟨y3,o5,c5,k1,k2⟩:=(hown j).1 g;exact hx (hinv.inj x y x' y3 o1 o5 j c1 c5 ho1 k1 q1 k2).1
   rw[hHn x' hx']at ho2;rw[hρn x' y' hx']at q2;exact hinv.inj x y x' y' o1 o2 j c1 c2 ho1 ho2 q1 q2
  ·by_cases hx:x=fa
   ·subst hx;obtain⟨o3,g3,_⟩:=(hF1 y o').1 ho';rw[hρf]at q;rcases(hnew y o3 j c' g3 q).1 with g|g
    ·refine⟨.inl (Nat.le_trans hinv.keep.size g),fun hX=>?_⟩;have:=hinv.bar j hX;omega
    obtain⟨y3,o5,c5,k1,k2⟩:=(hown j).1 g;exact hinv.old x y3 o5 j c5 k1 k2
   rw[hHn x hx]at ho';rw[hρn x y hx]at q;exact hinv.old x y o' j c' ho' q
  by_cases hx:x=fa
  ·subst hx;obtain⟨o3,g3,rfl⟩:=(hF1 y o').1 ho';intro e he z hz;simp only[renO,am]at he;obtain⟨e',he',rfl⟩:=he;simp only[am]at hz;obtain⟨z',hz',rfl⟩:=hz;exact de x z'
  rw[hHn x hx]at ho';exact hinv.self x y o' ho'
 exact⟨ρ1,hρf,hinv',mono,F9 sR hr1 fwd⟩
theorem sE {B:Nat->Prop} {ρ:Rho} (h1:a.defers=[]) (hsz:a.tmps.size=s.tmps.length) (hinv:Inv w0 O X s.H ρ w) (htm:bq X ρ s a w) (hB: ∀j,B j->O j/\X j) {fa:Nat} {F F':List OObj} {r:TV} (sR:selfTV 0 r) (hself: ∀o∈F,selfO 0 o) (hself': ∀o∈F',selfO 0 o) (hfa:fa<=4999) (hfam:s.H fa=F.map (renO fa)):
  ∃(X1:Nat->Prop) (ρ0:Rho),Inv w (fun j=>famB F ρ0 j\/B j) X1 (famH 0 F) ρ0 w/\(∀j,B j->X1 j)/\
   (∀t v,selfTV 0 t->(renTV fa t).rel ρ s.H (Xo X ρ s.H) w v->t.rel ρ0 (famH 0 F) (Xo X1 ρ0 (famH 0 F)) w v)/\
   (∀j,famB F ρ0 j-> ∃(y:Nat) (o:OObj) (c:Nat),(s.H fa)[y]?=some o/\ρ fa y=some (j,c))/\
   ∀v w1 ρ',Inv w (fun j=>famB F ρ0 j\/B j) X1 (famH 0 F') ρ' w1->r.rel ρ' (famH 0 F') (Xo X1 ρ' (famH 0 F')) w1 v-> ∀d,cW w0 O X (AS.put ⟨s.tmps.map (a7 (kF fa)),aJ s.H fa (F'.map (renO fa))⟩ d (renTV fa r)) (a.put d v) w1:=by
 obtain⟨X1,ρ0,g1,g2,g3,g4,_,g6⟩:=vD h1 hsz hinv htm hB sR hself hself' hfa hfam;refine⟨X1,ρ0,g1,g2,g3,g4,fun v w1 ρ' hi hr d=>?_⟩;obtain⟨ρ1,_,k1,k2,k3⟩:=g6 v w1 ρ' hi hr;have htm':bq X ρ1 ⟨s.tmps.map (a7 (kF fa)),aJ s.H fa (F'.map (renO fa))⟩ a w1:=fun t x hx=>by
  simp only[az]at hx;obtain⟨y,hy,rfl⟩:=Option.map_eq_some_iff.1 hx;obtain⟨u,u1,u2⟩:=htm t y hy;exact⟨u,u1,sS u2 k2⟩
 exact⟨by rw[fB];exact h1,by rw[i6,eA];simpa using hsz,ρ1,by rw[eK];exact k1,nC (s:=⟨s.tmps.map (a7 (kF fa)),aJ s.H fa (F'.map (renO fa))⟩) (by simpa using hsz) htm' k3⟩
def QW (ops:Array Oper) (m:Nat) (r:TV) (fa:Nat) (F':List OObj) (s:AS):AS:=AS.put ⟨s.tmps.map (a7 (kF fa)),aJ s.H fa (F'.map (renO fa))⟩ (jY ops m) (renTV fa r)
end
end
section
section
variable {P:Program} {k:Nat} {s s':AS} {Q:Exit->AS->Prop}
theorem l9 {n m:Nat} {p:Nat->Bool} (hm:m<=n) (h1: ∀j,j<m->p j=true) (h2: ∀j,j<n->m<=j->p j=false):i8 n p=List.range m:=by
 unfold i8;have hr:List.range n=List.range m++List.range' m (n-m):=by
  have:=List.range'_append_1 (s:=0) (m:=m) (n:=n-m);rw[show m+(n-m)=n by omega,Nat.zero_add]at this;rw[List.range_eq_range',List.range_eq_range'];exact this.symm
 rw[hr,List.filter_append,List.filter_eq_self.2 (fun j hj=>h1 j (List.mem_range.1 hj)),List.filter_eq_nil_iff.2,List.append_nil];intro j hj;have:=List.mem_range'_1.1 hj;simp[h2 j (by omega) this.1]
end
end
section
abbrev FW (ro:Option Nat):Fence:={Fence.wide with round:=ro}
section
variable {P:Program} {w0 w:World} {O X:Nat->Prop} {s s':AS} {a:Act}
theorem iF {ro:Option Nat} {n:Nat} {o:Oper} {K:Act->World->Prop} {Q:Exit->Act->World->Prop} (hd:ro=none\/ ∀c,o.op≠ .defer c) (h:o.wp P a w K Q):o.wpIn (FW ro) n P a w K Q:=by
 refine⟨fun _ _=>trivial,?_⟩;have e:Oper.semAt (FW ro).round a.eval o=execOp a.eval o:=by
  rcases hd with rfl|hd
  ·rfl
  exact Oper.semAt_eq _ _ _ hd
 rw[e];unfold Oper.wp at h;generalize(execOp a.eval o).run P w=r at h⊢;have hn:(FW ro).depth.isSome=true->1<=n:=fun h=>by simp[Fence.wide]at h
 cases r with
 |ok x w'=>
  cases x<;>simp only[Oper.upon,Oper.uponIn]at h⊢ <;>first
   |exact h
   |exact⟨hn,CallsIn.mono (callsIn_wide.2 h) (fun e w'' he=>by cases e<;>exact he)⟩
   |exact⟨hn,fun c cs _=>let ⟨v,w',r,s⟩:=h c cs;⟨v,w',r,stepsIn_wide.2 s⟩⟩
 |halt x w'=>cases x<;>simp only[Oper.upon,Oper.uponIn]at h⊢ <;>exact h
theorem kT {n:Nat} {items:List (aH P)} {ow:List Nat} {ops:Array Oper} {i:Nat} {o:Oper} {s1:AS} {Q:Exit->Act->World->Prop} {K:Act->World->Prop} (ho:ops[i]?=some o) (h:bf P (items.map aH.a) ow ops i o s=some s1) (hr:cW w0 O X s a w)
  (hK: ∀v w',cW w0 O X s1 (a.put o.dst v) w'->K (a.put o.dst v) w'):wpOpIn (FW none) n P ops Q i K a w:=by
 have h1:=gA (Q:=Q) (aH.ok items) hr h hK;unfold wpOpIn;rw[ho];simp only;split at h1
 ·rename_i hw;rw[if_pos hw];exact iF (.inl rfl) h1
 rename_i hw;rw[if_neg hw];exact⟨fun _ _=>trivial,h1⟩
theorem nG {n:Nat} {items:List (aH P)} {ow:List Nat} {ops:Array Oper} {Q:Exit->Act->World->Prop} {suf:List Nat}: ∀(l:List Oper) (k:Nat) (s s':AS) (a:Act) (w:World),(∀(j:Nat) o,l[j]?=some o->ops[k+j]?=some o)->
  eD P (items.map aH.a) ow ops (l.zipIdx k) s=some s'->cW w0 O X s a w->(∀a' w',cW w0 O X s' a' w'->wpOpsIn (FW none) n P ops Q suf a' w')->wpOpsIn (FW none) n P ops Q (List.range' k l.length++suf) a w
 |[],k,s,s',a,w,_,h,r,hQ=>by
  simp only[List.zipIdx_nil,eD]at h;injection h with h
  subst h;exact hQ a w r
 |o::l,k,s,s',a,w,hl,h,r,hQ=>by
  simp only[List.zipIdx_cons,eD]at h;split at h
  ·rename_i s1 hs1;simp only[List.length_cons,List.range'_succ,List.cons_append];rw[wpOpsIn_cons];have ho:ops[k]?=some o:=by have:=hl 0 o rfl;simpa using this
   exact kT ho hs1 r fun v w' hr=>nG l (k+1) s1 s' _ _ (fun j o hj=>by have:=hl (j+1) o (by simpa using hj);rwa[show k+(j+1)=k+1+j by omega]at this) h hr hQ
  cases h
/-! Ways to say how a state and a world stand to one another. -/
def EH (R:AS->Act->World->Prop):Prop:= ∀s a w,R s a w-> ∃(w1:World) (O1 X1:Nat->Prop),cW w1 O1 X1 s a w/\ ∀s' a' w',cW w1 O1 X1 s' a' w'->R s' a' w'
theorem zG:EH (cW w0 O X):=fun _ _ _ h=>⟨w0,O,X,h,fun _ _ _ h=>h⟩
def wJ (P:Program) (o:Oper) (R1 R2:Act->World->Prop):Prop:= ∀(a:Act) (w:World) (K:Act->World->Prop) (Q:Exit->Act->World->Prop),R1 a w->(∀v w',R2 (a.put o.dst v) w'->K (a.put o.dst v) w')->o.wpIn (FW none) 0 P a w K Q
def nR (P:Program) (ops:Array Oper) (m:Nat) (R1 R2:Act->World->Prop):Prop:= ∃o,ops[m]?=some o/\o.guard=none/\wJ P o R1 R2
theorem Ny {R1 R2:AS->Act->World->Prop} (M1:EH R1) (M2:EH R2) (m:Nat) (items:List (aH P)) (ow:List Nat) {id:Nat} {ops:Array Oper} (hm:m<ops.toList.length) {s s1 s2 s3:AS} (h1:eD P (items.map aH.a) ow ops ((ops.toList.take m).zipIdx 0) s=some s1)
  (hsp:nR P ops m (R1 s1) (R2 s2)) (h2:eD P (items.map aH.a) ow ops ((ops.toList.drop (m+1)).zipIdx (m+1)) s2=some s3) {Q:Exit->Act->World->Prop} (hr:R1 s a w) (hQ: ∀a' w',R2 s3 a' w'->Q .normal a' w'):(Code.region id ops false).wp P Q a w:=by
 refine(wpIn_wide (n:=0)).1 (wpIn_region (F:=FW none) ?_);obtain⟨wa,Oa,Xa,ra,ka⟩:=M1 s a w hr;obtain⟨o,ho,hg,hso⟩:=hsp;have hsz:ops.size=(ops.toList.take m).length+(1+(ops.toList.drop (m+1)).length):=by simp at hm⊢;omega
 rw[hsz,List.range_eq_range',<- List.range'_append_1,Nat.zero_add];have hml:(ops.toList.take m).length=m:=by rw[List.length_take];omega
 refine nG (ops.toList.take m) 0 s s1 a w (fun j o hj=>?_) h1 ra fun a' w' r'=>?_
 ·rw[List.getElem?_take]at hj;split at hj
  ·simpa using hj
  cases hj
 rw[hml,Nat.add_comm 1,List.range'_succ,wpOpsIn_cons];unfold wpOpIn;rw[ho];simp only;rw[if_pos (by simp[Region.wanted,hg])];refine hso a' w' _ _ (ka _ _ _ r') fun v w1 hr1=>?_
 obtain⟨wb,Ob,Xb,rb,kb⟩:=M2 _ _ _ hr1;have:=nG (n:=0) (Q:=Q) (suf:=[]) (ops.toList.drop (m+1)) (m+1) s2 s3 _ w1 (fun j o hj=>by
  rw[List.getElem?_drop]at hj;simpa using hj) h2 rb (fun a2 w2 r2=>hQ a2 w2 (kb _ _ _ r2))
 rwa[List.append_nil]at this
/-! A drawn region whose last operation comes behind all others. -/
def pO (o:Oper):Oper:={o with op:= .move (.const (.bool false))}
def uL:Nat->List Oper->List Oper
 |_,[]=>[]
 |0,o::l=>pO o::l
 |m+1,o::l=>o::uL m l
def gn (ops:Array Oper) (m:Nat):Array Oper:=⟨uL m ops.toList⟩
theorem yU: ∀(m:Nat) (l:List Oper) (i:Nat),(uL m l)[i]?=if i=m then(l[i]?).map pO else l[i]?
 |m,[],i=>by simp[uL]
 |0,o::l,0=>rfl
 |0,o::l,i+1=>by simp[uL]
 |m+1,o::l,0=>by simp[uL]
 |m+1,o::l,i+1=>by simp[uL,yU m l i]
theorem yV: ∀(m:Nat) (l:List Oper),(uL m l).length=l.length
 |m,[]=>by simp[uL]
 |0,o::l=>rfl
 |m+1,o::l=>by simp[uL,yV m l]
section
variable {ops:Array Oper} {m:Nat}
theorem eR (i:Nat):(gn ops m)[i]?=if i=m then(ops[i]?).map pO else ops[i]?:=by
 have:=yU m ops.toList i;simpa[gn] using this
theorem ce:(gn ops m).size=ops.size:=by simp[gn,yV]
theorem L9 (g:Nat):((gn ops m)[g]?).bind (·.dst)=(ops[g]?).bind (·.dst):=by
 rw[eR];split
 ·cases ops[g]?<;>rfl
 rfl
theorem gV {items:List (cQ P)} {ow:List Nat} {i:Nat} {o:Oper}:bf P items ow (gn ops m) i o s=bf P items ow ops i o s:=by
 unfold bf;simp only[L9]
theorem vZ {listed:Array Bool} {i:Nat}:i∈Region.ready .any (gn ops m) listed↔i∈Region.ready .any ops listed:=by
 constructor
 ·intro h;obtain⟨h0,o,ho,hd⟩:=mem_ready.1 h;rw[eR]at ho;split at ho
  ·obtain⟨o2,h2,rfl⟩:=Option.map_eq_some_iff.1 ho;exact mem_ready.2 ⟨h0,o2,h2,hd⟩
  exact mem_ready.2 ⟨h0,o,ho,hd⟩
 intro h;obtain⟨h0,o,ho,hd⟩:=mem_ready.1 h;by_cases e:i=m
 ·exact mem_ready.2 ⟨h0,pO o,by rw[eR,if_pos e,ho];rfl,hd⟩
 exact mem_ready.2 ⟨h0,o,by rw[eR,if_neg e];exact ho,hd⟩
theorem rW {Qn:Act->World->Prop} {Wp:Nat->(Act->World->Prop)->Act->World->Prop}: ∀f,m6 (gn ops m) Qn Wp f=m6 ops Qn Wp f:=by
 have hnil: ∀listed,Region.ready .any (gn ops m) listed=[]↔Region.ready .any ops listed=[]:=fun listed=>by
  simp only[List.eq_nil_iff_forall_not_mem,vZ]
 intro f
 induction f with
 |zero=>funext l a w;simp only[m6,hnil]
 |succ f ih=>funext l a w;simp only[m6,hnil,vZ,ih]
theorem mg {n:Nat} {Q:Exit->Act->World->Prop}: ∀f,m6 ops (Q .normal) (fun i K a w=>wpOpIn (FW none) n P ops Q i K a w) f=wpAnyIn (FW none) n P .any ops Q f
 |0=>rfl
 |f+1=>by
  funext l a w;simp only[m6,wpAnyIn,mg f]
end
def xf (ops:Array Oper):Bool:=decide (0<ops.size)&&(cL [] (gn ops (ops.size-1))&&(List.range (ops.size-1)).all fun i=>((lE (gn ops (ops.size-1)).toList []).getD (ops.size-1) 0).testBit i)
theorem DH {R1 R2:AS->Act->World->Prop} (M1:EH R1) (hmx:P.follows .mixedOrders=true) (items:List (aH P)) (ow:List Nat) {id:Nat} {ops:Array Oper} (hE:xf ops=true) {s s1 s2:AS} (h1:eD P (items.map aH.a) ow ops ((ops.toList.take (ops.size-1)).zipIdx 0) s=some s1)
  (hsp:nR P ops (ops.size-1) (R1 s1) (R2 s2)) {Q:Exit->Act->World->Prop} (hr:R1 s a w) (hQ: ∀a' w',R2 s2 a' w'->Q .normal a' w'):(Code.region id ops true).wp P Q a w:=by
 simp only[xf,Bool.and_eq_true,decide_eq_true_eq,aj,List.mem_range]at hE;obtain⟨hpos,hd,hanc⟩:=hE;obtain⟨o,ho,hg,hso⟩:=hsp;generalize hm:ops.size-1=m at*
 have hmlt:m<ops.size:=by omega
 have hml:(ops.toList.take m).length=m:=by rw[List.length_take];simp;omega
 have hpre:cn P (items.map aH.a) ow (gn ops m) (List.range m) s=some s1:=by
  have:=dW (P:=P) (items:=items.map aH.a) (ow:=ow) (ops.toList.take m) 0 s (fun j o hj=>by
   rw[List.getElem?_take]at hj;split at hj
   ·simpa using hj
   cases hj)
  rw[h1,hml,<- List.range_eq_range']at this;rw[this];have key: ∀(l:List Nat) (s:AS),(∀i∈l,i<m)->cn P (items.map aH.a) ow (gn ops m) l s=cn P (items.map aH.a) ow ops l s:=fun l=>by
   induction l with
   |nil=>intros;rfl
   |cons i l ih=>
    intro s hl;have hi:=hl i (by simp);have e:co P (items.map aH.a) ow (gn ops m) i s=co P (items.map aH.a) ow ops i s:=by
     unfold co;rw[eR,if_neg (by omega)];simp only[gV]
    simp only[cn,e];cases co P (items.map aH.a) ow ops i s with
    |none=>rfl
    |some s2=>exact ih s2 fun j hj=>hl j (by simp[hj])
  exact key _ _ fun i hi=>List.mem_range.1 hi
 have hdm:(gn ops m)[m]?=some (pO o):=by rw[eR,if_pos rfl,ho];rfl
 have hlast:bf P (items.map aH.a) ow (gn ops m) m (pO o) s1=some (s1.put o.dst (.raw (.bool false))):=by
  unfold bf;rw[show(pO o).guard=none from hg];rfl
 have hrun:cn P (items.map aH.a) ow (gn ops m) (List.range (gn ops m).size) s=some (s1.put o.dst (.raw (.bool false))):=by
  rw[ce,show ops.size=m+1 by omega,List.range_succ,eP,hpre];simp only[Option.bind_some,cn];unfold co;rw[hdm];simp only;rw[hlast];rfl
 refine(wpIn_wide (n:=0)).1 (wpIn_region_any (F:=FW none) hmx ?_);have hr':R1 s a {w with drawn:=w.drawn+1}:=by
  obtain⟨wa,Oa,Xa,⟨q1,q2,ρ,hinv,htm⟩,ka⟩:=M1 s a w hr;have e:Ext w {w with drawn:=w.drawn+1}:=⟨rfl,rfl,rfl,Nat.le_refl _,fun _ _=>rfl⟩;have htm:bq Xa ρ s a w:=htm;exact ka _ _ _ ⟨q1,q2,ρ,hinv.grow e,htm.grow e⟩
 have hlive:iw s:=by obtain⟨wa,Oa,Xa,r,_⟩:=M1 s a w hr;exact cO r
 rw[<- mg,<- rW (m:=m)];refine gB (sep:=[]) (ia hd (by simp)) hd (fun p s a w=>if p m then R2 s2 a w else R1 s a w) ⟨hlive,fun x hx=>by simp at hx⟩ hrun (fun p a w hall hr=>?_) (fun p i o' s' s1' a w K ho' hpi hcl hs hr hK=>?_) ops.size (Array.replicate ops.size false) s a _ (by simp[ce]) ?_ ?_ ?_ ?_
 ·rw[if_pos (hall m (by rw[ce];exact hmlt))]at hr;exact hQ a w hr
 ·obtain⟨hc,hc',hsel⟩:=hcl;have hin:i<ops.size:=by have:=(Array.getElem?_eq_some_iff.1 ho').1;rwa[ce]at this
  have hadd:cq p i i=true:=by simp[cq]
  by_cases him:i=m
  ·subst him;rw[hdm]at ho';injection ho' with ho'
   subst ho';have hse:i8 (gn ops i).size p=List.range i:=l9 (by rw[ce];omega) (fun j hj=>by
    have:=fQ hc' (i+1) i (by omega) (by rw[ce];exact hmlt) hadd (hanc j hj);have hji:(j==i)=false:=by simp;omega
    simpa[cq,hji] using this) (fun j hj1 hj2=>by
    rw[ce]at hj1;rw[show j=i by omega];exact hpi)
   rw[hse,hpre]at hsel;injection hsel with hsel
   subst hsel;rw[hpi,if_neg (by decide)]at hr;unfold wpOpIn;rw[ho];simp only;rw[if_pos (by simp[Region.wanted,hg])];exact hso a w K Q hr fun v w' h2=>hK v w' (by rw[if_pos hadd];exact h2)
  have hpm:p m=false:=by
   cases hpm:p m with
   |false=>rfl
   |true=>
    have:=fQ hc (m+1) m (by omega) (by rw[ce];exact hmlt) hpm (hanc i (by omega));rw[hpi]at this;cases this
  rw[hpm,if_neg (by decide)]at hr;rw[eR,if_neg him]at ho';rw[gV]at hs;obtain⟨wa,Oa,Xa,ra,ka⟩:=M1 _ _ _ hr;have hmi:(m==i)=false:=by simp;omega
  exact kT ho' hs ra fun v w' r'=>hK v w' (by simpa[cq,hpm,hmi] using ka _ _ _ r')
 ·intro j o ho hp;have hj:j<ops.size:=by have:=(Array.getElem?_eq_some_iff.1 ho).1;rwa[ce]at this
  simp[hj]at hp
 ·exact Nat.le_trans (List.length_filter_le _ _) (by simp[ce])
 ·have:i8 (gn ops m).size (fun j=>(Array.replicate ops.size false).getD j true)=[]:=by
   unfold i8;rw[List.filter_eq_nil_iff];intro j hj;have:=List.mem_range.1 hj;rw[ce]at this;simp[this]
  rw[this];rfl
 rw[if_neg (by simp[hmlt])];exact hr'
end
end
end Go.Proofs.YtalmoejhjceflaaGreat
