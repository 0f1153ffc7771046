/-
  Contracts, laws: RatT, RatG, RatH, UniA, UniB, UniC, UniD, UniE, LawA, RatX, CmqA, UniF, UniG, NumL, NumO, NumR.
-/
import Derived.Test.YthfnenohhindpaaGreatDoorC33
set_option linter.all false
set_option maxHeartbeats 8000000
set_option maxRecDepth 100000
namespace Go.Proofs.YthfnenohhindpaaGreatDoor
open Go.RowKit Sos
theorem QQ (a b:Nat):nl (Nat.lcm a b)<=nl a+nl b:=by
 refine aG (bX ?_) (dJ a b);unfold Nat.lcm;exact Nat.div_le_self _ _
structure ComDen (qs:List Rat) (D:Int) (B:Nat):Prop where
 pos:0<D
 dvd:∀q∈qs,(q.den:Int)∣D
 nl_:nl D.natAbs<=B
def QR (w:World) (a:List Rat) (B:Nat) (e:Ending) (w':World):Prop:=∃v D,e= .returned v∧IntAt w' v D∧ComDen a D B∧Below w.heap.size w w'
theorem ComDen.skip {b:List Rat} {D:Int} {j K:Nat} {q:Rat} (h:ComDen (b.take j) D (1+j*K)) (d:b[j]? =some q) (c:(q.den:Int)∣D):ComDen (b.take (j+1)) D (1+(j+1)*K):=by
 refine⟨h.pos,fun x a=> ?_,by have:=h.nl_;rw[Nat.succ_mul];omega⟩;rw[List.take_add_one,d,Option.toList_some] at a;rcases List.mem_append.1 a with a|a
 ·exact h.dvd x a
 ·simp at a;subst a;exact c
theorem ComDen.lcm {b:List Rat} {D:Int} {j K:Nat} {q:Rat} (h:ComDen (b.take j) D (1+j*K)) (d:b[j]? =some q) (g:nl q.den<=K):ComDen (b.take (j+1)) ((Nat.lcm D.natAbs q.den:Nat):Int) (1+(j+1)*K):=by
 have f:=h.pos;have e:Nat.lcm D.natAbs q.den≠0:=Nat.lcm_ne_zero (by omega) q.den_nz;refine⟨by omega,fun x a=> ?_,?_⟩
 ·rw[List.take_add_one,d,Option.toList_some] at a;rcases List.mem_append.1 a with a|a
  ·have c:=h.dvd x a;refine Int.ofNat_dvd.2 (Nat.dvd_trans ?_ (Nat.dvd_lcm_left _ _));exact Int.ofNat_dvd_left.1 c
  ·simp at a;subst a;exact Int.ofNat_dvd.2 (Nat.dvd_lcm_right _ _)
 ·rw[cI,Nat.succ_mul];have:=QQ D.natAbs q.den;have:=h.nl_;omega
theorem QS (g:List Rat) (v:Value) (w:World) (hG:Glob w) (hv:RatsAt w v g) (K T:Nat) (hK:∀q∈g,RL K q) (hl:g.length<=1073741824) (a7:1+g.length*K<=T) (a8:K<=T) (ah:5*T+4<=aI):
  Calls Tryz.prog 166 #[v] w (QR w g (1+g.length*K)):=by
 obtain⟨A,c,rfl,hc⟩:=hv.form;have R:Bx (w.alloc (.cells #[.bool false,.slice none 0 0] 59)) (w.heap.size) [.bool false,.slice none 0 0] 59:=Bx.newAt w [.bool false,.slice none 0 0] 59 (w.heap.size) (by simp);have a:Below w.heap.size w (w.alloc (.cells #[.bool false,.slice none 0 0] 59)):=(aH _ _).alloc (by simp) _;go_enter Tryz.func166,Tryz.ntmps166;go_wp2_with fail;generalize w.alloc (.cells #[.bool false,.slice none 0 0] 59)=W at *;refine(iM 1 _ (by decide) (by decide)).mono ?_;rintro e1 l ⟨v1,rfl,H,ak⟩;obtain⟨s1,Q,k1,U,rfl⟩:=H.form;replace R:=R.below ak;replace p:=R.cell 0 rfl;replace ap:=R.free 0;replace r:=R.cell 1 rfl;replace aq:=R.free 1;replace f:=Keep.below ak;replace a:=aC a ak;go_wp2_with fail;have ay:=R.lt;have bj:=a.size;replace R:=R.alloc (.cells #[.bool s1,.slice Q k1 U] 59);have C:=Bx.newAt l [.bool s1,.slice Q k1 U] 59 (l.heap.size) (by simp);replace a:=a.alloc a.size (.cells #[.bool s1,.slice Q k1 U] 59);replace f:=Keep.alloc l (.cells #[.bool s1,.slice Q k1 U] 59);replace H:=H.keep f;generalize l.alloc (.cells #[.bool s1,.slice Q k1 U] 59)=w2 at *;replace p:=R.cell 0 rfl;replace r:=R.cell 1 rfl;replace t:=C.cell 0 rfl;replace x:=C.cell 1 rfl;have ar:IntBx w2 l.heap.size 1:=⟨_,_,_,_,C,H⟩;have av:=R;have aw:=a;have bi:=ay;clear R C H p r ap aq t x f a;go_loopg [9] g.length (fun k i wr=>∃j D,Hid (j+k=g.length)∧i= .int .i64 j∧IntBx wr l.heap.size D∧ComDen (g.take j) D (1+j*K)∧Bx wr w.heap.size [.bool false,.slice none 0 0] 59∧Below w.heap.size w wr)
 case atStart=>exact⟨0,1,by unfold Hid;omega,rfl,ar,⟨by decide,(fun q h=>by simp at h),by rw[show nl (1:Int).natAbs=1 from jL (by decide) (by decide)];omega⟩,av,aw⟩
 case round=>
  clear ar av aw;obtain⟨j,D,y,rfl,hC,O,R,a⟩:=hrel;generalize wr=N at *;have bc:(0:Int)<=(j:Int):=by omega
  have bg:1+j*K<=T:=by
   have:j*K<=g.length*K:=cZ _ (by have:=y.out;omega);omega
  have a5:=O.nl_;have a6:=O.pos;obtain⟨sc,S,kc,V,C,n⟩:=id hC;cases gk with
  |zero=>
   have hj:j=g.length:=y.out;have a0:ComDen g D (1+g.length*K):=by
    have:=O;rw[hj,List.take_length] at this;exact this
   replace p:=R.cell 0 rfl;replace ap:=R.free 0;replace r:=R.cell 1 rfl;replace aq:=R.free 1;replace t:=C.cell 0 rfl;replace an:=C.free 0;replace x:=C.cell 1 rfl;replace ao:=C.free 1;have bh:¬(j:Int)<(g.length:Int):=by omega
   clear O hj y;go_wp2_with fail;have az:=R.lt;have ax:=C.lt;have a1:=a.size;replace C:=(C.far 0 (.bool sc) (show w.heap.size≠l.heap.size by omega)).far 1 (.slice S kc V) (show w.heap.size≠l.heap.size by omega);replace f:=gX (s:=sc) (u:= .slice S kc V) a (by omega) R;clear R a;obtain⟨-, -,R,a,f⟩:=f;replace n:=n.keep f;generalize (N.setCell ⟨w.heap.size,0,none⟩ (.bool sc)).setCell ⟨w.heap.size,1,none⟩ (.slice S kc V)=W6 at *;replace p:=R.cell 0 rfl;replace r:=R.cell 1 rfl;replace t:=C.cell 0 rfl;replace x:=C.cell 1 rfl;exact aK (v:= .agg #[.bool sc,.slice S kc V]) (by simp[results,Tryz.results166,go_sem,p,r]) rfl ⟨_,D,rfl,n,a0,a⟩
  |succ k=>
   obtain⟨q,P⟩:∃q,g[j]? =some q:=⟨_,aL (by have:=y.out;omega)⟩;obtain⟨b,s,B,m,d,M,z,L,F,rfl,bb,g0,g1,g2,g3,J⟩:=(hv.below a).at_ P;have au:=hK q (cH P);have a9:=kH q;have ba:=au.2;have bf:(j:Int)<(g.length:Int):=by have:=y.out;omega
   have ac:=fun hd=>O.skip P hd;have am:=O.lcm P au.2;have HQ:=aB P;clear P;go_wp2_with fail;have az:=R.lt;have ax:=C.lt;have a1:=a.size;replace R:=R.alloc (.cells #[.bool s,.slice B m d,.bool M,.slice z L F] 66);replace C:=C.alloc (.cells #[.bool s,.slice B m d,.bool M,.slice z L F] 66);have X:=Bx.newAt N [.bool s,.slice B m d,.bool M,.slice z L F] 66 (N.heap.size) (by simp);replace a:=a.alloc a.size (.cells #[.bool s,.slice B m d,.bool M,.slice z L F] 66);replace f:=Keep.alloc N (.cells #[.bool s,.slice B m d,.bool M,.slice z L F] 66);replace J:=J.keep f;replace n:=n.keep f;generalize N.alloc (.cells #[.bool s,.slice B m d,.bool M,.slice z L F] 66)=wa at *;replace p:=R.cell 0 rfl;replace r:=R.cell 1 rfl;replace t:=C.cell 0 rfl;replace x:=C.cell 1 rfl;replace ad:=X.cell 0 rfl;replace ae:=X.cell 1 rfl;replace af:=X.cell 2 rfl;replace ag:=X.cell 3 rfl;have I:=J.den;refine(fD _ _ _ I (by unfold aI at ah;omega)).mono ?_;rintro e2 bm ⟨rfl,Y⟩;replace R:=R.below Y;replace p:=R.cell 0 rfl;replace r:=R.cell 1 rfl;replace C:=C.below Y;replace t:=C.cell 0 rfl;replace x:=C.cell 1 rfl;replace X:=X.below Y;replace ad:=X.cell 0 rfl;replace ae:=X.cell 1 rfl;replace af:=X.cell 2 rfl;replace ag:=X.cell 3 rfl;replace f:=Keep.below Y;replace J:=J.keep f;replace n:=n.keep f;replace I:=I.keep f;replace a:=aC a Y;by_cases G:bI q=0
   ·have o:decide (bI q=0)=true:=by simpa using G
    rw[o];have al:=ac (by rw[eK.1 G];exact Int.one_dvd _);clear o G ac am;go_wp2_with fail;go_roundg k
    case rel=>exact⟨j+1,D,by have:=y.out;unfold Hid;omega,by go_num,⟨_,_,_,_,C,n⟩,al,R,a⟩
    case measure=>omega
   ·have o:decide (bI q=0)=false:=by simpa using G
    have ai:bI q=q.den:=kZ (fun e=>G (eK.2 e));rw[o];clear o;go_wp2_with fail;refine(K1 _ _ _ _ _ I n (by unfold aI at ah;omega) (by unfold aI at ah;omega)).mono ?_;rintro e3 w3 ⟨rfl,Z⟩;replace R:=R.below Z;replace p:=R.cell 0 rfl;replace r:=R.cell 1 rfl;replace C:=C.below Z;replace t:=C.cell 0 rfl;replace an:=C.free 0;replace x:=C.cell 1 rfl;replace ao:=C.free 1;replace X:=X.below Z;replace ad:=X.cell 0 rfl;replace ae:=X.cell 1 rfl;replace af:=X.cell 2 rfl;replace ag:=X.cell 3 rfl;replace f:=Keep.below Z;replace J:=J.keep f;replace n:=n.keep f;replace I:=I.keep f;replace a:=aC a Z;by_cases he:bI q=D
    ·have o:decide (bI q=D)=true:=by simpa using he
     rw[o];have al:=ac (by rw[<-he,ai];exact Int.dvd_refl _);clear o G ac am ai he;go_wp2_with fail;go_roundg k
     case rel=>exact⟨j+1,D,by have:=y.out;unfold Hid;omega,by go_num,⟨_,_,_,_,C,n⟩,al,R,a⟩
     case measure=>omega
    ·have o:decide (bI q=D)=false:=by simpa using he
     rw[o];have aj:=fun W hG H h2=>K2 D (bI q) (.agg #[.bool sc,.slice S kc V]) (.agg #[.bool M,.slice z L F]) W hG H h2 (by omega) G T (by omega) (by omega) ah;have e5:(bI q).natAbs=q.den:=by rw[ai];rfl
     rw[e5] at aj;unfold dB at aj;clear o ac ai he e5;generalize ((Nat.lcm D.natAbs q.den:Nat):Int)=E at *;go_wp2_with fail;refine(aj _ (hG.below a) n I).mono ?_;rintro e4 w4 ⟨v4,rfl,h4,ab⟩;obtain⟨s4,A4,k4,c4,rfl⟩:=h4.form;replace R:=R.below ab;replace p:=R.cell 0 rfl;replace r:=R.cell 1 rfl;replace C:=C.below ab;replace t:=C.cell 0 rfl;replace an:=C.free 0;replace x:=C.cell 1 rfl;replace ao:=C.free 1;replace X:=X.below ab;replace ad:=X.cell 0 rfl;replace ae:=X.cell 1 rfl;replace af:=X.cell 2 rfl;replace ag:=X.cell 3 rfl;replace f:=Keep.below ab;replace a:=aC a ab;clear aj;go_wp2_with fail;have a3:=R.lt;have a2:=C.lt;have a4:=X.lt;have bk:=a.size;replace R:=(R.far 0 (.bool s4) (show l.heap.size≠w.heap.size by omega)).far 1 (.slice A4 k4 c4) (show l.heap.size≠w.heap.size by omega);replace X:=(X.far 0 (.bool s4) (show l.heap.size≠N.heap.size by omega)).far 1 (.slice A4 k4 c4) (show l.heap.size≠N.heap.size by omega);replace f:=gX (s:=s4) (u:= .slice A4 k4 c4) a (by omega) C;clear C a;obtain⟨-, -,C,a,f⟩:=f;replace h4:=h4.keep f;generalize (w4.setCell ⟨l.heap.size,0,none⟩ (.bool s4)).setCell ⟨l.heap.size,1,none⟩ (.slice A4 k4 c4)=W6 at *;replace p:=R.cell 0 rfl;replace r:=R.cell 1 rfl;replace t:=C.cell 0 rfl;replace x:=C.cell 1 rfl;replace ad:=X.cell 0 rfl;replace ae:=X.cell 1 rfl;replace af:=X.cell 2 rfl;replace ag:=X.cell 3 rfl;go_roundg k
     case rel=>exact⟨j+1,E,by have:=y.out;unfold Hid;omega,by go_num,⟨_,_,_,_,C,h4⟩,am,R,a⟩
     case measure=>omega
theorem QL (q:Rat):q=(q.num:Rat)/(q.den:Rat):=by
 conv=>lhs;rw[<-Rat.mkRat_self q,Rat.mkRat_eq_div]
theorem QM (q:Rat):(q.den:Rat)≠0:=fun e=>q.den_nz (by exact_mod_cast e)
theorem tT (q:Rat) (D:Int) (h:(q.den:Int)∣D):((q.num*D.tdiv (q.den:Int):Int):Rat)=q*D:=by
 obtain⟨t,rfl⟩:=h;have a:(q.den:Int)≠0:=by have:=q.den_nz;omega
 rw[Int.mul_tdiv_cancel_left _ a,Rat.intCast_mul,Rat.intCast_mul,Rat.intCast_natCast];have b:=QL q;have c:=QM q;generalize (q.num:Rat)=n at *;generalize (q.den:Rat)=d at *;rw[b];grind
theorem QN (q:Rat) (D:Int) (h:q.den=1):((q.num*D:Int):Rat)=q*D:=by
 rw[Rat.intCast_mul];congr 1;exact Rat.ext rfl h.symm
def QO (w:World) (q:Rat) (D:Int) (B:Nat) (e:Ending) (w':World):Prop:=∃v n,e= .returned v∧IntAt w' v n∧(n:Rat)=q*D∧nl n.natAbs<=B∧Below w.heap.size w w'
theorem QP (q:Rat) (D:Int) (v u:Value) (w:World) (J:RatAt w v q) (g:IntAt w u D) (ae:(q.den:Int)∣D) (K H:Nat) (hK:RL K q) (Y:nl D.natAbs<=H) (ac:5*K+H+8<=aI):
  Calls Tryz.prog 167 #[v,u] w (QO w q D (K+H)):=by
 unfold aI at ac;obtain⟨s,A,k,c,s',M,k',Q,rfl⟩:=J.form;obtain⟨sD,P,kD,U,rfl⟩:=g.form;obtain⟨X,ah⟩:=hK;have ai:=kH q;obtain⟨W,V,d,a,b,R⟩:=fF w [.bool s,.slice A k c,.bool s',.slice M k' Q] 66 [.bool sD,.slice P kD U] 59 [.bool false,.slice none 0 0] 59;have l:=aa a.g4 (aa b.g2 R.g2);go_enter Tryz.func167,Tryz.ntmps167;go_wp2_with fail;(try rw[V]);clear V;have hn:=(J.below d).num;have j:=(J.below d).den;replace g:=g.below d;refine(fD _ _ _ j (by omega)).mono ?_;rintro e1 w1 ⟨rfl,y⟩;replace a:=a.below y;replace b:=b.below y;replace R:=R.below y;replace l:=aa a.k4 (aa b.k2 R.g2);replace f:=Keep.below y;replace hn:=hn.keep f;replace j:=j.keep f;replace g:=g.keep f;replace d:=aC d y;by_cases h:bI q=0
 ·have C:decide (bI q=0)=true:=by simpa using h
  rw[C];have p:=QN q D (eK.1 h);have I:=gL q.num D _ _ X Y;have m:=fun W v u h i=>iN q.num D v u W h i (by omega);unfold dB at m;generalize q.num*D=n at *;have G:=aB p;clear C h p;go_wp2_with fail;refine(m _ _ _ hn g).mono ?_;rintro e2 w2 ⟨v2,rfl,i,F⟩;obtain⟨s2,N,k2,S,rfl⟩:=i.form;replace a:=a.below F;replace b:=b.below F;replace R:=R.below F;replace l:=aa a.k4 (aa b.k2 R.g2);replace d:=aC d F;clear m;go_wp2_with fail;obtain⟨W6,r,R,d,f,x⟩:=R.put2 d (by omega) (.bool s2) (.slice N k2 S) rfl rfl;replace a:=x a (by omega);replace b:=x b (by omega);replace i:=i.keep f;rw[r];clear r;replace l:=aa a.k4 (aa b.k2 R.k2);exact aK (v:= .agg #[.bool s2,.slice N k2 S]) (by simp[results,Tryz.results167,go_sem,R.k2]) rfl ⟨_,n,rfl,i,G.out,I,d⟩
 ·have C:decide (bI q=0)=false:=by simpa using h
  have Z:bI q=q.den:=kZ (fun e=>h (eK.2 e));rw[C];have p:=tT q D ae;rw[<-Z] at p;have ad:=iR D (bI q) _ Y;have I:=gL q.num (D.tdiv (bI q)) _ _ X ad;have L:=fun W v u ab i=>nJ D (bI q) v u W ab i h (by omega);have m:=fun W v u h i=>iN q.num (D.tdiv (bI q)) v u W h i (by omega);unfold dB at m L;generalize q.num*D.tdiv (bI q)=n at *;generalize D.tdiv (bI q)=t at *;have G:=aB p;clear C h p Z;go_wp2_with fail;replace hn:=hn.drew;replace j:=j.drew;replace g:=g.drew;replace a:=a.drew;replace b:=b.drew;replace R:=R.drew;replace d:=d.drew;replace l:=aa a.k4 (aa b.k2 R.g2);have af:w.heap.size+1+1≠w.heap.size:=by omega
  have ag:w.heap.size+1+1≠w.heap.size+1:=by omega
  go_region_held3 (fun w'=>C4 w' w.heap.size (.bool s) (.slice A k c) (.bool s') (.slice M k' Q)∧C2 w' (w.heap.size+1) (.bool sD) (.slice P kD U))
   (first|(with_reducible exact⟨a.k4,b.k2⟩)|(refine⟨?_,?_⟩<;>(repeat (first|with_reducible exact a.k4|with_reducible exact b.k2|with_reducible refine jA af ?_|with_reducible refine dW ag ?_))))
   (first
    |(go_at_call 138;(with_reducible refine(L _ _ _ g j).mono ?_);rintro e4 w4 ⟨v4,rfl,E,z⟩;obtain⟨s4,A4,k4,c4,rfl⟩:=E.form;replace a:=a.below z;replace b:=b.below z;replace R:=R.below z;replace l:=aa a.k4 (aa b.k2 R.g2);replace f:=Keep.below z;replace hn:=hn.keep f;replace j:=j.keep f;replace g:=g.keep f;(try replace o:=o.keep f);replace d:=aC d z)
    |(go_at_call 110;(with_reducible refine(m _ _ _ hn E).mono ?_);rintro e5 w5 ⟨v5,rfl,o,B⟩;obtain⟨s5,O,k5,T,rfl⟩:=o.form;replace a:=a.below B;replace b:=b.below B;replace R:=R.below B;replace l:=aa a.k4 (aa b.k2 R.g2);replace f:=Keep.below B;replace hn:=hn.keep f;replace j:=j.keep f;replace g:=g.keep f;(try replace E:=E.keep f);replace d:=aC d B))
  clear L m;go_wp2_with fail;obtain⟨W6,r,R,d,f,x⟩:=R.put2 d (by omega) (.bool s5) (.slice O k5 T) rfl rfl;replace a:=x a (by omega);replace b:=x b (by omega);replace o:=o.keep f;rw[r];clear r;replace l:=aa a.k4 (aa b.k2 R.k2);exact aK (v:= .agg #[.bool s5,.slice O k5 T]) (by simp[results,Tryz.results167,go_sem,R.k2]) rfl ⟨_,n,rfl,o,G.out,I,d⟩
def gH (ns:List Int) (d:Int):List Rat:=ns.map (fun n:Int=>(n:Rat)/(d:Rat))
theorem xW (n d:Int) (K:Nat) (hn:nl n.natAbs<=K) (b:nl d.natAbs<=K) (a:1<=K):RL K ((n:Rat)/d):=by
 rw[<-Rat.divInt_eq_div];unfold RL;rw[Rat.num_divInt,Rat.den_divInt];constructor
 ·refine aG (bX ?_) hn;rw[Int.natAbs_ediv_of_dvd]
  ·refine aG (Nat.div_le_self _ _) ?_;rw[Int.natAbs_mul];have:d.sign.natAbs<=1:=by
    rcases Int.lt_trichotomy d 0 with h|h|h
    ·rw[Int.sign_eq_neg_one_of_neg h];decide
    ·rw[h];decide
    ·rw[Int.sign_eq_one_of_pos h];decide
   calc d.sign.natAbs*n.natAbs<=1*n.natAbs:=cZ _ this
    _=n.natAbs:=Nat.one_mul _
  ·exact Int.dvd_mul_of_dvd_right (Int.gcd_dvd_right ..)
 ·split
  ·rw[jL (by decide) (by decide)];exact a
  ·exact aG (bX (Nat.div_le_self _ _)) b
theorem QK (ns:List Int) (x:Int) (v Y:Value) (w:World) (D:Glob w) (hv:WholeAt w v ns) (T:IntAt w Y x) (K:Nat) (hK:∀n∈ns,nl n.natAbs<=K) (ah:nl x.natAbs<=K) (ag:5*K+4<=aI) (hl:ns.length<=1073741824):
  Calls Tryz.prog 111 #[v,Y] w fun e w'=>∃g,e= .returned (.slice (some ⟨g,0,none⟩) ns.length ns.length)∧w.heap.size<=g∧OwnR w' g (gH ns x)∧Below w.heap.size w w':=by
 obtain⟨A,c,rfl,hc⟩:=hv.form;obtain⟨r,o,q,p,rfl⟩:=T.form;have V:(gH ns x).length=ns.length:=bK _;have C:=aB V;clear V;have f:Bx (w.alloc (.cells #[.bool r,.slice o q p] 59)) (w.heap.size) [.bool r,.slice o q p] 59:=Bx.newAt w [.bool r,.slice o q p] 59 (w.heap.size) (by simp);have a:Below w.heap.size w (w.alloc (.cells #[.bool r,.slice o q p] 59)):=(aH _ _).alloc (by simp) _;go_enter Tryz.func111,Tryz.ntmps111;go_wp2_with (at_make;refine gJ rfl rfl 66 _ 4 64 Tryz.underlying152 BC rfl (by decide) ns.length rfl rfl rfl rfl (by omega) (by omega) ?_;intro w1 ak Q E);have J:OwnR w1 (w.heap.size+1) (List.replicate ns.length 0):=by
  have:=OwnR.made Q;rw[World.size_alloc] at this;exact this
 replace f:=f.below E;replace a:=aC a E;clear Q ak E;go_loopg [13] ns.length (fun k i wr=>∃j,Hid (j+k=ns.length)∧i= .int .i64 j∧OwnR wr (w.heap.size+1) ((gH ns x).take j++List.replicate k 0)∧Bx wr w.heap.size [.bool r,.slice o q p] 59∧Below w.heap.size w wr)
 case atStart=>exact⟨0,by unfold Hid;omega,rfl,by simpa using J,f,a⟩
 case round=>
  clear J f a;obtain⟨j,t,rfl,R,f,a⟩:=hrel;generalize wr=m at *;have av:(0:Int)<=(j:Int):=by omega
  cases gk with
  |zero=>
   have hj:j=ns.length:=t.out;subst hj;rw[List.replicate_zero,List.append_nil,cA (by rw[C.out];exact aE)] at R;go_wp2_with fail;go_ret
   first
    |exact⟨_,rfl,Nat.le_succ _,R,a⟩
    |exact⟨R,a⟩
  |succ k=>
   obtain⟨n,hn⟩:∃n,ns[j]? =some n:=⟨_,aL (by have:=t.out;omega)⟩;obtain⟨b,s,B,l,d,rfl,au,g0,g1,H⟩:=(hv.below a).at_ hn;have aj:=hK n (cH hn);have aw:(j:Int)<(ns.length:Int):=by have:=t.out;omega
   have U:(gH ns x)[j]? =some ((n:Rat)/x):=by unfold gH;rw[List.getElem?_map,hn];rfl
   have L:=lS (ys:=gH ns x) (z:=(0:Rat)) (j:=j) (k:=k+1) (by rw[C.out];exact t.out);have M:=lR (z:=(0:Rat)) (k:=k) U;have N:j<((gH ns x).take j++List.replicate (k+1) 0).length:=by rw[L,C.out];have:=t.out;omega
   have af:=aB M;clear U L M hn;have I:=T.below a;have G:=fun W D h1 u=>tF n x (.agg #[.bool s,.slice B l d]) (.agg #[.bool r,.slice o q p]) W D h1 u K aj ah ag;unfold eP at G;generalize (n:Rat)/x=y at *;have ab:∀h:Obj,(m.alloc h).cell? ⟨w.heap.size,0,none⟩=some (.bool r):=fun h=>(f.alloc h).cell 0 rfl;have ad:∀h:Obj,(m.alloc h).frozen? ⟨w.heap.size,0,none⟩=false:=fun h=>(f.alloc h).free 0;have ac:∀h:Obj,(m.alloc h).cell? ⟨w.heap.size,1,none⟩=some (.slice o q p):=fun h=>(f.alloc h).cell 1 rfl;have ae:∀h:Obj,(m.alloc h).frozen? ⟨w.heap.size,1,none⟩=false:=fun h=>(f.alloc h).free 1;go_wp2_with fail;replace R:=R.below ((aH m.heap.size m).alloc aE (.cells #[.bool s,.slice B l d] 59));have ao:=f.lt;have ax:=a.size;replace f:=f.alloc (.cells #[.bool s,.slice B l d] 59);have X:=Bx.newAt m [.bool s,.slice B l d] 59 (m.heap.size) (by simp);replace a:=a.alloc a.size (.cells #[.bool s,.slice B l d] 59);replace O:=Keep.alloc m (.cells #[.bool s,.slice B l d] 59);replace H:=H.keep O;replace I:=I.keep O;generalize m.alloc (.cells #[.bool s,.slice B l d] 59)=W1 at *;replace am:=f.cell 0 rfl;replace an:=f.cell 1 rfl;replace ap:=X.cell 0 rfl;replace aq:=X.cell 1 rfl;clear ab ac ad ae g0 g1;refine(G _ (D.below a) H I).mono ?_;rintro e2 w2 ⟨v2,rfl,u,F⟩;obtain⟨s2,A2,k2,c2,s3,A3,k3,c3,rfl⟩:=u.form;replace R:=R.below F;replace f:=f.below F;replace a:=aC a F;obtain⟨s',B',l',d',az,al,ay,ar,q0,q1,q2,q3, -⟩:=R.at_ (aL N);have f0:=R.free (j*4);have f1:=R.free (j*4+1);have f2:=R.free (j*4+2);have f3:=R.free (j*4+3);clear G;go_wp2_with fail;obtain⟨P,S⟩:=R.stored N u;rw[af.out] at P;have Z:Bx _ w.heap.size [.bool r,.slice o q p] 59:=(S.2.1 w.heap.size (by omega)).trans f;have ai:=fS a S (by omega);go_roundg k
   case rel=>exact⟨j+1,by have:=t.out;unfold Hid;omega,by go_num,P,Z,ai⟩
   case measure=>omega
def bE (a:List Rat) (D:Int):List Int:=a.map (fun q=>q.num*D.tdiv (q.den:Int))
theorem xV (a:List Rat) (D:Int) (h:∀q∈a,(q.den:Int)∣D) (i:Nat):((cf (bE a D) i:Int):Rat)=cf a i*D:=by
 unfold bE cf;rw[dF,dF,List.getElem?_map];cases hq:a[i]? with
 |none=>
  show((0:Int):Rat)=0*(D:Rat)
  rw[Rat.intCast_zero];grind
 |some q=>exact tT q D (h q (cH hq))
theorem nZ (a:List Rat) (D:Int) (K B:Nat) (c:∀q∈a,RL K q) (b:nl D.natAbs<=B):∀n∈bE a D,nl n.natAbs<=K+B:=by
 intro n hn;unfold bE at hn;obtain⟨q,d,rfl⟩:=List.mem_map.1 hn;exact gL _ _ _ _ (c q d).1 (iR _ _ _ b)
def QJ (w:World) (a:List Rat) (B:Nat) (e:Ending) (w':World):Prop:=
 ∃b n c d D,e= .returned (.tuple #[.slice (some ⟨b,0,none⟩) n c,d])∧w.heap.size<=b∧WholeAt w' (.slice (some ⟨b,0,none⟩) n c) (aX aW (bE a D))∧IntAt w' d D∧ComDen a D B∧Below w.heap.size w w'
theorem EY (a:List Rat) (v:Value) (w:World) (hG:Glob w) (hv:RatsAt w v a) (K U:Nat) (hK:∀q∈a,RL K q) (hl:a.length<=1073741824) (a4:1+a.length*K<=U) (a5:K<=U) (a6:6*U+8<=aI):
  Calls Tryz.prog 106 #[v] w (QJ w a (1+a.length*K)):=by
 obtain⟨A,c,rfl,hc⟩:=hv.form;have R:Bx (w.alloc (.cells #[.bool false,.slice none 0 0] 59)) (w.heap.size) [.bool false,.slice none 0 0] 59:=Bx.newAt w [.bool false,.slice none 0 0] 59 (w.heap.size) (by simp);have f:Below w.heap.size w (w.alloc (.cells #[.bool false,.slice none 0 0] 59)):=(aH _ _).alloc (by simp) _;go_enter Tryz.func106,Tryz.ntmps106;go_wp2_with fail;generalize w.alloc (.cells #[.bool false,.slice none 0 0] 59)=W at *;refine(QS a _ _ (hG.below f) (hv.below f) K U hK hl a4 a5 (by omega)).mono ?_;rintro e1 g ⟨v1,D,rfl,h1,ah,ag⟩;obtain⟨s1,A1,k1,c1,rfl⟩:=h1.form;replace R:=R.below ag;replace V:=R.cell 0 rfl;replace ae:=R.free 0;replace Y:=R.cell 1 rfl;replace af:=R.free 1;replace hk:=Keep.below ag;replace f:=aC f ag;have al:=ah.nl_;have ay:(bE a D).length=a.length:=bK _;have I:=aB ay;have ba:=nZ a D K _ hK al;clear ay;go_wp2_with (at_make;refine gJ rfl rfl 59 _ 2 32 Tryz.underlying56 mN rfl (by decide) a.length rfl rfl rfl rfl (by omega) (by omega) ?_;intro w2 bb av p);have R0:OwnW w2 (g.heap.size+1) (List.replicate a.length 0):=by
  have:=OwnW.made av;rw[World.size_alloc] at this;exact this
 have bq:=R.lt;have ab:Below g.heap.size g w2:=((aH _ _).alloc aE _).trans (p.mono (by simp));have ak:IntBx w2 g.heap.size D:=⟨_,_,_,_,(Bx.new g [.bool s1,.slice A1 k1 c1] 59).below p,h1.below ab⟩;have am:=R.below ab;have an:=aC f ab;clear av bb p ab R h1 f V Y ae af hk;go_loopg [15] a.length (fun k i wr=>∃j,Hid (j+k=a.length)∧i= .int .i64 j∧OwnW wr (g.heap.size+1) ((bE a D).take j++List.replicate k 0)∧IntBx wr g.heap.size D∧Bx wr w.heap.size [.bool false,.slice none 0 0] 59∧Below w.heap.size w wr)
 case atStart=>exact⟨0,by unfold Hid;omega,rfl,by simpa using R0,ak,am,an⟩
 case round=>
  clear R0 ak am an;obtain⟨j,H,rfl,N,Z,R,f⟩:=hrel;generalize wr=F at *;have bo:(0:Int)<=(j:Int):=by omega
  obtain⟨P,J,O,L,C,o⟩:=id Z;cases gk with
  |zero=>
   have hj:j=a.length:=H.out;subst hj;rw[List.replicate_zero,List.append_nil,cA (by rw[I.out];exact aE)] at N;have hw:=N.whole a.length (by rw[I.out];exact aE);have ai:=fun W h=>pV (bE a D) (some ⟨g.heap.size+1,0,none⟩) a.length W h (K+(1+a.length*K)) ba (by unfold aI at a6;omega) (by rw[I.out];omega);rw[I.out] at ai hw;replace hw:=hw.drew;replace Z:=Z.below (aH _ _).drew;go_wp2_with fail;replace R:=R.drew;replace C:=C.drew;replace o:=o.drew;replace f:=f.drew;have ad:w.heap.size≠g.heap.size:=by omega
   replace V:=R.cell 0 rfl;replace ae:=R.free 0;replace Y:=R.cell 1 rfl;replace af:=R.free 1;replace Q:=C.cell 0 rfl;replace bc:=C.free 0;replace S:=C.cell 1 rfl;replace bf:=C.free 1;obtain⟨T,HT⟩:∃T,Hid (aX aW (bE a D)=T):=⟨_,rfl⟩;rw[HT.out] at ai
   go_region_held3 (fun w'=>w'.cell? ⟨g.heap.size,0,none⟩=some (.bool P)∧w'.cell? ⟨g.heap.size,1,none⟩=some (.slice J O L))
    (first|(with_reducible exact⟨Q,S⟩)|(with_reducible exact⟨(aT _ _ _ _ _ _ ad).trans ((aT _ _ _ _ _ _ ad).trans Q),(aT _ _ _ _ _ _ ad).trans ((aT _ _ _ _ _ _ ad).trans S)⟩))
    (first
     |(go_at_call 118;(with_reducible refine(ai _ hw).mono ?_);rintro e6 w6 ⟨rfl,h6,ac⟩;replace o:=o.below ac;replace R:=R.below ac;replace C:=C.below ac;replace Q:=C.cell 0 rfl;replace S:=C.cell 1 rfl;replace V:=R.cell 0 rfl;replace Y:=R.cell 1 rfl;replace ae:=R.free 0;replace af:=R.free 1;replace f:=aC f ac))
   go_wp2_with fail;obtain⟨-,x⟩:=IntBx.stored (w:=w6) (b:=w.heap.size) (m:=0) ⟨_,_,_,_,R,IntAt.zero _⟩ o;have z6:=h6.step x (fun b e=>by injection e with e;injection e with e;omega);have zm:=o.keep x.1;have zb:=fS f x aE;obtain⟨z0,z1, -, -, -⟩:=gX (s:=P) (u:= .slice J O L) f aE R;clear x;generalize (w6.setCell ⟨w.heap.size,0,none⟩ (.bool P)).setCell ⟨w.heap.size,1,none⟩ (.slice J O L)=W6 at *;exact aK (v:= .tuple #[.slice (some ⟨g.heap.size+1,0,none⟩) T.length a.length,.agg #[.bool P,.slice J O L]]) (by simp[results,Tryz.results106,go_sem,z0,z1]) rfl ⟨_,_,_,_,D,rfl,by omega,by rw[HT.out];exact z6,zm,ah,zb⟩
  |succ k=>
   obtain⟨q,M⟩:∃q,a[j]? =some q:=⟨_,aL (by have:=H.out;omega)⟩;obtain⟨b,s,B,m,d,E,r,G,t,rfl,bn,g0,g1,g2,g3,hi⟩:=(hv.below f).at_ M;have a7:=hK q (cH M);have ao:=ah.dvd q (cH M);have bp:(j:Int)<(a.length:Int):=by have:=H.out;omega
   have ax:(bE a D)[j]? =some (q.num*D.tdiv (q.den:Int)):=by unfold bE;rw[List.getElem?_map,M];rfl
   have ap:=lS (ys:=bE a D) (z:=(0:Int)) (j:=j) (k:=k+1) (by rw[I.out];exact H.out);have aq:=lR (z:=(0:Int)) (k:=k) ax;have ar:j<((bE a D).take j++List.replicate (k+1) 0).length:=by rw[ap,I.out];have:=H.out;omega
   have aw:∀n:Int,(n:Rat)=q*D->n=q.num*D.tdiv (q.den:Int):=fun n h=>Rat.intCast_inj.1 (h.trans (tT q D ao).symm);have aj:=aB aw;have a3:=aB aq;clear ax ap aq M aw;have az:∀l:Obj,(F.alloc l).cell? ⟨g.heap.size,0,none⟩=some (.bool P):=fun l=>(C.alloc l).cell 0 rfl;have a1:∀l:Obj,(F.alloc l).frozen? ⟨g.heap.size,0,none⟩=false:=fun l=>(C.alloc l).free 0;have a0:∀l:Obj,(F.alloc l).cell? ⟨g.heap.size,1,none⟩=some (.slice J O L):=fun l=>(C.alloc l).cell 1 rfl;have a2:∀l:Obj,(F.alloc l).frozen? ⟨g.heap.size,1,none⟩=false:=fun l=>(C.alloc l).free 1;go_wp2_with fail;replace N:=N.alloc (.cells #[.bool s,.slice B m d,.bool E,.slice r G t] 66);have bg:=C.lt;have bh:=R.lt;have br:=f.size;replace C:=C.alloc (.cells #[.bool s,.slice B m d,.bool E,.slice r G t] 66);replace R:=R.alloc (.cells #[.bool s,.slice B m d,.bool E,.slice r G t] 66);have X:=Bx.newAt F [.bool s,.slice B m d,.bool E,.slice r G t] 66 (F.heap.size) (by simp);replace f:=f.alloc f.size (.cells #[.bool s,.slice B m d,.bool E,.slice r G t] 66);replace hk:=Keep.alloc F (.cells #[.bool s,.slice B m d,.bool E,.slice r G t] 66);replace hi:=hi.keep hk;replace o:=o.keep hk;generalize F.alloc (.cells #[.bool s,.slice B m d,.bool E,.slice r G t] 66)=wa at *;replace Q:=C.cell 0 rfl;replace S:=C.cell 1 rfl;replace V:=R.cell 0 rfl;replace Y:=R.cell 1 rfl;replace bi:=X.cell 0 rfl;replace bj:=X.cell 1 rfl;replace bk:=X.cell 2 rfl;replace bm:=X.cell 3 rfl;clear az a0 a1 a2 g0 g1 g2 g3 Z;refine(QP q D _ _ _ hi o ao K (1+a.length*K) a7 al (by omega)).mono ?_;rintro e2 bs ⟨v2,n,rfl,h2,au, -,p⟩;have a9:=aj.out n au;subst a9;clear au aj;obtain⟨s2,A2,k2,c2,rfl⟩:=h2.form;replace N:=N.below p;replace C:=C.below p;replace R:=R.below p;replace o:=o.below p;replace f:=aC f p;obtain⟨E,r,l',t,q0,q1, -⟩:=N.at_ (aL ar);have f0:=N.free (j*2);have f1:=N.free (j*2+1);generalize q.num*D.tdiv (q.den:Int)=y at *;go_wp2_with fail;obtain⟨hp,x⟩:=N.stored ar h2;rw[a3.out] at hp;have zC:=IntBx.step ⟨_,_,_,_,C,o⟩ x (by omega);have zR:Bx _ w.heap.size [.bool false,.slice none 0 0] 59:=(x.2.1 w.heap.size (by omega)).trans R;have a8:=fS f x (by omega);go_roundg k
   case rel=>exact⟨j+1,by have:=H.out;unfold Hid;omega,by go_num,hp,zC,zR,a8⟩
   case measure=>omega
def vl (ls:List (List UInt8)):Bool:=decide (ls.length<=65∧ls.all rd=true∧(aN ls).getLast?≠some 0)
theorem EX (b:List Rat):aO b↔b.getLast?≠some 0:=⟨fun h e=>h 0 e rfl,fun h a c e=>h (by rw[c,e])⟩
theorem lJ {ls:List (List UInt8)} (h:vl ls=true):ls.length<=65∧ls.all rd=true∧aO (aN ls):=by
 unfold vl at h;rw[decide_eq_true_iff] at h;exact⟨h.1,h.2.1,(EX _).2 h.2.2⟩
theorem kR {c:List Rat} {D:Int} (j:0<D) (i:∀q∈c,(q.den:Int)∣D) (h:aO c):aO (bE c D):=by
 intro a b e;unfold bE at b;rw[List.getLast?_map] at b;cases hq:c.getLast? with
 |none=>rw[hq] at b;simp at b
 |some q=>
  rw[hq] at b;simp only[Option.map_some,Option.some.injEq] at b;have f:=tT q D (i q (List.mem_of_getLast? hq));rw[b,e,Rat.intCast_zero] at f;have g:(D:Rat)≠0:=fun e=>(show D≠0 by omega) (Rat.intCast_inj.1 e);rcases Rat.mul_eq_zero.1 f.symm with d|d
  ·exact h q hq d
  ·exact g d
theorem QG (n c:Nat) (A:Option Addr) (w:World) (hn:n<=1073741824):Calls Tryz.prog 103 #[.slice A n c] w fun e w'=>e= .returned (.bool (decide (n<=65)))∧w'=w:=by
 by_cases h:n<=65
 ·have b:(n:Int)<=65:=by omega
  have a:decide (n<=65)=true:=by simpa using h
  rw[a];go_enter Tryz.func103,Tryz.ntmps103;go_wp2;go_ret;exact⟨rfl,rfl⟩
 ·have b:¬(n:Int)<=65:=by omega
  have a:decide (n<=65)=false:=by simpa using h
  rw[a];go_enter Tryz.func103,Tryz.ntmps103;go_wp2;go_ret;exact⟨rfl,rfl⟩
theorem ComDen.mono {b:List Rat} {D:Int} {B a:Nat} (h:ComDen b D B) (c:B<=a):ComDen b D a:=⟨h.pos,h.dvd,aG h.nl_ c⟩
def QH (w:World) (ls:List (List UInt8)) (B:Nat) (e:Ending) (w':World):Prop:=
 ∃v b a D,e= .returned (.tuple #[v,b,.bool (vl ls)])∧WholeAt w' v a∧IntAt w' b D∧(vl ls=true->a=bE (aN ls) D∧ComDen (aN ls) D B)∧Below w.heap.size w w'
theorem QI (ls:List (List UInt8)) (v:Value) (w:World) (hG:Glob w) (hv:StrsAt w v ls) (hl:ls.length<=1073741824) (a7:ls.length<=65->∀l∈ls,l.length<=1073741824) (K KB L:Nat) (hK:ls.length<=65->∀q∈aN ls,RL K q) (hL:ls.length<=65->ls.length<=L) (a3:1<=L) (ba:1+L*K<=KB) (ak:6*KB+8<=aI):
  Calls Tryz.prog 48 #[v] w (QH w ls (1+L*K)):=by
 have bb:K<=L*K:=Nat.le_mul_of_pos_left K a3;obtain⟨A,c,rfl,hc⟩:=hv.form;obtain⟨W,eW,f,R⟩:=bB w [.bool false,.slice none 0 0] 59;have t:=R.g2;go_enter Tryz.func48,Tryz.ntmps48;go_wp2_with fail;(try rw[eW]);clear eW;refine(iM 1 _ (by decide) (by decide)).mono ?_;rintro e1 w1 ⟨v1,rfl,k,ar⟩;obtain⟨Y,I,U,N,rfl⟩:=k.form;replace R:=R.below ar;replace t:=R.g2;replace f:=aC f ar;go_wp2_with fail;have M:=R.lt;have S:=f.size;obtain⟨w2,aq,o,O⟩:=bB w1 [.bool Y,.slice I U N] 59;replace R:=R.below o;replace j:=Keep.below o;replace f:=aC f o;replace k:=k.keep j;rw[aq];clear aq;replace t:=aa R.g2 O.g2;refine(QG ls.length c A _ hl).mono ?_;rintro e3 w3 ⟨rfl,rfl⟩;by_cases G:ls.length<=65
 ·have y:decide (ls.length<=65)=true:=by simpa using G
  rw[y];clear y;go_wp2_with fail;refine(O1 ls _ _ (hG.below f) (hv.below f) hl (a7 G)).mono ?_;rintro e4 w4 ⟨v4,rfl,h4,ah⟩;replace R:=R.below ah;replace O:=O.below ah;replace t:=aa R.g2 O.g2;replace j:=Keep.below ah;replace k:=k.keep j;replace f:=aC f ah;cases hall:ls.all rd with
  |false=>
   have r:vl ls=false:=by unfold vl;rw[decide_eq_false_iff_not];exact fun h=>by rw[hall] at h;exact absurd h.2.1 (by simp)
   have F:=aB r;clear r h4;go_wp2_with fail;go_region
   all_goals (
    go_wp2_with fail;have M:=R.lt;have ac:=O.lt;have S:=f.size;obtain⟨W6,n,R,f,j,u⟩:=R.put2 f (by omega) (.bool Y) (.slice I U N) rfl rfl;replace O:=u O (by omega);replace k:=k.keep j;rw[n];clear n;replace t:=aa R.k2 O.k2;exact aK (v:= .tuple #[.slice none 0 0,.agg #[.bool Y,.slice I U N],.bool false]) (by simp[results,Tryz.results48,go_sem,R.k2]) rfl ⟨_,_,[],1,by rw[F.out],WholeAt.nil _ _ _,k.drew,(fun h=>by rw[F.out] at h;cases h),f.drew⟩)
  |true=>
   have H:=h4 hall;obtain⟨A4,c4,rfl,bg⟩:=H.form;have a8:(aN ls).length=ls.length:=bK _;have ao:=aB hall;have aj:=hK G;clear h4 hall;generalize au:aN ls=i at *;have ab:=aB au;have bh:i.length<=65:=by omega
   have ai:i.length<=L:=by have:=hL G;omega
   clear au a8;by_cases h0:i.length=0
   ·have am:i=[]:=bM h0;have ag:aO i:=fun a h=>by rw[am] at h;simp at h
    have r:vl ls=true:=by unfold vl;rw[decide_eq_true_iff,ab.out,ao.out,am];exact⟨G,rfl,by simp⟩
    have a2:¬(0:Int)<(i.length:Int):=by omega
    clear am h0;go_wp2_with fail;refine(EY i _ _ (hG.below f) H K KB aj (by omega) (by have:i.length*K<=L*K:=cZ _ ai;omega) (by omega) ak).mono ?_;rintro Q z ⟨b5,n5,c5,a9,D,rfl,a5,x,p,E,C⟩;rw[nB (kR E.pos E.dvd ag)] at x;obtain⟨A5,c9,Q,a6⟩:=x.form;simp only[Value.slice.injEq] at Q;obtain⟨-,rfl, -⟩:=Q;have a4:=R.lt;obtain⟨Z,J,V,P,rfl⟩:=p.form;replace R:=R.below C;replace O:=O.below C;replace t:=aa R.g2 O.g2;replace j:=Keep.below C;replace k:=k.keep j;replace f:=aC f C;have ax:∀g:Obj,(z.alloc g).cell? ⟨w.heap.size,0,none⟩=some (.bool false):=fun g=>(R.alloc g).cell 0 rfl;have az:∀g:Obj,(z.alloc g).frozen? ⟨w.heap.size,0,none⟩=false:=fun g=>(R.alloc g).free 0;have ay:∀g:Obj,(z.alloc g).cell? ⟨w.heap.size,1,none⟩=some (.slice none 0 0):=fun g=>(R.alloc g).cell 1 rfl;have a0:∀g:Obj,(z.alloc g).frozen? ⟨w.heap.size,1,none⟩=false:=fun g=>(R.alloc g).free 1;have af:=E.mono (show 1+i.length*K<=1+L*K by have:i.length*K<=L*K:=cZ _ ai;omega);have HN:=aB (show vl ls=true∧bE i D=bE (aN ls) D∧ComDen (aN ls) D (1+L*K) from⟨r,by rw[ab.out],by rw[ab.out];exact af⟩);generalize bE i D=ns at *;clear E af ag r H;go_wp2_with fail;have M:=R.lt;have ac:=O.lt;have S:=f.size;obtain⟨w7,ad,o,X⟩:=bB z [.bool Z,.slice J V P] 59;replace R:=R.below o;replace O:=O.below o;replace j:=Keep.below o;replace f:=aC f o;replace k:=k.keep j;replace p:=p.keep j;rw[ad];clear ad;replace t:=aa R.g2 (aa O.k2 X.g2);replace x:=x.below o;go_region
    all_goals (
     go_wp2_with fail;obtain⟨-,an⟩:=IntBx.stored (w:=w7) (b:=w.heap.size) (m:=0) ⟨_,_,_,_,R,IntAt.zero _⟩ p;have z5:=x.step an (fun b e=>by injection e with e;injection e with e;omega);have M:=R.lt;have ac:=O.lt;have a1:=X.lt;have S:=f.size;obtain⟨W6,n,R,f,j,u⟩:=R.put2 f (by omega) (.bool Z) (.slice J V P) rfl rfl;replace O:=u O (by omega);replace X:=u X (by omega);replace p:=p.keep j;rw[n];rw[n] at z5;clear n;replace t:=aa R.k2 (aa O.k2 X.k2);exact aK (v:= .tuple #[.slice (some ⟨b5,0,none⟩) ns.length c5,.agg #[.bool Z,.slice J V P],.bool true]) (by simp[results,Tryz.results48,go_sem,R.k2]) rfl ⟨_,_,ns,D,by rw[HN.out.1],z5.drew,p.drew,(fun _=>HN.out.2),f.drew⟩)
   ·obtain⟨m,hm⟩:∃m,i.length=m+1:=⟨i.length-1,by omega⟩;have a2:(0:Int)<(i.length:Int):=by omega
    have e1:(i.length:Int)-1=(m:Int):=by omega
    have i0:(0:Int)<=(m:Int):=by omega
    have i1:(m:Int)<(i.length:Int):=by omega
    obtain⟨q,hq⟩:∃q,i[m]? =some q:=⟨_,aL (by omega)⟩;obtain⟨b,s,B,l,d,s',B',l',d',rfl,bf,g0,g1,g2,g3,hi⟩:=H.at_ hq;have al:i.getLast?=some q:=by rw[List.getLast?_eq_getElem?,hm];exact hq
    have bc:=(aj q (cH hq)).1;have av:vl ls=decide (q≠0):=by
     unfold vl;rw[ab.out,ao.out,al,Bool.eq_iff_iff,decide_eq_true_iff,decide_eq_true_iff];exact⟨fun h e=>h.2.2 (by rw[e]),fun h=>⟨G,rfl,fun e=>h (by injection e)⟩⟩
    have ap:=aB av;have aw:=aB al;clear hq hm h0 av al;go_wp2_with fail;refine(NW q _ _ hi (by unfold aI at ak;omega)).mono ?_;rintro e8 w8 ⟨rfl,ae⟩;replace R:=R.below ae;replace O:=O.below ae;replace t:=aa R.g2 O.g2;replace j:=Keep.below ae;replace k:=k.keep j;replace f:=aC f ae;replace H:=H.below ae;by_cases T:q=0
    ·have y:decide (q=0)=true:=by simpa using T
     have r:vl ls=false:=by rw[ap.out];simpa using T
     have F:=aB r;rw[y];clear y r T;go_wp2_with fail;go_region
     all_goals (
      go_wp2_with fail;have M:=R.lt;have ac:=O.lt;have S:=f.size;obtain⟨W6,n,R,f,j,u⟩:=R.put2 f (by omega) (.bool Y) (.slice I U N) rfl rfl;replace O:=u O (by omega);replace k:=k.keep j;rw[n];clear n;replace t:=aa R.k2 O.k2;exact aK (v:= .tuple #[.slice none 0 0,.agg #[.bool Y,.slice I U N],.bool false]) (by simp[results,Tryz.results48,go_sem,R.k2]) rfl ⟨_,_,[],1,by rw[F.out],WholeAt.nil _ _ _,k.drew,(fun h=>by rw[F.out] at h;cases h),f.drew⟩)
    ·have y:decide (q=0)=false:=by simpa using T
     have r:vl ls=true:=by rw[ap.out];simpa using T
     have ag:aO i:=(EX i).2 (by rw[aw.out];intro e;injection e with e;exact T e);rw[y];clear y T g0 g1 g2 g3 hi;go_wp2_with fail;refine(EY i _ _ (hG.below f) H K KB aj (by omega) (by have:i.length*K<=L*K:=cZ _ ai;omega) (by omega) ak).mono ?_;rintro Q z ⟨b5,n5,c5,a9,D,rfl,a5,x,p,E,C⟩;rw[nB (kR E.pos E.dvd ag)] at x;obtain⟨A5,c9,Q,a6⟩:=x.form;simp only[Value.slice.injEq] at Q;obtain⟨-,rfl, -⟩:=Q;have a4:=R.lt;obtain⟨Z,J,V,P,rfl⟩:=p.form;replace R:=R.below C;replace O:=O.below C;replace t:=aa R.g2 O.g2;replace j:=Keep.below C;replace k:=k.keep j;replace f:=aC f C;have ax:∀g:Obj,(z.alloc g).cell? ⟨w.heap.size,0,none⟩=some (.bool false):=fun g=>(R.alloc g).cell 0 rfl;have az:∀g:Obj,(z.alloc g).frozen? ⟨w.heap.size,0,none⟩=false:=fun g=>(R.alloc g).free 0;have ay:∀g:Obj,(z.alloc g).cell? ⟨w.heap.size,1,none⟩=some (.slice none 0 0):=fun g=>(R.alloc g).cell 1 rfl;have a0:∀g:Obj,(z.alloc g).frozen? ⟨w.heap.size,1,none⟩=false:=fun g=>(R.alloc g).free 1;have af:=E.mono (show 1+i.length*K<=1+L*K by have:i.length*K<=L*K:=cZ _ ai;omega);have HN:=aB (show vl ls=true∧bE i D=bE (aN ls) D∧ComDen (aN ls) D (1+L*K) from⟨r,by rw[ab.out],by rw[ab.out];exact af⟩);generalize bE i D=ns at *;clear E af ag r H;go_wp2_with fail;have M:=R.lt;have ac:=O.lt;have S:=f.size;obtain⟨w7,ad,o,X⟩:=bB z [.bool Z,.slice J V P] 59;replace R:=R.below o;replace O:=O.below o;replace j:=Keep.below o;replace f:=aC f o;replace k:=k.keep j;replace p:=p.keep j;rw[ad];clear ad;replace t:=aa R.g2 (aa O.k2 X.g2);replace x:=x.below o;go_region
     all_goals (
      go_wp2_with fail;obtain⟨-,an⟩:=IntBx.stored (w:=w7) (b:=w.heap.size) (m:=0) ⟨_,_,_,_,R,IntAt.zero _⟩ p;have z5:=x.step an (fun b e=>by injection e with e;injection e with e;omega);have M:=R.lt;have ac:=O.lt;have a1:=X.lt;have S:=f.size;obtain⟨W6,n,R,f,j,u⟩:=R.put2 f (by omega) (.bool Z) (.slice J V P) rfl rfl;replace O:=u O (by omega);replace X:=u X (by omega);replace p:=p.keep j;rw[n];rw[n] at z5;clear n;replace t:=aa R.k2 (aa O.k2 X.k2);exact aK (v:= .tuple #[.slice (some ⟨b5,0,none⟩) ns.length c5,.agg #[.bool Z,.slice J V P],.bool true]) (by simp[results,Tryz.results48,go_sem,R.k2]) rfl ⟨_,_,ns,D,by rw[HN.out.1],z5.drew,p.drew,(fun _=>HN.out.2),f.drew⟩)
 ·have y:decide (ls.length<=65)=false:=by simpa using G
  have r:vl ls=false:=by unfold vl;rw[decide_eq_false_iff_not];exact fun h=>G h.1
  have F:=aB r;rw[y];clear y r;go_wp2_with fail;go_region
  all_goals (
   go_wp2_with fail;have M:=R.lt;have ac:=O.lt;have S:=f.size;obtain⟨W6,n,R,f,j,u⟩:=R.put2 f (by omega) (.bool Y) (.slice I U N) rfl rfl;replace O:=u O (by omega);replace k:=k.keep j;rw[n];clear n;replace t:=aa R.k2 O.k2;exact aK (v:= .tuple #[.slice none 0 0,.agg #[.bool Y,.slice I U N],.bool false]) (by simp[results,Tryz.results48,go_sem,R.k2]) rfl ⟨_,_,[],1,by rw[F.out],WholeAt.nil _ _ _,k.drew,(fun h=>by rw[F.out] at h;cases h),f.drew⟩)
theorem kQ (a:List Rat) (D:Int):(bE a D).length=a.length:=bK _
theorem QF (f:Nat->Int) (n M:Nat) (h:∀k,k<n->(f k).natAbs<=M):(bS f n).natAbs<=n*M:=by
 induction n with
 |zero=>simp[bS]
 |succ n a=>
  rw[bS,Nat.succ_mul];have b:=a (fun k e=>h k (by omega));have c:=h n (by omega);have d:=Int.natAbs_add_le (bS f n) (f n);omega
end Go.Proofs.YthfnenohhindpaaGreatDoor
namespace Go.Proofs.YthfnenohhindpaaGreatDoor
open Sos Lib
theorem fU {K:Nat} (h:1<=K):RL K 0:=⟨by show nl 0<=K;rw[dC];omega,by show nl 1<=K;exact aG (bW (by decide)) h⟩
theorem EU {K:Nat} {q:Rat} (h:RL K q):RL K (-q):=⟨by rw[show(-q).num= -q.num from rfl,Int.natAbs_neg];exact h.1,h.2⟩
theorem bU {K L:Nat} {q:Rat} (h:RL K q) (a:K<=L):RL L q:=⟨aG h.1 a,aG h.2 a⟩
theorem EV {n k:Nat} (h:(decDigits n).length<=k) (d:k<=18):nl n<=1:=by
 refine bW ?_;have a:=qM (mA n);rw[jS] at a;have b:10^(decDigits n).length<=10^18:=cE (by decide) (by omega);have c:10^18<BN^1:=by decide
 omega
theorem EW {t:List UInt8} {q:Rat} (h:d7 t=some q) (c:t.length<=18):RL 1 q:=by
 have e:=qP h;have a:(bD q).length<=18:=by rw[e];exact c
 unfold bD at a;rw[aY,aY] at a;refine⟨EV (k:=18) (by omega) (by decide),?_⟩;by_cases b:q.den=1
 ·rw[b];exact bW (by decide)
 ·rw[if_neg b,List.length_cons] at a;exact EV (k:=18) (by omega) (by decide)
theorem mC {ls:List (List UInt8)} (h:∀l∈ls,l.length<=18):∀q∈aN ls,RL 1 q:=fun q b=>by
 obtain⟨l,a,rfl⟩:=List.mem_map.1 b;cases hr:d7 l with
 |none=>exact fU (jX 1)
 |some q=>exact EW hr (h l a)
end Go.Proofs.YthfnenohhindpaaGreatDoor
namespace Go.Proofs.YthfnenohhindpaaGreatDoor
open Go.RowKit Sos
theorem Q5 (x y:Rat) (g h:Nat) (a:g=Nat.gcd x.num.natAbs y.den) (b:h=Nat.gcd y.num.natAbs x.den):
  (x*y).num=x.num.tdiv (g:Int)*y.num.tdiv (h:Int)∧((x*y).den:Int)=(x.den:Int).tdiv (h:Int)*(y.den:Int).tdiv (g:Int):=by
 subst a b;show(Rat.mul x y).num=_∧((Rat.mul x y).den:Int)=_
 unfold Rat.mul;refine⟨?_,?_⟩
 ·simp only[Int.divExact_eq_tdiv]
 ·simp only[Nat.divExact_eq_div];rw[<-Int.ofNat_tdiv,<-Int.ofNat_tdiv];simp
def Q6 (w:World) (a b:Int) (e:Ending) (w':World):Prop:=∃v u,e= .returned (.tuple #[v,u])∧IntAt w' v a∧IntAt w' u b∧Below w.heap.size w w'
theorem ES (n d:Int) (vn vd:Value) (w:World) (hG:Glob w) (hn:IntAt w vn n) (c:IntAt w vd d) (au:n≠0) (g:Nat) (A:g=Nat.gcd n.natAbs d.natAbs) (K:Nat) (U:nl n.natAbs<=K) (bd:nl d.natAbs<=K) (hK:10*K+10<=aI):
  Calls Tryz.prog 120 #[vn,vd] w (Q6 w (n.tdiv g) (d.tdiv g)):=by
 obtain⟨D,r,B,t,rfl⟩:=hn.form;obtain⟨E,s,C,u,rfl⟩:=c.form;have N:(g:Int)≠0:=by
  have:=Nat.gcd_pos_of_pos_left d.natAbs (show 0<n.natAbs by omega);omega
 have ar:nl g<=K:=by rw[A];exact DP _ _ _ (by omega) U
 unfold aI at hK;obtain⟨W,eW,a,X,Y,R,S⟩:=wZ w [.bool D,.slice r B t] 59 [.bool E,.slice s C u] 59 [.bool false,.slice none 0 0] 59 [.bool false,.slice none 0 0] 59;have i:=aa X.g2 (aa Y.g2 (aa R.g2 S.g2));go_enter Tryz.func120,Tryz.ntmps120;go_wp2_with fail;(try rw[eW]);clear eW;replace hn:=hn.below a;replace c:=c.below a;refine(l7 d _ _ c (by omega)).mono ?_;rintro e3 w3 ⟨rfl,p⟩;replace X:=X.below p;replace Y:=Y.below p;replace R:=R.below p;replace S:=S.below p;replace i:=aa X.k2 (aa Y.k2 (aa R.g2 S.g2));replace b:=Keep.below p;replace hn:=hn.keep b;replace c:=c.keep b;replace a:=aC a p;by_cases h:d=1
 ·have z:decide (d=1)=true:=decide_eq_true h;have ac:g=1:=by rw[A,h];simp
  have T:Hid (n.tdiv g=n∧d.tdiv g=d):=by unfold Hid;rw[ac];exact⟨Int.tdiv_one n,Int.tdiv_one d⟩
  rw[z];clear z ac A N h;go_wp2_with fail;go_region
  all_goals (
   go_wp2_with fail;obtain⟨U0,x,R,a,b,e⟩:=R.put2 a (by omega) (.bool D) (.slice r B t) rfl rfl;replace X:=e X (by omega);replace Y:=e Y (by omega);replace S:=e S (by omega);replace hn:=hn.keep b;replace c:=c.keep b;obtain⟨W6,y,S,a,b,e⟩:=S.put2 a (by omega) (.bool E) (.slice s C u) rfl rfl;replace X:=e X (by omega);replace Y:=e Y (by omega);replace R:=e R (by omega);replace hn:=hn.keep b;replace c:=c.keep b;rw[x,y];clear x y;replace i:=aa X.k2 (aa Y.k2 (aa R.k2 S.k2));exact aK (v:= .tuple #[.agg #[.bool D,.slice r B t],.agg #[.bool E,.slice s C u]]) (by simp[results,Tryz.results120,go_sem,R.k2,S.k2]) rfl ⟨_,_,rfl,by rw[T.out.1];exact hn,by rw[T.out.2];exact c,a.drew⟩
  )
 ·have z:decide (d=1)=false:=decide_eq_false h;rw[z];clear z h;go_wp2_with fail;refine(pW n d _ _ _ (hG.below a) hn c K U bd (by unfold aI;omega)).mono ?_;rintro e4 L ⟨v4,rfl,f,q⟩;obtain⟨J,F,I,H,rfl⟩:=f.form;replace X:=X.below q;replace Y:=Y.below q;replace R:=R.below q;replace S:=S.below q;replace i:=aa X.k2 (aa Y.k2 (aa R.g2 S.g2));replace b:=Keep.below q;replace hn:=hn.keep b;replace c:=c.keep b;replace a:=aC a q;rw[<-A] at f;clear A;go_wp2_with fail;have af:=X.lt;have ag:=Y.lt;have ad:=R.lt;have ae:=S.lt;have aj:=a.size;obtain⟨w5,ab,o,G⟩:=bB L [.bool J,.slice F I H] 59;replace X:=X.below o;replace Y:=Y.below o;replace R:=R.below o;replace S:=S.below o;replace b:=Keep.below o;replace a:=aC a o;replace f:=f.keep b;replace hn:=hn.keep b;replace c:=c.keep b;rw[ab];clear ab;replace i:=aa X.k2 (aa Y.k2 (aa R.g2 (aa S.g2 G.k2)));have ah:=fun W h M=>nJ n g (.agg #[.bool D,.slice r B t]) (.agg #[.bool J,.slice F I H]) W h M N (by show nl n.natAbs+4*nl g+4<=_;omega);have ai:=fun W h M=>nJ d g (.agg #[.bool E,.slice s C u]) (.agg #[.bool J,.slice F I H]) W h M N (by show nl d.natAbs+4*nl g+4<=_;omega);replace hn:=hn.drew;replace c:=c.drew;replace f:=f.drew;replace X:=X.drew;replace Y:=Y.drew;replace R:=R.drew;replace S:=S.drew;replace G:=G.drew;replace a:=a.drew;replace i:=aa X.k2 (aa Y.k2 (aa R.g2 (aa S.g2 G.k2)));have al:w.heap.size+1+1≠w.heap.size:=by omega
  have am:w.heap.size+1+1≠w.heap.size+1:=by omega
  have ak:w.heap.size+1+1≠L.heap.size:=by omega
  have ao:w.heap.size+1+1+1≠w.heap.size:=by omega
  have ap:w.heap.size+1+1+1≠w.heap.size+1:=by omega
  have an:w.heap.size+1+1+1≠L.heap.size:=by omega
  go_region_held3 (fun O=>C2 O w.heap.size (.bool D) (.slice r B t)∧C2 O (w.heap.size+1) (.bool E) (.slice s C u)∧C2 O L.heap.size (.bool J) (.slice F I H))
   (first|(with_reducible exact⟨X.k2,Y.k2,G.k2⟩)|(refine⟨?_,?_,?_⟩<;>(repeat (first|with_reducible exact X.k2|with_reducible exact Y.k2|with_reducible exact G.k2|with_reducible refine dW al ?_|with_reducible refine dW am ?_|with_reducible refine dW ak ?_|with_reducible refine dW ao ?_|with_reducible refine dW ap ?_|with_reducible refine dW an ?_))))
   (first
    |(go_at_call 138;(with_reducible refine(ah _ hn f).mono ?_);rintro e7 w7 ⟨v7,rfl,j,l⟩;obtain⟨s7,P,k7,V,rfl⟩:=j.form;replace X:=X.below l;replace Y:=Y.below l;replace R:=R.below l;replace S:=S.below l;replace G:=G.below l;replace i:=aa X.k2 (aa Y.k2 (aa R.g2 (aa S.g2 G.k2)));replace b:=Keep.below l;replace hn:=hn.keep b;replace c:=c.keep b;replace f:=f.keep b;(try replace k:=k.keep b);replace a:=aC a l)
    |(go_at_call 138;(with_reducible refine(ai _ c f).mono ?_);rintro e8 w8 ⟨v8,rfl,k,m⟩;obtain⟨s8,Q,k8,Z,rfl⟩:=k.form;replace X:=X.below m;replace Y:=Y.below m;replace R:=R.below m;replace S:=S.below m;replace G:=G.below m;replace i:=aa X.k2 (aa Y.k2 (aa R.g2 (aa S.g2 G.k2)));replace b:=Keep.below m;replace hn:=hn.keep b;replace c:=c.keep b;replace f:=f.keep b;(try replace j:=j.keep b);replace a:=aC a m))
  all_goals (
   go_wp2_with fail;have af:=X.lt;have ag:=Y.lt;have ad:=R.lt;have ae:=S.lt;have aq:=G.lt;have aj:=a.size;obtain⟨U0,x,R,a,b,e⟩:=R.put2 a (by omega) (.bool s7) (.slice P k7 V) rfl rfl;replace X:=e X (by omega);replace Y:=e Y (by omega);replace S:=e S (by omega);replace G:=e G (by omega);replace j:=j.keep b;replace k:=k.keep b;obtain⟨W6,y,S,a,b,e⟩:=S.put2 a (by omega) (.bool s8) (.slice Q k8 Z) rfl rfl;replace X:=e X (by omega);replace Y:=e Y (by omega);replace R:=e R (by omega);replace G:=e G (by omega);replace j:=j.keep b;replace k:=k.keep b;rw[x,y];clear x y;replace i:=aa X.k2 (aa Y.k2 (aa R.k2 (aa S.k2 G.k2)));exact aK (v:= .tuple #[.agg #[.bool s7,.slice P k7 V],.agg #[.bool s8,.slice Q k8 Z]]) (by simp[results,Tryz.results120,go_sem,R.k2,S.k2]) rfl ⟨_,_,rfl,j,k,a⟩
  )
theorem Q7 (x y:Rat) (vx vy:Value) (w:World) (hG:Glob w) (hx:RatAt w vx x) (hy:RatAt w vy y) (z:¬(x.den=1∧y.den=1)) (K:Nat) (bx:RL K x) (bY:RL K y) (hK:10*K+20<=aI):
  Calls Tryz.prog 57 #[vx,vy] w (eP w (x*y)):=by
 obtain⟨s1,Q,k1,Z,s2,A2,k2,c2,rfl⟩:=hx.form;obtain⟨s3,S,k3,c3,s4,A4,k4,c4,rfl⟩:=hy.form;unfold aI at hK;obtain⟨g,hg⟩:∃g,g=Nat.gcd x.num.natAbs y.den:=⟨_,rfl⟩;obtain⟨h,hh⟩:∃h,h=Nat.gcd y.num.natAbs x.den:=⟨_,rfl⟩;have HP:=aB (Q5 x y g h hg hh);have⟨a3,a4⟩:=bx;have⟨a5,a6⟩:=bY;have bj:=fun W h=>qS x (.agg #[.bool s1,.slice Q k1 Z,.bool s2,.slice A2 k2 c2]) W h (by omega);have bk:=fun W h=>qS y (.agg #[.bool s3,.slice S k3 c3,.bool s4,.slice A4 k4 c4]) W h (by omega);have bh:=fun W u hG z C ay=>ES x.num y.den (.agg #[.bool s1,.slice Q k1 Z]) u W hG z C ay g hg K a3 a6 (by unfold aI;omega);have bi:=fun W u hG z C ay=>ES y.num x.den (.agg #[.bool s3,.slice S k3 c3]) u W hG z C ay h hh K a5 a4 (by unfold aI;omega);have cw:=iR x.num g K a3;have cx:=iR y.num h K a5;have b0:=iR (y.den:Int) g K a6;have b3:=iR (x.den:Int) h K a4;have cz:=kH x;have c0:=kH y;have au:bI x=0->bI y≠0:=fun e1 e2=>z ⟨eK.1 e1,eK.1 e2⟩;have bp:x.num=0∨y.num=0->x*y=0:=fun h=>by
  rcases h with h|h
  ·rw[Rat.num_eq_zero.1 h,Rat.zero_mul]
  ·rw[Rat.num_eq_zero.1 h,Rat.mul_zero]
 have HZ:=aB bp;clear bp z hg hh;obtain⟨W,eW,d,X,Y,R⟩:=fF w [.bool s1,.slice Q k1 Z,.bool s2,.slice A2 k2 c2] 66 [.bool s3,.slice S k3 c3,.bool s4,.slice A4 k4 c4] 66 [.bool false,.slice none 0 0,.bool false,.slice none 0 0] 66;have B:=aa X.g4 (aa Y.g4 R.g4);go_enter Tryz.func57,Tryz.ntmps57;go_wp2_with fail;(try rw[eW]);clear eW;have D:=(hx.below d).num;have E:=(hy.below d).num;generalize x.num.tdiv g=a1 at *;generalize y.num.tdiv h=a2 at *;generalize (y.den:Int).tdiv g=b1 at *;generalize (x.den:Int).tdiv h=b2 at *;refine(fD x.num _ _ D (by omega)).mono ?_;rintro e5 w5 ⟨rfl,aj⟩;replace X:=X.below aj;replace Y:=Y.below aj;replace R:=R.below aj;replace B:=aa X.k4 (aa Y.k4 R.g4);replace n:=Keep.below aj;replace D:=D.keep n;replace E:=E.keep n;replace d:=aC d aj;by_cases P:x.num=0
 ·have HQ:=aB (HZ.out (.inl P));rw[show decide (x.num=0)=true from decide_eq_true P];clear P;go_wp2_with fail;obtain⟨W6,G,R,d,n,ff⟩:=R.put4 d (by omega) (.bool false) (.slice none 0 0) (.bool false) (.slice none 0 0) rfl rfl;replace X:=ff X (by omega);replace Y:=ff Y (by omega);rw[G];clear G;replace B:=aa X.k4 (aa Y.k4 R.k4);exact aK (v:= .agg #[.bool false,.slice none 0 0,.bool false,.slice none 0 0]) (by simp[results,Tryz.results57,go_sem,R.k4]) rfl ⟨_,rfl,RatAt.of (IntAt.zero _) (IntAt.zero _) (by rw[HQ.out];rfl) (by rw[HQ.out];rfl),d⟩
 ·rw[show decide (x.num=0)=false from decide_eq_false P];go_wp2_with fail;refine(fD y.num _ _ E (by omega)).mono ?_;rintro e6 w6 ⟨rfl,ak⟩;replace X:=X.below ak;replace Y:=Y.below ak;replace R:=R.below ak;replace B:=aa X.k4 (aa Y.k4 R.g4);replace n:=Keep.below ak;replace D:=D.keep n;replace E:=E.keep n;replace d:=aC d ak;by_cases ae:y.num=0
  ·have HQ:=aB (HZ.out (.inr ae));rw[show decide (y.num=0)=true from decide_eq_true ae];clear P ae;go_wp2_with fail;obtain⟨W6,G,R,d,n,ff⟩:=R.put4 d (by omega) (.bool false) (.slice none 0 0) (.bool false) (.slice none 0 0) rfl rfl;replace X:=ff X (by omega);replace Y:=ff Y (by omega);rw[G];clear G;replace B:=aa X.k4 (aa Y.k4 R.k4);exact aK (v:= .agg #[.bool false,.slice none 0 0,.bool false,.slice none 0 0]) (by simp[results,Tryz.results57,go_sem,R.k4]) rfl ⟨_,rfl,RatAt.of (IntAt.zero _) (IntAt.zero _) (by rw[HQ.out];rfl) (by rw[HQ.out];rfl),d⟩
  ·rw[show decide (y.num=0)=false from decide_eq_false ae];have bt:Hid (x.num≠0):=P;have bu:Hid (y.num≠0):=ae;have ad:=(hx.below d).den;have af:=(hy.below d).den;clear P ae D E;generalize bI x=dx at *;generalize bI y=dy at *;go_upto_region 3 with fail;go_cut [25] (fun ch A=>ch= .bool false∧Bx A w.heap.size [.bool s1,.slice Q k1 Z,.bool s2,.slice A2 k2 c2] 66∧Bx A (w.heap.size+1) [.bool s3,.slice S k3 c3,.bool s4,.slice A4 k4 c4] 66∧Bx A (w.heap.size+1+1) [.bool false,.slice none 0 0,.bool false,.slice none 0 0] 66∧Below w.heap.size w A)
   case first=>
    go_wp2_with fail;refine(fD dx _ _ ad (by omega)).mono ?_;rintro e7 w7 ⟨rfl,al⟩;replace X:=X.below al;replace Y:=Y.below al;replace R:=R.below al;replace B:=aa X.k4 (aa Y.k4 R.g4);replace n:=Keep.below al;replace ad:=ad.keep n;replace af:=af.keep n;replace d:=aC d al;by_cases e:dx=0
    ·rw[show decide (dx=0)=true from decide_eq_true e];have bn:=au e;clear e au;go_wp2_with fail;refine(fD dy _ _ af (by omega)).mono ?_;rintro e8 w8 ⟨rfl,am⟩;replace X:=X.below am;replace Y:=Y.below am;replace R:=R.below am;replace B:=aa X.k4 (aa Y.k4 R.g4);replace n:=Keep.below am;replace ad:=ad.keep n;replace af:=af.keep n;replace d:=aC d am;rw[show decide (dy=0)=false from decide_eq_false bn];clear bn;go_wp2_with fail;go_meet;exact⟨rfl,X,Y,R,d⟩
    ·rw[show decide (dx=0)=false from decide_eq_false e];clear e au;go_wp2_with fail;go_meet;exact⟨rfl,X,Y,R,d⟩
   case rest=>
    clear X Y R d ad af au B;obtain⟨rfl,X,Y,R,d⟩:=hcut;generalize wc=N at *;have az:=hx.below d;have a0:=hy.below d;have ax:=hG.below d;have D:=az.num;have E:=a0.num;have B:=True.intro;replace B:=aa X.k4 (aa Y.k4 R.g4);go_wp2_with fail;have cs:=X.lt;have cu:=Y.lt;go_cut [5,6] (fun s5 s6 A=>∃j k,s5= .pointer (some ⟨j,0,none⟩)∧s6= .pointer (some ⟨k,0,none⟩)∧N.heap.size<=j∧N.heap.size<=k∧j≠k∧IntBx A j (a1)∧IntBx A k (b1)∧Below N.heap.size N A)
    case first=>
     go_region_held3 (fun c=>c.cell? ⟨w.heap.size,0,none⟩=some (.bool s1)∧c.cell? ⟨w.heap.size,1,none⟩=some (.slice Q k1 Z)∧c.cell? ⟨w.heap.size+1,0,none⟩=some (.bool s3)∧c.cell? ⟨w.heap.size+1,1,none⟩=some (.slice S k3 c3)∧c.cell? ⟨w.heap.size+1,2,none⟩=some (.bool s4)∧c.cell? ⟨w.heap.size+1,3,none⟩=some (.slice A4 k4 c4))
      (with_reducible exact⟨X.up.cell 0 rfl,X.up.cell 1 rfl,Y.up.cell 0 rfl,Y.up.cell 1 rfl,Y.up.cell 2 rfl,Y.up.cell 3 rfl⟩)
      (first
       |(go_at_call 121;(with_reducible refine(bk _ a0.up).mono ?_);rintro dh bq ⟨em,rfl,av,bb⟩;have b7:=bb.size;(try simp at b7);have:=St.mk bb;obtain⟨eg,ck,d5,c9,rfl⟩:=av.form)
       |(go_at_call 120;(with_reducible refine(bh _ _ ax.up D.up av.up bt.out).mono ?_);rintro di ag ⟨en,u14,rfl,s,ab,bc⟩;have b8:=bc.size;(try simp at b8);have:=St.mk bc;have T:=Up.out (a:=N) (b:=ag);have eb:=T.size;have dp:=av.up (b:=ag);(try have⟨_,_,_,_,_⟩:=pE N ag);(try have⟨_,_,_,_,_⟩:=pF N ag);(try have⟨_,_,_,_,_⟩:=pE bq ag);(try have⟨_,_,_,_,_⟩:=pF bq ag);obtain⟨sp,Ap,kp,cp,rfl⟩:=s.form;obtain⟨eh,cl,d6,da,rfl⟩:=ab.form))
     all_goals (
      go_wp2_with fail;go_meet;refine⟨_,_,rfl,rfl,by omega,by omega,by omega,?_⟩
      first
       |(with_reducible exact tS s ab T)
       |(with_reducible exact xS s ab T)
       |(with_reducible exact xT s ab (zb ‹_›) T (by omega))
       |(with_reducible exact xU (zb ‹_›) s ab T (by omega))
       |(with_reducible exact tR (zb ‹_›) (zb ‹_›) s ab (by omega) T (by omega) (by omega)))
    case rest=>
     obtain⟨j,k,rfl,rfl,dr,ds,dw,I5,I6,i⟩:=hcut;generalize wc=O at *;have V:=X.below i;have Y8:=Y.below i;have R8:=R.below i;have bm:=az.below i;have a9:=ax.below i;have bo:=E.below i;replace d:=aC d i;have d4:=i.size;have d2:=X.lt;have d3:=Y.lt;have d1:=R.lt;obtain⟨s5,A5,k5,c5,F,i5⟩:=I5;obtain⟨s6,A6,k6,c6,M,i6⟩:=I6;clear X Y R az a0 ax D E i bh bk B;go_wp2_with fail;have ct:=Y8.lt;have cr:=V.lt;go_cut [7,8] (fun s7 s8 A=>∃l m,s7= .pointer (some ⟨l,0,none⟩)∧s8= .pointer (some ⟨m,0,none⟩)∧O.heap.size<=l∧O.heap.size<=m∧l≠m∧IntBx A l (a2)∧IntBx A m (b2)∧Below O.heap.size O A)
     case first=>
      go_region_held3 (fun c=>c.cell? ⟨w.heap.size+1,0,none⟩=some (.bool s3)∧c.cell? ⟨w.heap.size+1,1,none⟩=some (.slice S k3 c3)∧c.cell? ⟨w.heap.size,0,none⟩=some (.bool s1)∧c.cell? ⟨w.heap.size,1,none⟩=some (.slice Q k1 Z)∧c.cell? ⟨w.heap.size,2,none⟩=some (.bool s2)∧c.cell? ⟨w.heap.size,3,none⟩=some (.slice A2 k2 c2))
       (with_reducible exact⟨Y8.up.cell 0 rfl,Y8.up.cell 1 rfl,V.up.cell 0 rfl,V.up.cell 1 rfl,V.up.cell 2 rfl,V.up.cell 3 rfl⟩)
       (first
        |(go_at_call 121;(with_reducible refine(bj _ bm.up).mono ?_);rintro dj br ⟨eo,rfl,aw,bf⟩;have b9:=bf.size;(try simp at b9);have:=St.mk bf;obtain⟨ei,cm,d7,db,rfl⟩:=aw.form)
        |(go_at_call 120;(with_reducible refine(bi _ _ a9.up bo.up aw.up bu.out).mono ?_);rintro dk ah ⟨ep,u16,rfl,s,ac,bg⟩;have cc:=bg.size;(try simp at cc);have:=St.mk bg;have U:=Up.out (a:=O) (b:=ah);have ec:=U.size;have dq:=aw.up (b:=ah);(try have⟨_,_,_,_,_⟩:=pE O ah);(try have⟨_,_,_,_,_⟩:=pF O ah);(try have⟨_,_,_,_,_⟩:=pE br ah);(try have⟨_,_,_,_,_⟩:=pF br ah);obtain⟨sp,Ap,kp,cp,rfl⟩:=s.form;obtain⟨ej,cn,d8,dc,rfl⟩:=ac.form))
      all_goals (
       go_wp2_with fail;go_meet;refine⟨_,_,rfl,rfl,by omega,by omega,by omega,?_⟩
       first
        |(with_reducible exact tS s ac U)
        |(with_reducible exact xS s ac U)
        |(with_reducible exact xT s ac (zb ‹_›) U (by omega))
        |(with_reducible exact xU (zb ‹_›) s ac U (by omega))
        |(with_reducible exact tR (zb ‹_›) (zb ‹_›) s ac (by omega) U (by omega) (by omega)))
     case rest=>
      obtain⟨l,m,rfl,rfl,dt,du,d0,I7,I8,i⟩:=hcut;generalize wc=t at *;replace F:=F.below i;replace M:=M.below i;have R9:=R8.below i;replace i5:=i5.below i;replace i6:=i6.below i;have dv:=F.lt;replace d:=aC d i;obtain⟨s7,A7,k7,c7,P7,i7⟩:=I7;obtain⟨s8,A8,k8,c8,P8,i8⟩:=I8;clear V Y8 R8 bm a9 bo bi bj i;have b5:=fun W z C=>iN a1 a2 (.agg #[.bool s5,.slice A5 k5 c5]) (.agg #[.bool s7,.slice A7 k7 c7]) W z C (by omega);have b6:=fun W z C=>iN b2 b1 (.agg #[.bool s8,.slice A8 k8 c8]) (.agg #[.bool s6,.slice A6 k6 c6]) W z C (by omega);have cy:=gL b2 b1 K K b3 b0;have b4:=fun W u v z C=>BD (x*y) (a1*a2) (b2*b1) u v W z C HP.out.1 HP.out.2 (by omega);go_wp2_with fail;have an:=F.lt;have ao:=M.lt;have ap:=P7.lt;have aq:=P8.lt;have KS:=aB (show∀c,Below t.heap.size t c->(c.cell? ⟨j,0,none⟩=some (.bool s5)∧c.cell? ⟨j,1,none⟩=some (.slice A5 k5 c5)∧c.cell? ⟨k,0,none⟩=some (.bool s6)∧c.cell? ⟨k,1,none⟩=some (.slice A6 k6 c6)∧c.cell? ⟨l,0,none⟩=some (.bool s7)∧c.cell? ⟨l,1,none⟩=some (.slice A7 k7 c7)∧c.cell? ⟨m,0,none⟩=some (.bool s8)∧c.cell? ⟨m,1,none⟩=some (.slice A8 k8 c8)) from fun c f=>⟨(f.cell (p:=⟨j,0,none⟩) an).trans (F.cell 0 rfl),(f.cell (p:=⟨j,1,none⟩) an).trans (F.cell 1 rfl),(f.cell (p:=⟨k,0,none⟩) ao).trans (M.cell 0 rfl),(f.cell (p:=⟨k,1,none⟩) ao).trans (M.cell 1 rfl),(f.cell (p:=⟨l,0,none⟩) ap).trans (P7.cell 0 rfl),(f.cell (p:=⟨l,1,none⟩) ap).trans (P7.cell 1 rfl),(f.cell (p:=⟨m,0,none⟩) aq).trans (P8.cell 0 rfl),(f.cell (p:=⟨m,1,none⟩) aq).trans (P8.cell 1 rfl)⟩);have H:w.heap.size+1+1≠j:=by omega
      have I:w.heap.size+1+1≠k:=by omega
      have J:w.heap.size+1+1≠l:=by omega
      have L:w.heap.size+1+1≠m:=by omega
      have KF:=aB (show∀(c:World) (u0 u1 u2 u3:Value),Below t.heap.size t c->(((((c.setCell ⟨w.heap.size+1+1,0,none⟩ u0).setCell ⟨w.heap.size+1+1,1,none⟩ u1).setCell ⟨w.heap.size+1+1,2,none⟩ u2).setCell ⟨w.heap.size+1+1,3,none⟩ u3).cell? ⟨j,0,none⟩=some (.bool s5)∧((((c.setCell ⟨w.heap.size+1+1,0,none⟩ u0).setCell ⟨w.heap.size+1+1,1,none⟩ u1).setCell ⟨w.heap.size+1+1,2,none⟩ u2).setCell ⟨w.heap.size+1+1,3,none⟩ u3).cell? ⟨j,1,none⟩=some (.slice A5 k5 c5)∧((((c.setCell ⟨w.heap.size+1+1,0,none⟩ u0).setCell ⟨w.heap.size+1+1,1,none⟩ u1).setCell ⟨w.heap.size+1+1,2,none⟩ u2).setCell ⟨w.heap.size+1+1,3,none⟩ u3).cell? ⟨k,0,none⟩=some (.bool s6)∧((((c.setCell ⟨w.heap.size+1+1,0,none⟩ u0).setCell ⟨w.heap.size+1+1,1,none⟩ u1).setCell ⟨w.heap.size+1+1,2,none⟩ u2).setCell ⟨w.heap.size+1+1,3,none⟩ u3).cell? ⟨k,1,none⟩=some (.slice A6 k6 c6)∧((((c.setCell ⟨w.heap.size+1+1,0,none⟩ u0).setCell ⟨w.heap.size+1+1,1,none⟩ u1).setCell ⟨w.heap.size+1+1,2,none⟩ u2).setCell ⟨w.heap.size+1+1,3,none⟩ u3).cell? ⟨l,0,none⟩=some (.bool s7)∧((((c.setCell ⟨w.heap.size+1+1,0,none⟩ u0).setCell ⟨w.heap.size+1+1,1,none⟩ u1).setCell ⟨w.heap.size+1+1,2,none⟩ u2).setCell ⟨w.heap.size+1+1,3,none⟩ u3).cell? ⟨l,1,none⟩=some (.slice A7 k7 c7)∧((((c.setCell ⟨w.heap.size+1+1,0,none⟩ u0).setCell ⟨w.heap.size+1+1,1,none⟩ u1).setCell ⟨w.heap.size+1+1,2,none⟩ u2).setCell ⟨w.heap.size+1+1,3,none⟩ u3).cell? ⟨m,0,none⟩=some (.bool s8)∧((((c.setCell ⟨w.heap.size+1+1,0,none⟩ u0).setCell ⟨w.heap.size+1+1,1,none⟩ u1).setCell ⟨w.heap.size+1+1,2,none⟩ u2).setCell ⟨w.heap.size+1+1,3,none⟩ u3).cell? ⟨m,1,none⟩=some (.slice A8 k8 c8)) from fun c u0 u1 u2 u3 f=>⟨(aT _ _ _ _ _ _ H).trans ((aT _ _ _ _ _ _ H).trans ((aT _ _ _ _ _ _ H).trans ((aT _ _ _ _ _ _ H).trans ((f.cell (p:=⟨j,0,none⟩) an).trans (F.cell 0 rfl))))),(aT _ _ _ _ _ _ H).trans ((aT _ _ _ _ _ _ H).trans ((aT _ _ _ _ _ _ H).trans ((aT _ _ _ _ _ _ H).trans ((f.cell (p:=⟨j,1,none⟩) an).trans (F.cell 1 rfl))))),(aT _ _ _ _ _ _ I).trans ((aT _ _ _ _ _ _ I).trans ((aT _ _ _ _ _ _ I).trans ((aT _ _ _ _ _ _ I).trans ((f.cell (p:=⟨k,0,none⟩) ao).trans (M.cell 0 rfl))))),(aT _ _ _ _ _ _ I).trans ((aT _ _ _ _ _ _ I).trans ((aT _ _ _ _ _ _ I).trans ((aT _ _ _ _ _ _ I).trans ((f.cell (p:=⟨k,1,none⟩) ao).trans (M.cell 1 rfl))))),(aT _ _ _ _ _ _ J).trans ((aT _ _ _ _ _ _ J).trans ((aT _ _ _ _ _ _ J).trans ((aT _ _ _ _ _ _ J).trans ((f.cell (p:=⟨l,0,none⟩) ap).trans (P7.cell 0 rfl))))),(aT _ _ _ _ _ _ J).trans ((aT _ _ _ _ _ _ J).trans ((aT _ _ _ _ _ _ J).trans ((aT _ _ _ _ _ _ J).trans ((f.cell (p:=⟨l,1,none⟩) ap).trans (P7.cell 1 rfl))))),(aT _ _ _ _ _ _ L).trans ((aT _ _ _ _ _ _ L).trans ((aT _ _ _ _ _ _ L).trans ((aT _ _ _ _ _ _ L).trans ((f.cell (p:=⟨m,0,none⟩) aq).trans (P8.cell 0 rfl))))),(aT _ _ _ _ _ _ L).trans ((aT _ _ _ _ _ _ L).trans ((aT _ _ _ _ _ _ L).trans ((aT _ _ _ _ _ _ L).trans ((f.cell (p:=⟨m,1,none⟩) aq).trans (P8.cell 1 rfl)))))⟩)
      go_region_held3 (fun c=>c.cell? ⟨j,0,none⟩=some (.bool s5)∧c.cell? ⟨j,1,none⟩=some (.slice A5 k5 c5)∧c.cell? ⟨k,0,none⟩=some (.bool s6)∧c.cell? ⟨k,1,none⟩=some (.slice A6 k6 c6)∧c.cell? ⟨l,0,none⟩=some (.bool s7)∧c.cell? ⟨l,1,none⟩=some (.slice A7 k7 c7)∧c.cell? ⟨m,0,none⟩=some (.bool s8)∧c.cell? ⟨m,1,none⟩=some (.slice A8 k8 c8))
       (first|(with_reducible exact KF.out _ _ _ _ _ (by with_reducible (repeat (first|exact aH _ _|refine ua ?_|refine ud ?_|refine ut ?_ o|refine ut ?_ q|refine ut ?_ r|refine us ?_ (by omega)))))|(exact KS.out _ (by with_reducible (repeat (first|exact aH _ _|refine ua ?_|refine ud ?_|refine ut ?_ o|refine ut ?_ q|refine ut ?_ r|refine us ?_ (by omega))))))
       (first
        |(go_at_call 110;(with_reducible refine(b5 _ (i5.below (by with_reducible (repeat (first|exact aH _ _|refine ua ?_|refine ud ?_|refine ut ?_ o|refine ut ?_ q|refine ut ?_ r|refine us ?_ (by omega))))) (i7.below (by with_reducible (repeat (first|exact aH _ _|refine ua ?_|refine ud ?_|refine ut ?_ o|refine ut ?_ q|refine ut ?_ r|refine us ?_ (by omega)))))).mono ?_);rintro dl ci ⟨eq,rfl,a7,o⟩;have cd:=o.size;(try simp at cd);have bv:Below t.heap.size t ci:=(by with_reducible (repeat (first|exact aH _ _|refine ua ?_|refine ud ?_|refine ut ?_ o|refine ut ?_ q|refine ut ?_ r|refine us ?_ (by omega))));have ed:=bv.size;obtain⟨ek,co,d9,de,rfl⟩:=a7.form)
        |(go_at_call 110;(with_reducible refine(b6 _ (i8.below (by with_reducible (repeat (first|exact aH _ _|refine ua ?_|refine ud ?_|refine ut ?_ o|refine ut ?_ q|refine ut ?_ r|refine us ?_ (by omega))))) (i6.below (by with_reducible (repeat (first|exact aH _ _|refine ua ?_|refine ud ?_|refine ut ?_ o|refine ut ?_ q|refine ut ?_ r|refine us ?_ (by omega)))))).mono ?_);rintro dm cj ⟨er,rfl,a8,q⟩;have ce:=q.size;(try simp at ce);have bw:Below t.heap.size t cj:=(by with_reducible (repeat (first|exact aH _ _|refine ua ?_|refine ud ?_|refine ut ?_ o|refine ut ?_ q|refine ut ?_ r|refine us ?_ (by omega))));have ee:=bw.size;obtain⟨el,cq,ea,df,rfl⟩:=a8.form)
        |(go_at_call 122;(with_reducible refine(b4 _ _ _ (a7.below (by with_reducible (repeat (first|exact aH _ _|refine ua ?_|refine ud ?_|refine ut ?_ o|refine ut ?_ q|refine ut ?_ r|refine us ?_ (by omega))))) (a8.below (by with_reducible (repeat (first|exact aH _ _|refine ua ?_|refine ud ?_|refine ut ?_ o|refine ut ?_ q|refine ut ?_ r|refine us ?_ (by omega)))))).mono ?_);rintro dn bs ⟨es,rfl,ar,r⟩;have cg:=r.size;(try simp at cg);have bz:Below t.heap.size t bs:=(by with_reducible (repeat (first|exact aH _ _|refine ua ?_|refine ud ?_|refine ut ?_ o|refine ut ?_ q|refine ut ?_ r|refine us ?_ (by omega))));have ef:=bz.size;have ba:Below t.heap.size t bs:=(by with_reducible (repeat (first|exact aH _ _|refine ua ?_|refine ud ?_|refine ut ?_ o|refine ut ?_ q|refine ut ?_ r|refine us ?_ (by omega))));have ai:=R9.below ba;have cv:=ai.g4;obtain⟨sa,Aa,ka,ca,sb,Ab,kb,cb,rfl⟩:=ar.form))
      all_goals (
       go_wp2_with fail;replace d:=aC d ba;obtain⟨W6,G,ai,d,n,ff⟩:=ai.put4 d (by omega) (.bool sa) (.slice Aa ka ca) (.bool sb) (.slice Ab kb cb) rfl rfl;replace ar:=ar.keep n;rw[G];clear G;replace B:=ai.k4;exact aK (v:= .agg #[.bool sa,.slice Aa ka ca,.bool sb,.slice Ab kb cb]) (by simp[results,Tryz.results57,go_sem,ai.k4]) rfl ⟨_,rfl,ar,d⟩
      )
theorem xM (x y:Rat) (a b:Value) (w:World) (k:Glob w) (i:RatAt w a x) (j:RatAt w b y) (K:Nat) (e:RL K x) (d:RL K y) (h:10*K+20<=aI):
  Calls Tryz.prog 57 #[a,b] w (eP w (x*y)):=by
 by_cases c:x.den=1∧y.den=1
 ·have f:x=(x.num:Rat):=Rat.ext (by simp) (by simp[c.1]);have g:y=(y.num:Rat):=Rat.ext (by simp) (by simp[c.2]);have:=QA x.num y.num a b w (by rw[<-f];exact i) (by rw[<-g];exact j) (by have:=e.1;have:=d.1;unfold aI at h;omega);rwa [Rat.intCast_mul,<-f,<-g] at this
 ·exact Q7 x y a b w k i j c K e d h
theorem IntAt.abs {w:World} {s:Bool} {u:Value} {n:Int} (h:IntAt w (.agg #[.bool s,u]) n):IntAt w (.agg #[.bool false,u]) (n.natAbs:Int):=by
 obtain⟨b,e,h⟩:=h;injection e with e;have a:=congrArg Array.toList e;simp only[List.cons.injEq] at a;obtain⟨-,rfl, -⟩:=a;exact⟨u,by rw[show decide (((n.natAbs:Nat):Int)<0)=false by simp],by rw[cI];exact h⟩
theorem EO (x:Int) (i:Value) (w:World) (h:IntAt w i x):Calls Tryz.prog 67 #[i] w (dB w (x.natAbs:Int)):=by
 obtain⟨m,c,e,d,rfl⟩:=h.form;have a:=h.abs;obtain⟨W,f,b,X,R⟩:=dI w [.bool m,.slice c e d] 59 [.bool false,.slice none 0 0] 59;have j:=aa X.g2 R.g2;go_enter Tryz.func67,Tryz.ntmps67;go_wp2_with fail;(try rw[f]);clear f;replace a:=a.below b;obtain⟨n,g,R,b,l,k⟩:=R.put2 b (by omega) (.bool false) (.slice c e d) rfl rfl;replace X:=k X (by omega);replace a:=a.keep l;rw[g];clear g;replace j:=aa X.k2 R.k2;exact aK (v:= .agg #[.bool false,.slice c e d]) (by simp[results,Tryz.results67,go_sem,R.k2]) rfl ⟨_,rfl,a,b⟩
theorem PY (x y:Int):(x<0->y<0->bN (y.natAbs:Int) (x.natAbs:Int)=bN x y)∧(x<0->¬y<0->bN x y= -1)∧(¬x<0->y<0->bN x y=1)∧(¬x<0->¬y<0->bN (x.natAbs:Int) (y.natAbs:Int)=bN x y):=by
 refine⟨fun h k=> ?_,fun h k=>gT (by omega),fun h k=>jQ (by omega),fun h k=> ?_⟩
 ·have a:=iH (y.natAbs:Int) (x.natAbs:Int);have b:=iH x y;omega
 ·rw[show((x.natAbs:Nat):Int)=x by omega,show((y.natAbs:Nat):Int)=y by omega]
theorem xL (x y:Int) (E F:Value) (w:World) (H:IntAt w E x) (I:IntAt w F y) (C:nl x.natAbs<=17592186044416) (B:nl y.natAbs<=17592186044416):
  Calls Tryz.prog 90 #[E,F] w (dK w (bN x y)):=by
 obtain⟨L,rfl,z⟩:=H;obtain⟨M,rfl,A⟩:=I;obtain⟨l,m,n,o⟩:=PY x y;obtain⟨J,f⟩:∃s,decide (x<0)=s:=⟨_,rfl⟩;obtain⟨D,d⟩:∃s,decide (y<0)=s:=⟨_,rfl⟩;rw[f,d];obtain⟨g,j,rfl, -⟩:=id z;obtain⟨i,k,rfl, -⟩:=id A;obtain⟨R,p⟩:∃R,bN x y=R:=⟨_,rfl⟩;rw[p] at l m n o⊢;have q:=fun W h u=>kK y.natAbs x.natAbs (.slice i (nl y.natAbs) k) (.slice g (nl x.natAbs) j) W h u B C;have r:=fun W h u=>kK x.natAbs y.natAbs (.slice g (nl x.natAbs) j) (.slice i (nl y.natAbs) k) W h u C B;cases J with
 |true=>
  have e:x<0:=of_decide_eq_true f;cases D with
  |true=>
   have c:y<0:=of_decide_eq_true d;rw[l e c] at q;clear l m n o r f d p e c;obtain⟨W,b,a,X,Y⟩:=dI w [.bool true,.slice g (nl x.natAbs) j] 59 [.bool true,.slice i (nl y.natAbs) k] 59;have t:=aa X.g2 Y.g2;go_enter Tryz.func90,Tryz.ntmps90;go_wp2_with fail;(try rw[b]);clear b;refine(q _ (A.below a) (z.below a)).mono ?_;rintro G K ⟨rfl,v⟩;go_wp2_with fail;go_ret;exact⟨rfl,aC a v⟩
  |false=>
   have c:¬y<0:=of_decide_eq_false d;obtain rfl:=m e c;clear l m n o q r f d p e c;obtain⟨W,b,a,X,Y⟩:=dI w [.bool true,.slice g (nl x.natAbs) j] 59 [.bool false,.slice i (nl y.natAbs) k] 59;have t:=aa X.g2 Y.g2;go_enter Tryz.func90,Tryz.ntmps90;go_wp2_with fail;(try rw[b]);clear b;go_ret;exact⟨rfl,a⟩
 |false=>
  have e:¬x<0:=of_decide_eq_false f;cases D with
  |true=>
   have c:y<0:=of_decide_eq_true d;obtain rfl:=n e c;clear l m n o q r f d p e c;obtain⟨W,b,a,X,Y⟩:=dI w [.bool false,.slice g (nl x.natAbs) j] 59 [.bool true,.slice i (nl y.natAbs) k] 59;have t:=aa X.g2 Y.g2;go_enter Tryz.func90,Tryz.ntmps90;go_wp2_with fail;(try rw[b]);clear b;go_ret;exact⟨rfl,a⟩
  |false=>
   have c:¬y<0:=of_decide_eq_false d;rw[o e c] at r;clear l m n o q f d p e c;obtain⟨W,b,a,X,Y⟩:=dI w [.bool false,.slice g (nl x.natAbs) j] 59 [.bool false,.slice i (nl y.natAbs) k] 59;have t:=aa X.g2 Y.g2;go_enter Tryz.func90,Tryz.ntmps90;go_wp2_with fail;(try rw[b]);clear b;refine(r _ (z.below a) (A.below a)).mono ?_;rintro G K ⟨rfl,v⟩;go_wp2_with fail;go_ret;exact⟨rfl,aC a v⟩
theorem EP (x:Rat) (d:Value) (w:World) (c:RatAt w d x) (g:nl x.num.natAbs<=17592186044416):
  Calls Tryz.prog 79 #[d] w (dK w x.num.sign):=by
 obtain⟨m,e,k,h,n,f,l,i,rfl⟩:=c.form;obtain⟨W,b,a,X⟩:=bB w [.bool m,.slice e k h,.bool n,.slice f l i] 66;have o:=X.g4;go_enter Tryz.func79,Tryz.ntmps79;go_wp2_with fail;(try rw[b]);clear b;have hn:=(c.below a).num;refine(pZ _ _ _ hn g).mono ?_;rintro p q ⟨rfl,j⟩;go_wp2_with fail;go_ret;exact⟨rfl,aC a j⟩
theorem EQ (x y:Rat):bN (x.num*y.den) (y.num*x.den)=(x-y).num.sign:=by
 rcases jU (x-y) with h|h|h
 ·have:x<y:=by grind
  rw[(fJ _).2 h,gT ((Rat.lt_iff x y).1 this)]
 ·have:x=y:=by grind
  rw[h,this,sQ];rfl
 ·have:y<x:=by grind
  rw[(fJ _).1 h,jQ ((Rat.lt_iff y x).1 this)]
theorem PZ {x y:Rat} (a:x.den=1) (b:y.den=1):bN x.num y.num=(x-y).num.sign:=by
 have:=EQ x y;rwa [a,b,show((1:Nat):Int)=1 from rfl,Int.mul_one,Int.mul_one] at this
theorem tO {x:Rat} (h:x<0):x.num<0:=by have:=o5 (show 0< -x by grind);rw[Rat.neg_num] at this;omega
theorem Q3 {x y:Rat} (h:x.num.sign≠y.num.sign):bN x.num y.num=(x-y).num.sign:=by
 rcases jU x with a|a|a<;>rcases jU y with b|b|b
 ·rw[(fJ x).2 a,(fJ y).2 b] at h;exact absurd rfl h
 ·rw[b] at *;rw[show Rat.num 0=0 from rfl];rw[(fJ _).2 (show x-0<0 by grind),gT (tO a)]
 ·have:=tO a;have:=o5 b
  rw[(fJ _).2 (show x-y<0 by grind),gT (by omega)]
 ·rw[a] at *;rw[show Rat.num 0=0 from rfl];rw[(fJ _).1 (show 0<0-y by grind),jQ (tO b)]
 ·rw[a,b] at h;exact absurd rfl h
 ·rw[a] at *;rw[show Rat.num 0=0 from rfl];rw[(fJ _).2 (show 0-y<0 by grind),gT (o5 b)]
 ·have:=o5 a;have:=tO b
  rw[(fJ _).1 (show 0<x-y by grind),jQ (by omega)]
 ·rw[b] at *;rw[show Rat.num 0=0 from rfl];rw[(fJ _).1 (show 0<x-0 by grind),jQ (o5 a)]
 ·rw[(fJ x).1 a,(fJ y).1 b] at h;exact absurd rfl h
theorem ER (x y:Rat) (vx vy:Value) (w:World) (d:RatAt w vx x) (e:RatAt w vy y) (K:Nat) (bx:RL K x) (bY:RL K y) (hK:4*K+8<=17592186044416):
  Calls Tryz.prog 74 #[vx,vy] w (dK w (x-y).num.sign):=by
 obtain⟨I,l,G,n,Z,L,S,N,rfl⟩:=d.form;obtain⟨J,m,H,o,s4,M,T,O,rfl⟩:=e.form;have⟨ao,ap⟩:=bx;have⟨aq,ar⟩:=bY;have C:=d.den;have E:=e.den;have D:=d.num;have F:=e.num;have au:=kH x;have av:=kH y;have m1:=gL x.num (y.den:Int) _ _ ao (show nl (y.den:Int).natAbs<=K from ar);have m2:=gL y.num (x.den:Int) _ _ aq (show nl (x.den:Int).natAbs<=K from ap);have zx:=fun W h=>fD (bI x) (.agg #[.bool Z,.slice L S N]) W h (by omega);have k:=fun W h=>fD (bI y) (.agg #[.bool s4,.slice M T O]) W h (by omega);have t:=fun W h=>EP x (.agg #[.bool I,.slice l G n,.bool Z,.slice L S N]) W h (by omega);have z:=fun W h=>EP y (.agg #[.bool J,.slice m H o,.bool s4,.slice M T O]) W h (by omega);have P:=fun W h=>qS x (.agg #[.bool I,.slice l G n,.bool Z,.slice L S N]) W h (by omega);have Q:=fun W h=>qS y (.agg #[.bool J,.slice m H o,.bool s4,.slice M T O]) W h (by omega);have U:=fun W u h A=>iN x.num (y.den:Int) (.agg #[.bool I,.slice l G n]) u W h A (by show nl x.num.natAbs+nl y.den<=_;omega);have V:=fun W u h A=>iN y.num (x.den:Int) (.agg #[.bool J,.slice m H o]) u W h A (by show nl y.num.natAbs+nl x.den<=_;omega);have s:=fun W u v h A=>xL (x.num*y.den) (y.num*x.den) u v W h A (by omega) (by omega);have g:=fun W h A=>xL x.num y.num (.agg #[.bool I,.slice l G n]) (.agg #[.bool J,.slice m H o]) W h A (by omega) (by omega);rw[EQ] at s;obtain⟨p,hp⟩:∃p,decide (bI x=0)=p:=⟨_,rfl⟩;obtain⟨q,hq⟩:∃q,decide (bI y=0)=q:=⟨_,rfl⟩;rw[hp] at zx;rw[hq] at k;have hI:p=true->q=true->bN x.num y.num=(x-y).num.sign:=fun h1 h2=>PZ (eK.1 (of_decide_eq_true (hp.trans h1))) (eK.1 (of_decide_eq_true (hq.trans h2)));have hS:x.num.sign≠y.num.sign->bN x.num y.num=(x-y).num.sign:=Q3;obtain⟨r,hr⟩:∃r,(x.num.sign != y.num.sign)=r:=⟨_,rfl⟩;have B:r=true->bN x.num y.num=(x-y).num.sign:=fun h=>hS (by rw[h] at hr;simpa using hr);unfold dB at P Q U V;unfold dK at t z s g;generalize (x-y).num.sign=R at *;generalize x.num.sign=sx at *;generalize y.num.sign=sy at *;clear hS bx bY ao ap aq ar au av m1 m2 hp hq;obtain⟨W,eW,f,X,Y⟩:=dI w [.bool I,.slice l G n,.bool Z,.slice L S N] 66 [.bool J,.slice m H o,.bool s4,.slice M T O] 66;have cM:=aa X.g4 Y.g4;go_enter Tryz.func74,Tryz.ntmps74;go_wp2_with fail;(try rw[eW]);clear eW;replace d:=d.below f;replace e:=e.below f;replace C:=C.below f;replace E:=E.below f;replace D:=D.below f;replace F:=F.below f;cases p with
 |false=>
  clear hI;cases r with
  |true=>
   rw[B rfl] at g;clear B k P Q U V s;have cX:=X.k4;have cY:=Y.k4
   first
    |(go_region_with (first
      |(go_at_call 76;(first|(with_reducible refine(zx _ C.up).mono ?_)|(with_reducible refine(k _ E.up).mono ?_));rintro e5 a ⟨rfl,i⟩;have:=St.mk i;have ac:=(X.up (b:=a)).k4;have ae:=(Y.up (b:=a)).k4)
      |(go_at_call 79;(first|(with_reducible refine(t _ d.up).mono ?_)|(with_reducible refine(z _ e.up).mono ?_));rintro e6 c ⟨rfl,j⟩;have:=St.mk j;have ad:=(X.up (b:=c)).k4;have af:=(Y.up (b:=c)).k4)))
    |fail
   all_goals (
    go_wp2_with fail;refine(g _ D.up F.up).mono ?_;rintro e7 w7 ⟨rfl,ab⟩;have:=St.mk ab;go_wp2_with fail;go_ret;exact⟨rfl,eG (b:=w7) f⟩)
  |false=>
   clear B k g;have cX:=X.k4;have cY:=Y.k4
   first
    |(go_region_with (first
      |(go_at_call 76;(first|(with_reducible refine(zx _ C.up).mono ?_)|(with_reducible refine(k _ E.up).mono ?_));rintro e5 a ⟨rfl,i⟩;have:=St.mk i;have ac:=(X.up (b:=a)).k4;have ae:=(Y.up (b:=a)).k4)
      |(go_at_call 79;(first|(with_reducible refine(t _ d.up).mono ?_)|(with_reducible refine(z _ e.up).mono ?_));rintro e6 c ⟨rfl,j⟩;have:=St.mk j;have ad:=(X.up (b:=c)).k4;have af:=(Y.up (b:=c)).k4)))
    |fail
   all_goals (
    go_wp2_with fail
    go_region_held3 (fun w'=>C4 w' w.heap.size (.bool I) (.slice l G n) (.bool Z) (.slice L S N)∧C4 w' (w.heap.size+1) (.bool J) (.slice m H o) (.bool s4) (.slice M T O)) (with_reducible exact⟨X.up.k4,Y.up.k4⟩)
     (first
      |(go_at_call 121;first|(with_reducible refine(Q _ e.up).mono ?_;rintro e8 w8 ⟨v8,rfl,h8,al⟩;have:=St.mk al)|(with_reducible refine(P _ d.up).mono ?_;rintro e9 w9 ⟨v9,rfl,h9,am⟩;have:=St.mk am))
      |(go_at_call 110;first|(with_reducible refine(U _ _ D.up h8.up).mono ?_;rintro aw a1 ⟨az,rfl,ag,ai⟩;have:=St.mk ai)|(with_reducible refine(V _ _ F.up h9.up).mono ?_;rintro ax a2 ⟨a0,rfl,ah,aj⟩;have:=St.mk aj))
      |(go_at_call 90;(with_reducible refine(s _ _ _ ag.up ah.up).mono ?_);rintro ay an ⟨rfl,ak⟩;have:=St.mk ak))
    all_goals (
     go_wp2_with fail;go_ret;exact⟨rfl,eG (b:=an) f⟩))
 |true=>
  cases q with
  |false=>
   clear hI;cases r with
   |true=>
    rw[B rfl] at g;clear B P Q U V s;have cX:=X.k4;have cY:=Y.k4
    first
     |(go_region_with (first
       |(go_at_call 76;(first|(with_reducible refine(zx _ C.up).mono ?_)|(with_reducible refine(k _ E.up).mono ?_));rintro e5 a ⟨rfl,i⟩;have:=St.mk i;have ac:=(X.up (b:=a)).k4;have ae:=(Y.up (b:=a)).k4)
       |(go_at_call 79;(first|(with_reducible refine(t _ d.up).mono ?_)|(with_reducible refine(z _ e.up).mono ?_));rintro e6 c ⟨rfl,j⟩;have:=St.mk j;have ad:=(X.up (b:=c)).k4;have af:=(Y.up (b:=c)).k4)))
     |fail
    all_goals (
     go_wp2_with fail;refine(g _ D.up F.up).mono ?_;rintro e7 w7 ⟨rfl,ab⟩;have:=St.mk ab;go_wp2_with fail;go_ret;exact⟨rfl,eG (b:=w7) f⟩)
   |false=>
    clear B g;have cX:=X.k4;have cY:=Y.k4
    first
     |(go_region_with (first
       |(go_at_call 76;(first|(with_reducible refine(zx _ C.up).mono ?_)|(with_reducible refine(k _ E.up).mono ?_));rintro e5 a ⟨rfl,i⟩;have:=St.mk i;have ac:=(X.up (b:=a)).k4;have ae:=(Y.up (b:=a)).k4)
       |(go_at_call 79;(first|(with_reducible refine(t _ d.up).mono ?_)|(with_reducible refine(z _ e.up).mono ?_));rintro e6 c ⟨rfl,j⟩;have:=St.mk j;have ad:=(X.up (b:=c)).k4;have af:=(Y.up (b:=c)).k4)))
     |fail
    all_goals (
     go_wp2_with fail
     go_region_held3 (fun w'=>C4 w' w.heap.size (.bool I) (.slice l G n) (.bool Z) (.slice L S N)∧C4 w' (w.heap.size+1) (.bool J) (.slice m H o) (.bool s4) (.slice M T O)) (with_reducible exact⟨X.up.k4,Y.up.k4⟩)
      (first
       |(go_at_call 121;first|(with_reducible refine(Q _ e.up).mono ?_;rintro e8 w8 ⟨v8,rfl,h8,al⟩;have:=St.mk al)|(with_reducible refine(P _ d.up).mono ?_;rintro e9 w9 ⟨v9,rfl,h9,am⟩;have:=St.mk am))
       |(go_at_call 110;first|(with_reducible refine(U _ _ D.up h8.up).mono ?_;rintro aw a1 ⟨az,rfl,ag,ai⟩;have:=St.mk ai)|(with_reducible refine(V _ _ F.up h9.up).mono ?_;rintro ax a2 ⟨a0,rfl,ah,aj⟩;have:=St.mk aj))
       |(go_at_call 90;(with_reducible refine(s _ _ _ ag.up ah.up).mono ?_);rintro ay an ⟨rfl,ak⟩;have:=St.mk ak))
     all_goals (
      go_wp2_with fail;go_ret;exact⟨rfl,eG (b:=an) f⟩))
  |true=>
   rw[hI rfl rfl] at g;clear B hI P Q U V s t z;have cX:=X.k4;have cY:=Y.k4
   first
    |(go_region_with (first
      |(go_at_call 76;(first|(with_reducible refine(zx _ C.up).mono ?_)|(with_reducible refine(k _ E.up).mono ?_));rintro e5 a ⟨rfl,i⟩;have:=St.mk i;have ac:=(X.up (b:=a)).k4;have ae:=(Y.up (b:=a)).k4)
      |(go_at_call 79;(first|(with_reducible refine(t _ d.up).mono ?_)|(with_reducible refine(z _ e.up).mono ?_));rintro e6 c ⟨rfl,j⟩;have:=St.mk j;have ad:=(X.up (b:=c)).k4;have af:=(Y.up (b:=c)).k4)))
    |fail
   all_goals (
    go_wp2_with fail;refine(g _ D.up F.up).mono ?_;rintro e7 w7 ⟨rfl,ab⟩;have:=St.mk ab;go_wp2_with fail;go_ret;exact⟨rfl,eG (b:=w7) f⟩)
theorem Q4 (n:Int) (w:World) (k: -9223372036854775808<=n) (a:n<=9223372036854775807):Calls Tryz.prog 92 #[.int .i64 n] w (eP w (n:Rat)):=by
 obtain⟨W,f,b,R⟩:=bB w [.bool false,.slice none 0 0,.bool false,.slice none 0 0] 66;have e:=R.g4;go_enter Tryz.func92,Tryz.ntmps92;go_wp2_with fail;(try rw[f]);clear f;refine(iM n _ k a).mono ?_;rintro o r ⟨q,rfl,a,h⟩;obtain⟨j,c,i,d,rfl⟩:=a.form;replace R:=R.below h;replace b:=aC b h;have e:=R.g4;go_wp2_with fail;obtain⟨m,g,R,b,l,p⟩:=R.put4 b (by omega) (.bool j) (.slice c i d) (.bool false) (.slice none 0 0) rfl rfl;replace a:=a.keep l;rw[g];clear g;replace e:=R.k4;exact aK (v:= .agg #[.bool j,.slice c i d,.bool false,.slice none 0 0]) (by simp[results,Tryz.results92,go_sem,R.k4]) rfl ⟨_,rfl,RatAt.int a (IntAt.zero _),b⟩
structure DivRes (A B Q R:List Rat) (K:Nat):Prop where
 id_:∀i,conv (cf Q) (cf B) i+cf R i=cf A i
 q_trim:aO Q
 r_trim:aO R
 r_lt:R.length<B.length
 q_len:Q.length<=A.length
 bq:∀q∈Q,RL K q
 br:∀q∈R,RL K q
theorem QT {ns:List Int} {F:Int} (hF:F≠0) (h:aO ns):aO (gH ns F):=by
 intro a b e;unfold gH at b;rw[List.getLast?_map] at b;cases hq:ns.getLast? with
 |none=>rw[hq] at b;simp at b
 |some n=>
  rw[hq] at b;simp only[Option.map_some,Option.some.injEq] at b;rw[e] at b;have c:(n:Rat)≠0:=fun e=>h n hq (Rat.intCast_inj.1 e);have d:(F:Rat)≠0:=fun e=>hF (Rat.intCast_inj.1 e);grind
theorem tU {ns:List Int} {E:Int} (d:E≠0) (h:aO ns):aO (ns.map (·*E)):=by
 intro a b e;rw[List.getLast?_map] at b;cases hq:ns.getLast? with
 |none=>rw[hq] at b;simp at b
 |some n=>
  rw[hq] at b;simp only[Option.map_some,Option.some.injEq] at b;rw[e] at b;rcases Int.mul_eq_zero.1 b with c|c
  ·exact h n hq c
  ·exact d c
theorem tV (ns:List Int) (F:Int) (i:Nat):cf (gH ns F) i=((cf ns i:Int):Rat)/F:=rT (fun n:Int=>(n:Rat)/(F:Rat)) (BH F) ns i
theorem y6 (ns:List Int) (E:Int) (i:Nat):cf (ns.map (·*E)) i=cf ns i*E:=rT (·*E) (Int.zero_mul E) ns i
theorem QZ {ls:List (List UInt8)} (h:¬ls.length<=65):vl ls=false:=by unfold vl;rw[decide_eq_false_iff_not];exact fun a=>h a.1
theorem RC (ls:List (List UInt8)):(aN ls).length=ls.length:=bK _
theorem RN {a m k:Nat} (h:1000000000^k*m<=a) (d:0<m):k<=3*nl a:=by
 have e:=cJ a;have f:1000000000^k*1<=1000000000^k*m:=dL _ d;have b:(2^29)^k<=1000000000^k:=Nat.pow_le_pow_left (by decide) k;have g:BN^nl a=2^(64*nl a):=by rw[Nat.pow_mul];rfl
 rw[<-Nat.pow_mul] at b;have c:2^(29*k)<2^(64*nl a):=by omega
 have:=(Nat.pow_lt_pow_iff_right (a:=2) (by decide)).1 c;omega
theorem Mg.grown {w w':World} {v:Value} {n:Nat} {k:Option Nat} (h:Mg w v n) (f:w.grownBy w' k) (t:∀g,k=some g->v.ownBlock≠some g):Mg w' v n:=by
 obtain⟨l,⟨A,c,rfl,q,r,h⟩,m,o⟩:=h;refine⟨l,⟨A,c,rfl,q,r,?_⟩,m,o⟩;rcases h with h|⟨b,rfl,j,p⟩
 ·exact .inl h
 ·refine .inr ⟨b,rfl,aU j f.size,fun i d s=> ?_⟩;exact(World.cell?_of_block (w:=w) (w':=w') (a:=⟨b,i,none⟩) (f.block b j (fun e=>t b e.symm (by simp[Value.ownBlock])))).trans (p i d s)
def PtAt (w:World) (B:Nat) (v:Value) (a:List Nat):Prop:=w.ownsRow B 211 1 v a.length (U a)
theorem PtAt.lt {w:World} {B:Nat} {v:Value} {a:List Nat} (h:PtAt w B v a):∀g,v.ownBlock=some g->B<=g∧g<w.heap.size:=World.ownsRow.lt h
theorem PtAt.below {w w':World} {B:Nat} {v:Value} {a:List Nat} (h:PtAt w B v a) (b:Below w.heap.size w w'):PtAt w' B v a:=by
 refine World.ownsRow.kept h (oQ b none) ?_;cases v.ownBlock with
 |none=>exact .inl rfl
 |some g=>exact .inr (by simp)
theorem PtAt.more {w w':World} {B r:Nat} {v c:Value} {b:List Nat} {o:Obj} (k:w'.ownsRow B 211 1 c (b.length+1) (U b++[.int .u32 (r:Int)])) (a:(w.alloc o).grownBy w' v.ownBlock) (d:c.ownBlock=v.ownBlock∨c.ownBlock=some (w.alloc o).heap.size):
  PtAt w' B c (b++[r])∧TxtTo w v w' c:=by
 refine⟨by unfold PtAt;rw[aY,show U (b++[r])=U b++[.int .u32 (r:Int)] by unfold U;rw[List.map_append];rfl];exact k,⟨a.os,a.tape,a.output,aG (by simp) a.size,fun i f j=>(a.block i (by simp;omega) j).trans (Below.heap_alloc w o i f)⟩,fun g e=> ?_⟩;rcases d with h|h
 ·left;rw[<-h];exact e
 ·right;rw[h] at e;simp at e;omega
def y8 (w:World) (l:List UInt8) (e:Ending) (w':World):Prop:=e= .returned (.string ⟨l.toArray⟩)∧Below w.heap.size w w'
theorem F7 (x:Int) (vx:Value) (w:World) (J:NI w vx x) (lx:nl x.natAbs<=1099511627776):
  Calls Tryz.prog 134 #[vx] w (y8 w (Lib.decDigits x.natAbs)):=by
 obtain⟨s,A,k,c,rfl⟩:=J.form;have z:=J.words.len.1;obtain⟨W,eW,t,XB⟩:=bB w [.bool s,.slice A k c] 79;have cM:=XB.k2;clear XB;have G:=(J.below t).words;have ho:∀g,(Value.slice A k c).ownBlock=some g->k≠0->g<w.heap.size:=fun g F o=>by
  obtain⟨ds,⟨A',c',e,hc,hd,h⟩,O,h3⟩:=J.words;simp only[Value.slice.injEq] at e;obtain⟨rfl,rfl,rfl⟩:=e;rcases h with h|⟨b,rfl,hl,hB⟩
  ·rw[h] at o;exact absurd rfl o
  ·simp[Value.ownBlock] at F;omega
 generalize x.natAbs=a at *;by_cases o:a=0
 ·have ag:k=0:=z.2 o;subst o;subst ag;rw[show Lib.decDigits 0=[48] from x9];clear z G J ho;go_enter Tryz.func134,Tryz.ntmps134;go_wp2_with fail;go_ret;exact⟨rfl,t⟩
 ·have ah:k≠0:=fun e=>o (z.1 e);have q0:((k:Int)==0)=false:=by simpa using ah
  have H:=fun g F=>ho g F ah;have H0:=aB o;clear z ho o ah J;go_enter Tryz.func134,Tryz.ntmps134;go_wp2_with fail;(try rw[eW]);clear eW;go_loopg [3,4] a (fun g s3 s4 wr=>∃(d:List Nat) (A:Option Addr) (k c m:Nat),Hid (m<=g)∧s4= .slice A k c∧PtAt wr w.heap.size s3 d∧Mg wr s4 m∧Hid (gI d+1000000000^d.length*m=a)∧(∀p∈d,p<1000000000)∧Hid (∀g,s3.ownBlock=some g->(Value.slice A k c).ownBlock≠some g)∧Hid (∀g,(Value.slice A k c).ownBlock=some g->g<wr.heap.size)∧nl m<=1099511627776∧d.length<=3298534883329∧Below w.heap.size w wr)
  case atStart=>exact⟨[],A,k,c,a,aE,rfl,World.ownsRow_nil _ _ _ _,G,by unfold Hid;simp[gI],(fun p f=>by cases f),(fun g F=>by simp[Value.ownBlock] at F),(fun g F=>aU (H g F) t.size),lx,by simp,t⟩
  case round=>
   clear G t H;obtain⟨d,A,k,c,m,HG,rfl,X,G,S,ai,HA,HO,lm,bu,t⟩:=hrel;generalize wr=n at *;have z:=G.len.1;by_cases o:m=0
   ·have ag:k=0:=z.2 o;subst ag;have hv:gI d=a:=by have:=S.out;rw[o,Nat.mul_zero,Nat.add_zero] at this;exact this
    have hD:=Ds.row X rfl (fun p f=>Nat.lt_trans (ai p f) (by decide));obtain⟨AP,cP,rfl,bm⟩:=hD.form;have ak:=aB hv;clear z hv X G S HA HO HG o;go_wp2_with fail;go_loopg [7,8] d.length (fun k s7 s8 wr=>∃i:Int,Hid (i+1=k)∧s8= .int .i64 i∧ -1<=i∧i<d.length∧TxtAt wr n.heap.size s7 (dz (gI (d.drop k)))∧Below n.heap.size n wr)
    case atStart=>exact⟨(d.length:Int)-1,by unfold Hid;omega,rfl,by omega,by omega,by rw[List.drop_length];exact World.ownsRow_nil _ _ _ _,aH _ _⟩
    case round=>
     obtain⟨i,HI,rfl,bn,bo,u,y⟩:=hrel;generalize wr=wy at *;cases gk with
     |zero=>
      have hi:¬0<=i:=by have:=HI.out;omega
      have Y:=u.str;have E:dz (gI (d.drop 0))=Lib.decDigits a:=by rw[List.drop_zero,ak.out];unfold dz;rw[if_neg H0.out]
      rw[E] at Y;have M:=aB E;clear E;go_wp2_with fail;go_ret;exact⟨rfl,aC t y⟩
     |succ k=>
      have a8:i=(k:Int):=by have:=HI.out;omega
      subst a8;obtain⟨p,f⟩:∃p,d[k]? =some p:=⟨_,aL (by omega)⟩;have bg:=ai p (cH f);obtain⟨gp,rfl,a7,al⟩:=hD.at_ f;have a5:=fun (W:World) (t:Below n.heap.size n W)=>(t.cell (p:=⟨gp,k,none⟩) a7).trans al;have ab:=RQ f;have au:=RR d k;rw[ab,ak.out] at au;have a0:=aB ab;clear ab f al;generalize gI (d.drop (k+1))=V at *;go_wp2_with fail;go_loopg [7,9] 9 (fun m s7 s9 wr=>∃j,Hid (j+m=9)∧s9= .int .u32 (tn j:Int)∧TxtAt wr n.heap.size s7 (dz (V*10^j+p/10^(9-j)))∧Below n.heap.size n wr)
      case atStart=>exact⟨0,by unfold Hid;omega,rfl,by rw[Nat.pow_zero,Nat.mul_one,Nat.div_eq_of_lt (show p<10^(9-0) by simpa using bg),Nat.add_zero];exact u,y⟩
      case round=>
       clear u y;obtain⟨j,R,rfl,u,y⟩:=hrel;generalize wr=wz at *;cases gk with
       |zero=>
        have hj:j=9:=R.out;subst hj;rw[show V*10^9+p/10^(9-9)=gI (d.drop k) by rw[a0.out,Nat.sub_self,Nat.pow_zero,Nat.div_one,dD,Nat.add_comm]] at u;have t9:((tn 9:Nat):Int)=0:=rfl;go_wp2_with fail;go_roundg k
        case rel=>exact⟨(k:Int)-1,by unfold Hid;omega,by go_num,by omega,by omega,u,y⟩
        case measure=>omega
       |succ m=>
        have ar:j<=8:=by have:=R.out;omega
        obtain⟨t1,t2,t3⟩:=RS ar;have Y:=RT (v:=V) (p:=p) ar;have he:p/tn j%10<10:=Nat.mod_lt _ (by decide);have E:=RO (v:=V*10^j+p/10^(9-j)) he;rw[<-Y] at E;have bi:=a5 wz y;have M:=aB E;have T1:=aB t1;clear Y E t1;have aw:V*10^j+p/10^(9-j)<=a:=by
         have T:V*10^j<=V*10^9:=dL _ (cE (by decide) (by omega));have O:=Nat.div_le_self p (10^(9-j));omega
        generalize V*10^j+p/10^(9-j)=v at *;have hL:(dz v).length<=21990232555541:=by
         unfold dz;split
         ·simp
         ·have:=tG v _ (bX aw);omega
        have an:(dz v).length=0↔v=0:=by
         unfold dz;split
         ·simp[*]
         ·have T:=Lib.decDigits_length v;have O:=Lib.nDigits_pos v;omega
        have bt:p/tn j<=p:=Nat.div_le_self _ _;have x1:(p:Int)/((tn j:Nat):Int)=((p/tn j:Nat):Int):=(Int.natCast_ediv _ _).symm;have x2:((p/tn j:Nat):Int)%10=((p/tn j%10:Nat):Int):=(Int.natCast_emod _ _).symm;have hc:((UInt8.ofNat (48+p/tn j%10)).toNat:Int)=48+((p/tn j%10:Nat):Int):=by rw[qN he];rfl
        obtain⟨Ao,co,rfl⟩:=u.slice;have bb:=u.lt;generalize p/tn j%10=e at *;generalize p/tn j=pd at *;have x3:decide (0<tn j)=true:=by simpa using t2
        generalize tn j=D at *;generalize am:dz v=L at *;have HC:=aB hc;clear hc;have aj:=aB an;have bh:=aB am;clear an am au aw;by_cases P:v=0∧e=0
        ·have C:=M.out;rw[if_pos P] at C;have Z:=aB C;have a9:L=[]:=bM (aj.out.2 P.1);obtain⟨-,rfl⟩:=P;subst a9;clear C M HC;go_wp2_with fail;go_roundg m
         case rel=>exact⟨j+1,by have:=R.out;unfold Hid;omega,by rw[<-T1.out];rfl,by rw[Z.out];exact u,y⟩
         case measure=>omega
        ·have C:=M.out;rw[if_neg P] at C;have Z:=aB C;have bf:decide (0<L.length)=true∨decide (0<L.length)=false∧((48:Int)+(e:Int) != 48)=true:=by
          by_cases h:L.length=0
          ·exact .inr ⟨by rw[decide_eq_false_iff_not];omega,by rw[bne_iff_ne];have:=aj.out.1 h;omega⟩
          ·exact .inl (by rw[decide_eq_true_iff];omega)
         have a3:wz.ownsRow n.heap.size 5 1 (.slice Ao L.length co) L.length (Lib.byteCells L):=u;have bv:=y.size;clear C M P;rcases bf with r1|⟨r1,r2⟩
         all_goals (
          go_wp2_with (at_builtin;refine fE rfl rfl 5 _ 1 1 Tryz.underlying177 kP rfl (by decide) n.heap.size (.slice Ao L.length co) L.length _ rfl (a3.alloc _) [.int .u8 (48+(e:Int))] rfl (by simp) (j0 _ _ _) (by simp[Value.oneCell']) (by omega) (by omega) (by simp;omega) ?_;intro q1 w6 H af ac);rw[<-HC.out] at H;obtain⟨I,a4⟩:=TxtAt.more (bs:=L) (l:=[UInt8.ofNat (48+e)]) H af ac;have ae:=a4.belowB (B:=n.heap.size) y.size (fun g h=>(bb g h).1);go_wp2_with fail;go_roundg m
          case rel=>exact⟨j+1,by have:=R.out;unfold Hid;omega,by rw[<-T1.out];rfl,by rw[Z.out];exact I,y.trans ae⟩
          case measure=>omega)
   ·have hd:decide (0<k)=true:=by have:=fun e=>o (z.1 e);simp;omega
    have ba:=RN (a:=a) (by have:=S.out;omega:1000000000^d.length*m<=a) (by omega);clear z;go_wp2_with fail;have av:Calls Tryz.prog 177 #[.slice A k c,.int .u32 1000000000] n (AN n m 1000000000):=AO m 1000000000 _ n G lm (by decide) (by decide);refine av.mono ?_;rintro e1 w1 ⟨v1,rfl,T,hf,ad⟩;obtain⟨K,Q,N,rfl⟩:=T.form;have ao:=X.below ad;have a1:w1.ownsRow w.heap.size 211 1 u3 d.length (U d):=ao;have aq:=aC t ad;have hr:m%1000000000<1000000000:=Nat.mod_lt _ (by decide);have br:m/1000000000<m:=Nat.div_lt_self (by omega) (by decide);have a6:=Nat.mod_add_div m 1000000000;have bq:nl (m/1000000000)<=nl m:=bX (by omega);have bp:=ba;clear av hd;generalize m%1000000000=r at *;generalize m/1000000000=q at *;have bk:=ad.size;have bj:=t.size;go_wp2_with (at_builtin;refine fE rfl rfl 211 _ 1 4 Tryz.underlying77 mJ rfl (by decide) w.heap.size u3 d.length _ rfl (a1.alloc _) [.int .u32 (r:Int)] rfl (by simp) (j0 _ _ _) (by simp[Value.oneCell']) (by omega) (by omega) (by simp;omega) ?_;intro q1 w6 H af ac);obtain⟨a2,I⟩:=PtAt.more H af ac;have hu:=ao.lt;have ap:∀g,u3.ownBlock=some g->(Value.slice K Q N).ownBlock≠some g:=fun g h e=>by
     have:=(hf g e).1;have:=(X.lt g h).2;omega
    have bc:Mg w6 (.slice K Q N) q:=T.grown I.1 ap;have ae:=I.belowB (B:=w.heap.size) aq.size (fun g h=>(hu g h).1);have ax:Hid (∀g,q1.ownBlock=some g->(Value.slice K Q N).ownBlock≠some g):=fun g h e=>by
     rcases I.2 g h with O|O
     ·exact ap g O e
     ·have:=(hf g e).2;omega
    have ay:Hid (∀g,(Value.slice K Q N).ownBlock=some g->g<w6.heap.size):=fun g h=>aU (hf g h).2 I.1.size;have az:Hid (gI (d++[r])+1000000000^(d++[r]).length*q=a):=by
     unfold Hid;rw[RP,aY,List.length_singleton,cU,<-S.out,<-a6,Nat.mul_add];grind
    obtain⟨g,rfl⟩:∃g,gk=g+1:=⟨gk-1,by have:=HG.out;omega⟩;go_wp2_with fail;go_roundg g
    case rel=>exact⟨d++[r],K,Q,N,q,by have:=HG.out;unfold Hid;omega,rfl,a2,bc,az,(fun p f=>by
     rcases List.mem_append.1 f with f|f
     ·exact ai p f
     ·rw[List.mem_singleton.1 f];exact hr),ax,ay,by omega,by rw[aY,List.length_singleton];omega,aq.trans ae⟩
    case measure=>omega
theorem y7 (q:Rat) (v:Value) (w:World) (hv:NQ w v q) (K:Nat) (i:RL K q) (O:K<=549755813888):Calls Tryz.prog 64 #[v] w (y8 w (bD q)):=by
 obtain⟨s,A,k,c,C,p,j,x,rfl⟩:=hv.form;have o:=hv.num.neg;have z:=hv.len;have F:=fun W h=>F7 q.num (.agg #[.bool s,.slice A k c]) W h (aG i.1 (by omega));have G:=fun W h=>F7 (bI q) (.agg #[.bool C,.slice p j x]) W h (aG (kH q) (aG i.2 (by omega)));have P:=tG q.num.natAbs K i.1;have Q:=tG (bI q).natAbs K (aG (kH q) i.2);have t:Hid (bD q=(if s=true then [45] else [])++Lib.decDigits q.num.natAbs++(if q.den=1 then [] else 47 :: Lib.decDigits (bI q).natAbs)):=by
  unfold Hid bD;rw[o];by_cases h:q.den=1
  ·simp[h]
  ·rw[kZ h];simp[h]
 generalize Lib.decDigits q.num.natAbs=g at *;generalize Lib.decDigits (bI q).natAbs=l at *;have T:(⟨g.toArray⟩:ByteArray).size=g.length:=by simp[ByteArray.size]
 have U:(⟨l.toArray⟩:ByteArray).size=l.length:=by simp[ByteArray.size]
 have L:=aB o;have J:=aB z;clear o z;obtain⟨W,y,d,B⟩:=bB w [.bool s,.slice A k c,.bool C,.slice p j x] 81;have D:=B.g4;go_enter Tryz.func64,Tryz.ntmps64;go_wp2_with fail;(try rw[y]);clear y;replace hv:=hv.below d;refine(F _ hv.num).mono ?_;rintro M R ⟨rfl,n⟩;replace B:=B.below n;replace D:=B.k4;replace H:=KM.below n;replace hv:=hv.keep H;replace d:=aC d n;have f:=hv.den.words.len.1;rw[Int.natAbs_eq_zero,eK] at f;have u:∀a b:List UInt8,(⟨a.toArray⟩:ByteArray)++⟨b.toArray⟩=⟨(a++b).toArray⟩:=fun a b=>by
  rw[ByteArray.ext_iff];simp
 have r:=aB u;clear u;by_cases e:q.den=1
 ·have I:decide (0<j)=false:=by rw[f.2 e];rfl
  have m:Hid (bD q=(if s=true then [45] else [])++g):=by unfold Hid;rw[t.out,if_pos e,List.append_nil]
  clear f e;cases s
  all_goals (
   go_wp2_with fail;go_ret;exact⟨by rw[m.out];simp[r.out]<;>rfl,d⟩)
 ·have I:decide (0<j)=true:=by rw[decide_eq_true_iff];exact Nat.pos_of_ne_zero fun h=>e (f.1 h)
  have m:Hid (bD q=(if s=true then [45] else [])++g++47 :: l):=by unfold Hid;rw[t.out,if_neg e]
  clear f e;cases s
  all_goals (
   go_wp2_with fail;refine(G _ hv.den).mono ?_;rintro N S ⟨rfl,E⟩;go_wp2_with fail;go_ret;exact⟨by rw[m.out];simp[r.out]<;>rfl,aC d E⟩)
end Go.Proofs.YthfnenohhindpaaGreatDoor
namespace Go.Proofs.YthfnenohhindpaaGreatDoor
open Sos Lib
def eS (s:List UInt8):List UInt8:=if s.head?==some 45 then s.tail else s
theorem RU (s:List UInt8):(eS s).length<=s.length:=by unfold eS;split<;>simp
structure CutN (t:List UInt8) (k:Nat):Prop where
 le:k<=t.length
 head:t.takeWhile iU=t.take k
 rest:t.dropWhile iU=t.drop k
theorem CutN.stop {t:List UInt8} {k:Nat} (h:∀c∈t.take k,iU c=true) (b:k<=t.length) (a:t.length<=k∨∃c,t[k]? =some c∧iU c=false):CutN t k:=
 ⟨b,(tK h a).1,(tK h a).2⟩
structure Found (s:List UInt8) (q:Rat):Prop where
 ok:rd s=decide (bD q=s)
 val:∀r,d7 s=some r->q=r
theorem RV {s:List UInt8} {q:Rat} (h:jB s=some q):Found s q:=by
 refine⟨?_,fun r b=> ?_⟩
 ·unfold rd;by_cases e:bD q=s
  ·rw[(u9 s).2 q h e,decide_eq_true e];rfl
  ·rw[decide_eq_false e];cases b:d7 s with
   |none=>rfl
   |some r=>
    obtain⟨a,c⟩:=(u9 s).1 r b;rw[h] at a;injection a with a;exact absurd (by rw[a];exact c) e
 ·have:=((u9 s).1 r b).1;rw[h] at this;injection this
theorem y9 {s:List UInt8} (h:jB s=none):rd s=false∧∀q r:Rat,d7 s=some r->q=r:=by
 have e:d7 s=none:=by
  cases a:d7 s with
  |none=>rfl
  |some r=>rw[((u9 s).1 r a).1] at h;cases h
 exact⟨by unfold rd;rw[e];rfl,fun q r a=>by rw[e] at a;cases a⟩
section
variable {s:List UInt8} {k:Nat} (h:CutN (eS s) k)
include h
theorem RX (hn:¬((eS s).take k≠[]∧((eS s).take k).all bC=true)):jB s=none:=by
 unfold jB;simp only[];rw[show(if (s.head?==some 45)=true then s.tail else s)=eS s from rfl,h.head,if_neg hn]
theorem RY (hn:(eS s).take k≠[]∧((eS s).take k).all bC=true) (a:k=(eS s).length):jB s=some ((dO (s.head?==some 45) (aM ((eS s).take k)):Int):Rat):=by
 unfold jB;simp only[];rw[show(if (s.head?==some 45)=true then s.tail else s)=eS s from rfl,h.head,h.rest,if_pos hn,a,List.drop_length]
theorem RZ (hn:(eS s).take k≠[]∧((eS s).take k).all bC=true) (a:k<(eS s).length):
  jB s=if (eS s).drop (k+1)≠[]∧((eS s).drop (k+1)).all bC=true∧aM ((eS s).drop (k+1))≠0 then some (((dO (s.head?==some 45) (aM ((eS s).take k)):Int):Rat)/((aM ((eS s).drop (k+1)):Int):Rat)) else none:=by
 unfold jB;simp only[];rw[show(if (s.head?==some 45)=true then s.tail else s)=eS s from rfl,h.head,h.rest,if_pos hn,List.drop_eq_getElem_cons a]
end
