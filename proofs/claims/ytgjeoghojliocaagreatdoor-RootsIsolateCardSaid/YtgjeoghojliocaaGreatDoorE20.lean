/- Laws. -/
import Derived.Test.YtgjeoghojliocaaGreatDoorE19
set_option linter.all false
set_option maxHeartbeats 8000000
set_option maxRecDepth 99999
namespace Go.Proofs.YtgjeoghojliocaaGreatDoor
open Go.RowKit Sos Tryz
def UW(x y:Rat)(a b:Value)(w:World)(i:Glob w)(g:RatAt w a x)(h:RatAt w b y)(K:Nat)(e:RL K x)(d:RL K y)(j:20*K+60<=aJ):
  Calls prog 43 #[a,b] w (iF w (x+y)):=by
 by_cases f:x.den=1
 ·by_cases c:y.den=1
  ·exact J7 x y a b w g h f c K e d (by omega)
  ·exact UZ x y a b w g h f c K e d (by omega)
 ·by_cases c:y.den=1
  ·exact J8 x y a b w g h f c K e d (by omega)
  ·exact UY x y a b w i g h f c K e d j
def VK(a b:Nat):nl (Nat.lcm a b)<=nl a+nl b:=by
 refine aH (cK ?_) (fI a b);unfold Nat.lcm;exact Nat.div_le_self _ _
structure ComDen(qs:List Rat)(D:Int)(B:Nat):Prop where
 pos:0<D
 dvd:∀q∈qs,(q.den:Int)∣D
 nl_:nl D.natAbs<=B
def VL(w:World)(a:List Rat)(B:Nat)(e:Ending)(w':World):Prop:=∃v D,e= .returned v∧IntAt w' v D∧ComDen a D B∧Below w.heap.size w w'
def ComDen.skip{b:List Rat}{D:Int}{j K:Nat}{q:Rat}(h:ComDen (b.take j) D (1+j*K))(d:b[j]? =some q)(c:(q.den:Int)∣D):ComDen (b.take (j+1)) D (1+(j+1)*K):=by
 refine⟨h.pos,fun x a=> ?_,by have:=h.nl_;rw[Nat.succ_mul];omega⟩;rw[kR,d,Option.toList_some] at a;rcases List.mem_append.1 a with a|a
 ·exact h.dvd x a
 ·simp at a;subst a;exact c
def ComDen.lcm{b:List Rat}{D:Int}{j K:Nat}{q:Rat}(h:ComDen (b.take j) D (1+j*K))(d:b[j]? =some q)(g:nl q.den<=K):ComDen (b.take (j+1)) ((Nat.lcm D.natAbs q.den:Nat):Int) (1+(j+1)*K):=by
 have f:=h.pos;have e:Nat.lcm D.natAbs q.den≠0:=Nat.lcm_ne_zero (by omega) q.den_nz;refine⟨by omega,fun x a=> ?_,?_⟩
 ·rw[kR,d,Option.toList_some] at a;rcases List.mem_append.1 a with a|a
  ·have c:=h.dvd x a;refine Int.ofNat_dvd.2 (Nat.dvd_trans ?_ (Nat.dvd_lcm_left _ _));exact Int.ofNat_dvd_left.1 c
  ·simp at a;subst a;exact Int.ofNat_dvd.2 (Nat.dvd_lcm_right _ _)
 ·rw[dD,Nat.succ_mul];have:=VK D.natAbs q.den;have:=h.nl_;omega
def VM(g:List Rat)(v:Value)(w:World)(hG:Glob w)(hv:RatsAt w v g)(K T:Nat)(hK:∀q∈g,RL K q)(hl:g.length<=1073741824)(a8:1+g.length*K<=T)(a9:K<=T)(ai:5*T+4<=aJ):
  Calls prog 121 #[v] w (VL w g (1+g.length*K)):=by
 obtain⟨A,c,rfl,hc⟩:=hv.form;have R:Bx (w.alloc (.cells #[.bool false,.slice none 0 0] 40)) (w.heap.size) [.bool false,.slice none 0 0] 40:=Bx.newAt w [.bool false,.slice none 0 0] 40 (w.heap.size) (by simp);have a:Below w.heap.size w (w.alloc (.cells #[.bool false,.slice none 0 0] 40)):=(aG _ _).alloc (by simp) _;go_enter func121,ntmps121;go_wp2_with fail;generalize w.alloc (.cells #[.bool false,.slice none 0 0] 40)=W at *;refine(lL 1 _ (by decide) (by decide)).mono ?_;rintro e1 l ⟨v1,rfl,H,al⟩;obtain⟨s1,Q,k1,U,rfl⟩:=H.form;replace R:=R.be al;replace p:=R.cell 0 rfl;replace aq:=R.free 0;replace r:=R.cell 1 rfl;replace ar:=R.free 1;replace f:=Keep.be al;replace a:=aC a al;go_wp2_with fail;have az:=R.lt;have bk:=a.size;replace R:=R.alloc (.cells #[.bool s1,.slice Q k1 U] 40);have C:=Bx.newAt l [.bool s1,.slice Q k1 U] 40 (l.heap.size) (by simp);replace a:=a.alloc a.size (.cells #[.bool s1,.slice Q k1 U] 40);replace f:=Keep.alloc l (.cells #[.bool s1,.slice Q k1 U] 40);replace H:=H.ke f;generalize l.alloc (.cells #[.bool s1,.slice Q k1 U] 40)=w2 at *;replace p:=R.cell 0 rfl;replace r:=R.cell 1 rfl;replace t:=C.cell 0 rfl;replace x:=C.cell 1 rfl;have au:IntBx w2 l.heap.size 1:=⟨_,_,_,_,C,H⟩;have aw:=R;have ax:=a;have bj:=az;clear R C H p r aq ar t x f a;go_loopg [9] g.length (fun k i wr=>∃j D,Hid (j+k=g.length)∧i= .int .i64 j∧IntBx wr l.heap.size D∧ComDen (g.take j) D (1+j*K)∧Bx wr w.heap.size [.bool false,.slice none 0 0] 40∧Below w.heap.size w wr)
 case atStart=>exact⟨0,1,by unfold Hid;omega,rfl,au,⟨by decide,(fun q h=>by simp at h),by rw[show nl (1:Int).natAbs=1 from mJ (by decide) (by decide)];omega⟩,aw,ax⟩
 case round=>
  clear au aw ax;obtain⟨j,D,y,rfl,hC,O,R,a⟩:=hrel;generalize wr=N at *;have bf:(0:Int)<=(j:Int):=by omega
  have bh:1+j*K<=T:=by
   have:j*K<=g.length*K:=dK _ (by have:=y.out;omega);omega
  have a6:=O.nl_;have a7:=O.pos;obtain⟨sc,S,kc,V,C,n⟩:=id hC;cases gk with
  |zero=>
   have hj:j=g.length:=y.out;have a1:ComDen g D (1+g.length*K):=by
    have:=O;rw[hj,List.take_length] at this;exact this
   replace p:=R.cell 0 rfl;replace aq:=R.free 0;replace r:=R.cell 1 rfl;replace ar:=R.free 1;replace t:=C.cell 0 rfl;replace ao:=C.free 0;replace x:=C.cell 1 rfl;replace ap:=C.free 1;have bi:¬(j:Int)<(g.length:Int):=by omega
   clear O hj y;go_wp2_with fail;have a0:=R.lt;have ay:=C.lt;have a2:=a.size;replace C:=(C.far 0 (.bool sc) (show w.heap.size≠l.heap.size by omega)).far 1 (.slice S kc V) (show w.heap.size≠l.heap.size by omega);replace f:=jU (s:=sc) (u:= .slice S kc V) a (by omega) R;clear R a;obtain⟨-, -,R,a,f⟩:=f;replace n:=n.ke f;generalize (N.setCell ⟨w.heap.size,0,none⟩ (.bool sc)).setCell ⟨w.heap.size,1,none⟩ (.slice S kc V)=W6 at *;replace p:=R.cell 0 rfl;replace r:=R.cell 1 rfl;replace t:=C.cell 0 rfl;replace x:=C.cell 1 rfl;exact aM (v:= .agg #[.bool sc,.slice S kc V]) (by simp[results,results121,go_sem,p,r]) rfl ⟨_,D,rfl,n,a1,a⟩
  |succ k=>
   obtain⟨q,P⟩:∃q,g[j]? =some q:=⟨_,aR (by have:=y.out;omega)⟩;obtain⟨b,s,B,m,d,M,z,L,F,rfl,bc,g0,g1,g2,g3,J⟩:=(hv.be a).at_ P;have av:=hK q (dG P);have ba:=mY q;have bb:=av.2;have bg:(j:Int)<(g.length:Int):=by have:=y.out;omega
   have ad:=fun hd=>O.skip P hd;have an:=O.lcm P av.2;have HQ:=aB P;clear P;go_wp2_with fail;have a0:=R.lt;have ay:=C.lt;have a2:=a.size;replace R:=R.alloc (.cells #[.bool s,.slice B m d,.bool M,.slice z L F] 47);replace C:=C.alloc (.cells #[.bool s,.slice B m d,.bool M,.slice z L F] 47);have X:=Bx.newAt N [.bool s,.slice B m d,.bool M,.slice z L F] 47 (N.heap.size) (by simp);replace a:=a.alloc a.size (.cells #[.bool s,.slice B m d,.bool M,.slice z L F] 47);replace f:=Keep.alloc N (.cells #[.bool s,.slice B m d,.bool M,.slice z L F] 47);replace J:=J.ke f;replace n:=n.ke f;generalize N.alloc (.cells #[.bool s,.slice B m d,.bool M,.slice z L F] 47)=wa at *;replace p:=R.cell 0 rfl;replace r:=R.cell 1 rfl;replace t:=C.cell 0 rfl;replace x:=C.cell 1 rfl;replace ae:=X.cell 0 rfl;replace af:=X.cell 1 rfl;replace ag:=X.cell 2 rfl;replace ah:=X.cell 3 rfl;have I:=J.den;refine(g9 _ _ _ I (by unfold aJ at ai;omega)).mono ?_;rintro e2 bn ⟨rfl,Y⟩;replace R:=R.be Y;replace p:=R.cell 0 rfl;replace r:=R.cell 1 rfl;replace C:=C.be Y;replace t:=C.cell 0 rfl;replace x:=C.cell 1 rfl;replace X:=X.be Y;replace ae:=X.cell 0 rfl;replace af:=X.cell 1 rfl;replace ag:=X.cell 2 rfl;replace ah:=X.cell 3 rfl;replace f:=Keep.be Y;replace J:=J.ke f;replace n:=n.ke f;replace I:=I.ke f;replace a:=aC a Y;by_cases G:bS q=0
   ·have o:decide (bS q=0)=true:=by simpa using G
    rw[o];have am:=ad (by rw[fV.1 G];exact Int.one_dvd _);clear o G ad an;go_wp2;go_roundg k
    case rel=>exact⟨j+1,D,by have:=y.out;unfold Hid;omega,by go_num,⟨_,_,_,_,C,n⟩,am,R,a⟩
    case measure=>omega
   ·have o:decide (bS q=0)=false:=by simpa using G
    have aj:bS q=q.den:=mI (fun e=>G (fV.2 e));rw[o];clear o;go_wp2_with fail;refine(OH _ _ _ _ _ I n (by unfold aJ at ai;omega) (by unfold aJ at ai;omega)).mono ?_;rintro e3 w3 ⟨rfl,Z⟩;replace R:=R.be Z;replace p:=R.cell 0 rfl;replace r:=R.cell 1 rfl;replace C:=C.be Z;replace t:=C.cell 0 rfl;replace ao:=C.free 0;replace x:=C.cell 1 rfl;replace ap:=C.free 1;replace X:=X.be Z;replace ae:=X.cell 0 rfl;replace af:=X.cell 1 rfl;replace ag:=X.cell 2 rfl;replace ah:=X.cell 3 rfl;replace f:=Keep.be Z;replace J:=J.ke f;replace n:=n.ke f;replace I:=I.ke f;replace a:=aC a Z;by_cases he:bS q=D
    ·have o:decide (bS q=D)=true:=by simpa using he
     rw[o];have am:=ad (by rw[<-he,aj];exact Int.dvd_refl _);clear o G ad an aj he;go_wp2;go_roundg k
     case rel=>exact⟨j+1,D,by have:=y.out;unfold Hid;omega,by go_num,⟨_,_,_,_,C,n⟩,am,R,a⟩
     case measure=>omega
    ·have o:decide (bS q=D)=false:=by simpa using he
     rw[o];have ak:=fun W hG H h2=>OI D (bS q) (.agg #[.bool sc,.slice S kc V]) (.agg #[.bool M,.slice z L F]) W hG H h2 (by omega) G T (by omega) (by omega) ai;have e5:(bS q).natAbs=q.den:=by rw[aj];rfl
     rw[e5] at ak;unfold dW at ak;clear o ad aj he e5;generalize ((Nat.lcm D.natAbs q.den:Nat):Int)=E at *;go_wp2_with fail;refine(ak _ (hG.be a) n I).mono ?_;rintro e4 w4 ⟨v4,rfl,h4,ac⟩;obtain⟨s4,A4,k4,c4,rfl⟩:=h4.form;replace R:=R.be ac;replace p:=R.cell 0 rfl;replace r:=R.cell 1 rfl;replace C:=C.be ac;replace t:=C.cell 0 rfl;replace ao:=C.free 0;replace x:=C.cell 1 rfl;replace ap:=C.free 1;replace X:=X.be ac;replace ae:=X.cell 0 rfl;replace af:=X.cell 1 rfl;replace ag:=X.cell 2 rfl;replace ah:=X.cell 3 rfl;replace f:=Keep.be ac;replace a:=aC a ac;clear ak;go_wp2_with fail;have a4:=R.lt;have a3:=C.lt;have a5:=X.lt;have bm:=a.size;replace R:=(R.far 0 (.bool s4) (show l.heap.size≠w.heap.size by omega)).far 1 (.slice A4 k4 c4) (show l.heap.size≠w.heap.size by omega);replace X:=(X.far 0 (.bool s4) (show l.heap.size≠N.heap.size by omega)).far 1 (.slice A4 k4 c4) (show l.heap.size≠N.heap.size by omega);replace f:=jU (s:=s4) (u:= .slice A4 k4 c4) a (by omega) C;clear C a;obtain⟨-, -,C,a,f⟩:=f;replace h4:=h4.ke f;generalize (w4.setCell ⟨l.heap.size,0,none⟩ (.bool s4)).setCell ⟨l.heap.size,1,none⟩ (.slice A4 k4 c4)=W6 at *;replace p:=R.cell 0 rfl;replace r:=R.cell 1 rfl;replace t:=C.cell 0 rfl;replace x:=C.cell 1 rfl;replace ae:=X.cell 0 rfl;replace af:=X.cell 1 rfl;replace ag:=X.cell 2 rfl;replace ah:=X.cell 3 rfl;go_roundg k
     case rel=>exact⟨j+1,E,by have:=y.out;unfold Hid;omega,by go_num,⟨_,_,_,_,C,h4⟩,an,R,a⟩
     case measure=>omega
def VF(q:Rat):q=(q.num:Rat)/(q.den:Rat):=by
 conv=>lhs;rw[<-Rat.mkRat_self q,Rat.mkRat_eq_div]
def VG(q:Rat):(q.den:Rat)≠0:=fun e=>q.den_nz (by exact_mod_cast e)
def xI(q:Rat)(D:Int)(h:(q.den:Int)∣D):((q.num*D.tdiv (q.den:Int):Int):Rat)=q*D:=by
 obtain⟨t,rfl⟩:=h;have a:(q.den:Int)≠0:=by have:=q.den_nz;omega
 rw[Int.mul_tdiv_cancel_left _ a,eJ,eJ,Rat.intCast_natCast];have b:=VF q;have c:=VG q;generalize (q.num:Rat)=n at *;generalize (q.den:Rat)=d at *;rw[b];grind
def VH(q:Rat)(D:Int)(h:q.den=1):((q.num*D:Int):Rat)=q*D:=by
 rw[eJ];congr 1;exact Rat.ext rfl h.symm
def VI(w:World)(q:Rat)(D:Int)(B:Nat)(e:Ending)(w':World):Prop:=∃v n,e= .returned v∧IntAt w' v n∧(n:Rat)=q*D∧nl n.natAbs<=B∧Below w.heap.size w w'
def VJ(q:Rat)(D:Int)(v u:Value)(w:World)(J:RatAt w v q)(g:IntAt w u D)(af:(q.den:Int)∣D)(K H:Nat)(hK:RL K q)(Y:nl D.natAbs<=H)(ad:5*K+H+8<=aJ):
  Calls prog 122 #[v,u] w (VI w q D (K+H)):=by
 unfold aJ at ad;obtain⟨s,A,k,c,s',M,k',Q,rfl⟩:=J.form;obtain⟨sD,P,kD,U,rfl⟩:=g.form;obtain⟨X,ai⟩:=hK;have aj:=mY q;obtain⟨W,V,d,a,b,R⟩:=gE w [.bool s,.slice A k c,.bool s',.slice M k' Q] 47 [.bool sD,.slice P kD U] 40 [.bool false,.slice none 0 0] 40;have l:=aa a.g4 (aa b.g2 R.g2);go_enter func122,ntmps122;go_wp2_with fail;(try rw[V]);clear V;have hn:=(J.be d).num;have j:=(J.be d).den;replace g:=g.be d;refine(g9 _ _ _ j (by omega)).mono ?_;rintro e1 w1 ⟨rfl,y⟩;replace a:=a.be y;replace b:=b.be y;replace R:=R.be y;replace l:=aa a.k4 (aa b.k2 R.g2);replace f:=Keep.be y;replace hn:=hn.ke f;replace j:=j.ke f;replace g:=g.ke f;replace d:=aC d y;by_cases h:bS q=0
 ·have C:decide (bS q=0)=true:=by simpa using h
  rw[C];have p:=VH q D (fV.1 h);have I:=gT q.num D _ _ X Y;have m:=fun W v u h i=>jB q.num D v u W h i (by omega);unfold dW at m;generalize q.num*D=n at *;have G:=aB p;clear C h p;go_wp2_with fail;refine(m _ _ _ hn g).mono ?_;rintro e2 w2 ⟨v2,rfl,i,F⟩;obtain⟨s2,N,k2,S,rfl⟩:=i.form;replace a:=a.be F;replace b:=b.be F;replace R:=R.be F;replace l:=aa a.k4 (aa b.k2 R.g2);replace d:=aC d F;clear m;go_wp2_with fail;obtain⟨W6,r,R,d,f,x⟩:=R.put2 d (by omega) (.bool s2) (.slice N k2 S) rfl rfl;replace a:=x a (by omega);replace b:=x b (by omega);replace i:=i.ke f;rw[r];clear r;replace l:=aa a.k4 (aa b.k2 R.k2);exact aM (v:= .agg #[.bool s2,.slice N k2 S]) (by simp[results,results122,go_sem,R.k2]) rfl ⟨_,n,rfl,i,G.out,I,d⟩
 ·have C:decide (bS q=0)=false:=by simpa using h
  have Z:bS q=q.den:=mI (fun e=>h (fV.2 e));rw[C];have p:=xI q D af;rw[<-Z] at p;have ae:=jN D (bS q) _ Y;have I:=gT q.num (D.tdiv (bS q)) _ _ X ae;have L:=fun W v u ac i=>mZ D (bS q) v u W ac i h (by omega);have m:=fun W v u h i=>jB q.num (D.tdiv (bS q)) v u W h i (by omega);unfold dW at m L;generalize q.num*D.tdiv (bS q)=n at *;generalize D.tdiv (bS q)=t at *;have G:=aB p;clear C h p Z;go_wp2_with fail;replace hn:=hn.drew;replace j:=j.drew;replace g:=g.drew;replace a:=a.drew;replace b:=b.drew;replace R:=R.drew;replace d:=d.drew;replace l:=aa a.k4 (aa b.k2 R.g2);have ag:w.heap.size+1+1≠w.heap.size:=by omega
  have ah:w.heap.size+1+1≠w.heap.size+1:=by omega
  go_region_held3 (fun w'=>C4 w' w.heap.size (.bool s) (.slice A k c) (.bool s') (.slice M k' Q)∧C2 w' (w.heap.size+1) (.bool sD) (.slice P kD U))
   (first|(with_reducible exact⟨a.k4,b.k2⟩)|(refine⟨?_,?_⟩<;>(repeat (first|with_reducible exact a.k4|with_reducible exact b.k2|with_reducible refine kK ag ?_|with_reducible refine fQ ah ?_))))
   (first
    |(go_at_call 83;refine(L _ _ _ g j).mono ?_;rintro e4 w4 ⟨v4,rfl,E,z⟩;obtain⟨s4,A4,k4,c4,rfl⟩:=E.form;replace a:=a.be z;replace b:=b.be z;replace R:=R.be z;replace l:=aa a.k4 (aa b.k2 R.g2);replace f:=Keep.be z;replace hn:=hn.ke f;replace j:=j.ke f;replace g:=g.ke f;(try replace o:=o.ke f);replace d:=aC d z)
    |(go_at_call 73;refine(m _ _ _ hn E).mono ?_;rintro e5 w5 ⟨v5,rfl,o,B⟩;obtain⟨s5,O,k5,T,rfl⟩:=o.form;replace a:=a.be B;replace b:=b.be B;replace R:=R.be B;replace l:=aa a.k4 (aa b.k2 R.g2);replace f:=Keep.be B;replace hn:=hn.ke f;replace j:=j.ke f;replace g:=g.ke f;(try replace E:=E.ke f);replace d:=aC d B))
  clear L m;go_wp2_with fail;obtain⟨W6,r,R,d,f,x⟩:=R.put2 d (by omega) (.bool s5) (.slice O k5 T) rfl rfl;replace a:=x a (by omega);replace b:=x b (by omega);replace o:=o.ke f;rw[r];clear r;replace l:=aa a.k4 (aa b.k2 R.k2);exact aM (v:= .agg #[.bool s5,.slice O k5 T]) (by simp[results,results122,go_sem,R.k2]) rfl ⟨_,n,rfl,o,G.out,I,d⟩
def tT(ns:List Int)(d:Int):List Rat:=ns.map (fun n:Int=>(n:Rat)/(d:Rat))
def CA(n d:Int)(K:Nat)(hn:nl n.natAbs<=K)(b:nl d.natAbs<=K)(a:1<=K):RL K ((n:Rat)/d):=by
 rw[<-Rat.divInt_eq_div];unfold RL;rw[Rat.num_divInt,Rat.den_divInt];constructor
 ·refine aH (cK ?_) hn;rw[Int.natAbs_ediv_of_dvd]
  ·refine aH (Nat.div_le_self _ _) ?_;rw[fL];have:d.sign.natAbs<=1:=by
    rcases Int.lt_trichotomy d 0 with h|h|h
    ·rw[Int.sign_eq_neg_one_of_neg h];decide
    ·rw[h];decide
    ·rw[Int.sign_eq_one_of_pos h];decide
   calc d.sign.natAbs*n.natAbs<=1*n.natAbs:=dK _ this
    _=n.natAbs:=Nat.one_mul _
  ·exact Int.dvd_mul_of_dvd_right (Int.gcd_dvd_right ..)
 ·split
  ·rw[mJ (by decide) (by decide)];exact a
  ·exact aH (cK (Nat.div_le_self _ _)) b
def cC(a:List Rat)(D:Int):List Int:=a.map (fun q=>q.num*D.tdiv (q.den:Int))
def JC(a:List Rat)(D:Int)(h:∀q∈a,(q.den:Int)∣D)(i:Nat):((cf (cC a D) i:Int):Rat)=cf a i*D:=by
 unfold cC cf;rw[eE,eE,iK];cases hq:a[i]? with
 |none=>
  show((0:Int):Rat)=0*(D:Rat)
  rw[Rat.intCast_zero];grind
 |some q=>exact xI q D (h q (dG hq))
def sA(a:List Rat)(D:Int)(K B:Nat)(c:∀q∈a,RL K q)(b:nl D.natAbs<=B):∀n∈cC a D,nl n.natAbs<=K+B:=by
 intro n hn;unfold cC at hn;obtain⟨q,d,rfl⟩:=List.mem_map.1 hn;exact gT _ _ _ _ (c q d).1 (jN _ _ _ b)
def VE(w:World)(a:List Rat)(B:Nat)(e:Ending)(w':World):Prop:=
 ∃b n c d D,e= .returned (.tuple #[.slice (some ⟨b,0,none⟩) n c,d])∧w.heap.size<=b∧WholeAt w' (.slice (some ⟨b,0,none⟩) n c) (aW aV (cC a D))∧IntAt w' d D∧ComDen a D B∧Below w.heap.size w w'
def JD(a:List Rat)(v:Value)(w:World)(hG:Glob w)(hv:RatsAt w v a)(K U:Nat)(hK:∀q∈a,RL K q)(hl:a.length<=1073741824)(a5:1+a.length*K<=U)(a6:K<=U)(a7:6*U+8<=aJ):
  Calls prog 69 #[v] w (VE w a (1+a.length*K)):=by
 obtain⟨A,c,rfl,hc⟩:=hv.form;have R:Bx (w.alloc (.cells #[.bool false,.slice none 0 0] 40)) (w.heap.size) [.bool false,.slice none 0 0] 40:=Bx.newAt w [.bool false,.slice none 0 0] 40 (w.heap.size) (by simp);have f:Below w.heap.size w (w.alloc (.cells #[.bool false,.slice none 0 0] 40)):=(aG _ _).alloc (by simp) _;go_enter func69,ntmps69;go_wp2_with fail;generalize w.alloc (.cells #[.bool false,.slice none 0 0] 40)=W at *;refine(VM a _ _ (hG.be f) (hv.be f) K U hK hl a5 a6 (by omega)).mono ?_;rintro e1 g ⟨v1,D,rfl,h1,ai,ah⟩;obtain⟨s1,A1,k1,c1,rfl⟩:=h1.form;replace R:=R.be ah;replace V:=R.cell 0 rfl;replace af:=R.free 0;replace Y:=R.cell 1 rfl;replace ag:=R.free 1;replace hk:=Keep.be ah;replace f:=aC f ah;have am:=ai.nl_;have az:(cC a D).length=a.length:=cH _;have I:=aB az;have bb:=sA a D K _ hK am;clear az;go_wp2_with (at_make;refine jT rfl rfl 40 _ 2 32 underlying37 p6 rfl (by decide) a.length rfl rfl rfl rfl (by omega) (by omega) ?_;intro w2 bc aw p);have R0:OwnW w2 (g.heap.size+1) (List.replicate a.length 0):=by
  have:=OwnW.made aw;rw[World.size_alloc] at this;exact this
 have br:=R.lt;have ac:Below g.heap.size g w2:=((aG _ _).alloc aE _).trans (p.mono (by simp));have al:IntBx w2 g.heap.size D:=⟨_,_,_,_,(Bx.new g [.bool s1,.slice A1 k1 c1] 40).be p,h1.be ac⟩;have an:=R.be ac;have ao:=aC f ac;clear aw bc p ac R h1 f V Y af ag hk;go_loopg [15] a.length (fun k i wr=>∃j,Hid (j+k=a.length)∧i= .int .i64 j∧OwnW wr (g.heap.size+1) ((cC a D).take j++List.replicate k 0)∧IntBx wr g.heap.size D∧Bx wr w.heap.size [.bool false,.slice none 0 0] 40∧Below w.heap.size w wr)
 case atStart=>exact⟨0,by unfold Hid;omega,rfl,by simpa using R0,al,an,ao⟩
 case round=>
  clear R0 al an ao;obtain⟨j,H,rfl,N,Z,R,f⟩:=hrel;generalize wr=F at *;have bp:(0:Int)<=(j:Int):=by omega
  obtain⟨P,J,O,L,C,o⟩:=id Z;cases gk with
  |zero=>
   have hj:j=a.length:=H.out;subst hj;rw[List.replicate_zero,fH,cZ (by rw[I.out];exact aE)] at N;have hw:=N.whole a.length (by rw[I.out];exact aE);have aj:=fun W h=>sP (cC a D) (some ⟨g.heap.size+1,0,none⟩) a.length W h (K+(1+a.length*K)) bb (by unfold aJ at a7;omega) (by rw[I.out];omega);rw[I.out] at aj hw;replace hw:=hw.drew;replace Z:=Z.be (aG _ _).drew;go_wp2_with fail;replace R:=R.drew;replace C:=C.drew;replace o:=o.drew;replace f:=f.drew;have ae:w.heap.size≠g.heap.size:=by omega
   replace V:=R.cell 0 rfl;replace af:=R.free 0;replace Y:=R.cell 1 rfl;replace ag:=R.free 1;replace Q:=C.cell 0 rfl;replace bf:=C.free 0;replace S:=C.cell 1 rfl;replace bg:=C.free 1;obtain⟨T,HT⟩:∃T,Hid (aW aV (cC a D)=T):=⟨_,rfl⟩;rw[HT.out] at aj
   go_region_held3 (fun w'=>w'.cell? ⟨g.heap.size,0,none⟩=some (.bool P)∧w'.cell? ⟨g.heap.size,1,none⟩=some (.slice J O L))
    (first|(with_reducible exact⟨Q,S⟩)|(with_reducible exact⟨(aL _ _ _ _ _ _ ae).trans ((aL _ _ _ _ _ _ ae).trans Q),(aL _ _ _ _ _ _ ae).trans ((aL _ _ _ _ _ _ ae).trans S)⟩))
    (first
     |(go_at_call 85;refine(aj _ hw).mono ?_;rintro e6 w6 ⟨rfl,h6,ad⟩;replace o:=o.be ad;replace R:=R.be ad;replace C:=C.be ad;replace Q:=C.cell 0 rfl;replace S:=C.cell 1 rfl;replace V:=R.cell 0 rfl;replace Y:=R.cell 1 rfl;replace af:=R.free 0;replace ag:=R.free 1;replace f:=aC f ad))
   go_wp2_with fail;obtain⟨-,x⟩:=IntBx.stored (w:=w6) (b:=w.heap.size) (m:=0) ⟨_,_,_,_,R,IntAt.zero _⟩ o;have z6:=h6.step x (fun b e=>by injection e with e;injection e with e;omega);have zm:=o.ke x.1;have zb:=jD f x aE;obtain⟨z0,z1, -, -, -⟩:=jU (s:=P) (u:= .slice J O L) f aE R;clear x;generalize (w6.setCell ⟨w.heap.size,0,none⟩ (.bool P)).setCell ⟨w.heap.size,1,none⟩ (.slice J O L)=W6 at *;exact aM (v:= .tuple #[.slice (some ⟨g.heap.size+1,0,none⟩) T.length a.length,.agg #[.bool P,.slice J O L]]) (by simp[results,results69,go_sem,z0,z1]) rfl ⟨_,_,_,_,D,rfl,by omega,by rw[HT.out];exact z6,zm,ai,zb⟩
  |succ k=>
   obtain⟨q,M⟩:∃q,a[j]? =some q:=⟨_,aR (by have:=H.out;omega)⟩;obtain⟨b,s,B,m,d,E,r,G,t,rfl,bo,g0,g1,g2,g3,hi⟩:=(hv.be f).at_ M;have a8:=hK q (dG M);have ap:=ai.dvd q (dG M);have bq:(j:Int)<(a.length:Int):=by have:=H.out;omega
   have ay:(cC a D)[j]? =some (q.num*D.tdiv (q.den:Int)):=by unfold cC;rw[iK,M];rfl
   have aq:=rI (ys:=cC a D) (z:=(0:Int)) (j:=j) (k:=k+1) (by rw[I.out];exact H.out);have ar:=rH (z:=(0:Int)) (k:=k) ay;have au:j<((cC a D).take j++List.replicate (k+1) 0).length:=by rw[aq,I.out];have:=H.out;omega
   have ax:∀n:Int,(n:Rat)=q*D->n=q.num*D.tdiv (q.den:Int):=fun n h=>Rat.intCast_inj.1 (h.trans (xI q D ap).symm);have ak:=aB ax;have a4:=aB ar;clear ay aq ar M ax;have a0:∀l:Obj,(F.alloc l).cell? ⟨g.heap.size,0,none⟩=some (.bool P):=fun l=>(C.alloc l).cell 0 rfl;have a2:∀l:Obj,(F.alloc l).frozen? ⟨g.heap.size,0,none⟩=false:=fun l=>(C.alloc l).free 0;have a1:∀l:Obj,(F.alloc l).cell? ⟨g.heap.size,1,none⟩=some (.slice J O L):=fun l=>(C.alloc l).cell 1 rfl;have a3:∀l:Obj,(F.alloc l).frozen? ⟨g.heap.size,1,none⟩=false:=fun l=>(C.alloc l).free 1;go_wp2_with fail;replace N:=N.alloc (.cells #[.bool s,.slice B m d,.bool E,.slice r G t] 47);have bh:=C.lt;have bi:=R.lt;have bs:=f.size;replace C:=C.alloc (.cells #[.bool s,.slice B m d,.bool E,.slice r G t] 47);replace R:=R.alloc (.cells #[.bool s,.slice B m d,.bool E,.slice r G t] 47);have X:=Bx.newAt F [.bool s,.slice B m d,.bool E,.slice r G t] 47 (F.heap.size) (by simp);replace f:=f.alloc f.size (.cells #[.bool s,.slice B m d,.bool E,.slice r G t] 47);replace hk:=Keep.alloc F (.cells #[.bool s,.slice B m d,.bool E,.slice r G t] 47);replace hi:=hi.ke hk;replace o:=o.ke hk;generalize F.alloc (.cells #[.bool s,.slice B m d,.bool E,.slice r G t] 47)=wa at *;replace Q:=C.cell 0 rfl;replace S:=C.cell 1 rfl;replace V:=R.cell 0 rfl;replace Y:=R.cell 1 rfl;replace bj:=X.cell 0 rfl;replace bk:=X.cell 1 rfl;replace bm:=X.cell 2 rfl;replace bn:=X.cell 3 rfl;clear a0 a1 a2 a3 g0 g1 g2 g3 Z;refine(VJ q D _ _ _ hi o ap K (1+a.length*K) a8 am (by omega)).mono ?_;rintro e2 bt ⟨v2,n,rfl,h2,av, -,p⟩;have ba:=ak.out n av;subst ba;clear av ak;obtain⟨s2,A2,k2,c2,rfl⟩:=h2.form;replace N:=N.be p;replace C:=C.be p;replace R:=R.be p;replace o:=o.be p;replace f:=aC f p;obtain⟨E,r,l',t,q0,q1, -⟩:=N.at_ (aR au);have f0:=N.free (j*2);have f1:=N.free (j*2+1);generalize q.num*D.tdiv (q.den:Int)=y at *;go_wp2_with fail;obtain⟨hp,x⟩:=N.stored au h2;rw[a4.out] at hp;have zC:=IntBx.step ⟨_,_,_,_,C,o⟩ x (by omega);have zR:Bx _ w.heap.size [.bool false,.slice none 0 0] 40:=(x.2.1 w.heap.size (by omega)).trans R;have a9:=jD f x (by omega);go_roundg k
   case rel=>exact⟨j+1,by have:=H.out;unfold Hid;omega,by go_num,hp,zC,zR,a9⟩
   case measure=>omega
def vl(a:List (List UInt8)):Bool:=decide (a.length<=65∧a.all rd=true∧(aU a).getLast?≠some 0)
def JB(b:List Rat):aN b↔b.getLast?≠some 0:=⟨fun h e=>h 0 e rfl,fun h a c e=>h (by rw[c,e])⟩
def pJ{a:List (List UInt8)}(h:vl a=true):a.length<=65∧a.all rd=true∧aN (aU a):=by
 unfold vl at h;rw[iQ] at h;exact⟨h.1,h.2.1,(JB _).2 h.2.2⟩
def oO{c:List Rat}{D:Int}(j:0<D)(i:∀q∈c,(q.den:Int)∣D)(h:aN c):aN (cC c D):=by
 intro a b e;unfold cC at b;rw[List.getLast?_map] at b;cases hq:c.getLast? with
 |none=>rw[hq] at b;simp at b
 |some q=>
  rw[hq] at b;simp only[Option.map_some,Option.some.injEq] at b;have f:=xI q D (i q (List.mem_of_getLast? hq));rw[b,e,Rat.intCast_zero] at f;have g:(D:Rat)≠0:=fun e=>(show D≠0 by omega) (Rat.intCast_inj.1 e);rcases Rat.mul_eq_zero.1 f.symm with d|d
  ·exact h q hq d
  ·exact g d
def VA(n c:Nat)(A:Option Addr)(w:World)(hn:n<=1073741824):Calls prog 66 #[.slice A n c] w fun e w'=>e= .returned (.bool (decide (n<=65)))∧w'=w:=by
 by_cases h:n<=65
 ·have b:(n:Int)<=65:=by omega
  have a:decide (n<=65)=true:=by simpa using h
  rw[a];go_enter func66,ntmps66;go_wp2;go_ret;exact⟨rfl,rfl⟩
 ·have b:¬(n:Int)<=65:=by omega
  have a:decide (n<=65)=false:=by simpa using h
  rw[a];go_enter func66,ntmps66;go_wp2;go_ret;exact⟨rfl,rfl⟩
def ComDen.mono{b:List Rat}{D:Int}{B a:Nat}(h:ComDen b D B)(c:B<=a):ComDen b D a:=⟨h.pos,h.dvd,aH h.nl_ c⟩
def VB(w:World)(a:List (List UInt8))(B:Nat)(e:Ending)(w':World):Prop:=
 ∃v c b D,e= .returned (.tuple #[v,c,.bool (vl a)])∧WholeAt w' v b∧IntAt w' c D∧(vl a=true->b=cC (aU a) D∧ComDen (aU a) D B)∧Below w.heap.size w w'
def VD(i:List (List UInt8))(v:Value)(w:World)(hG:Glob w)(hv:StrsAt w v i)(hl:i.length<=1073741824)(a8:i.length<=65->∀l∈i,l.length<=1073741824)(K KB L:Nat)(hK:i.length<=65->∀q∈aU i,RL K q)(hL:i.length<=65->i.length<=L)(a4:1<=L)(bb:1+L*K<=KB)(al:6*KB+8<=aJ):
  Calls prog 25 #[v] w (VB w i (1+L*K)):=by
 have bc:K<=L*K:=Nat.le_mul_of_pos_left K a4;obtain⟨A,c,rfl,hc⟩:=hv.form;obtain⟨W,eW,f,R⟩:=bI w [.bool false,.slice none 0 0] 40;have u:=R.g2;go_enter func25,ntmps25;go_wp2_with fail;(try rw[eW]);clear eW;refine(lL 1 _ (by decide) (by decide)).mono ?_;rintro e1 w1 ⟨v1,rfl,n,au⟩;obtain⟨Z,J,V,P,rfl⟩:=n.form;replace R:=R.be au;replace u:=R.g2;replace f:=aC f au;go_wp2_with fail;have N:=R.lt;have T:=f.size;obtain⟨w2,ar,p,O⟩:=bI w1 [.bool Z,.slice J V P] 40;replace R:=R.be p;replace k:=Keep.be p;replace f:=aC f p;replace n:=n.ke k;rw[ar];clear ar;replace u:=aa R.g2 O.g2;refine(VA i.length c A _ hl).mono ?_;rintro e3 w3 ⟨rfl,rfl⟩;by_cases H:i.length<=65
 ·have z:decide (i.length<=65)=true:=by simpa using H
  rw[z];clear z;go_wp2_with fail;refine(T0 i _ _ (hG.be f) (hv.be f) hl (a8 H)).mono ?_;rintro e4 w4 ⟨v4,rfl,h4,ai⟩;replace R:=R.be ai;replace O:=O.be ai;replace u:=aa R.g2 O.g2;replace k:=Keep.be ai;replace n:=n.ke k;replace f:=aC f ai;cases hall:i.all rd with
  |false=>
   have t:vl i=false:=by unfold vl;rw[jA];exact fun h=>by rw[hall] at h;exact absurd h.2.1 (by simp)
   have G:=aB t;clear t h4;go_wp2_with fail;go_region
   all_goals (
    go_wp2_with fail;have N:=R.lt;have ad:=O.lt;have T:=f.size;obtain⟨W6,o,R,f,k,x⟩:=R.put2 f (by omega) (.bool Z) (.slice J V P) rfl rfl;replace O:=x O (by omega);replace n:=n.ke k;rw[o];clear o;replace u:=aa R.k2 O.k2;exact aM (v:= .tuple #[.slice none 0 0,.agg #[.bool Z,.slice J V P],.bool false]) (by simp[results,results25,go_sem,R.k2]) rfl ⟨_,_,[],1,by rw[G.out],WholeAt.nil _ _ _,n.drew,(fun h=>by rw[G.out] at h;cases h),f.drew⟩)
  |true=>
   have I:=h4 hall;obtain⟨A4,c4,rfl,bh⟩:=I.form;have a9:(aU i).length=i.length:=cH _;have ap:=aB hall;have ak:=hK H;clear h4 hall;generalize av:aU i=j at *;have ac:=aB av;have bi:j.length<=65:=by omega
   have aj:j.length<=L:=by have:=hL H;omega
   clear av a9;by_cases h0:j.length=0
   ·have an:j=[]:=bX h0;have ah:aN j:=fun a h=>by rw[an] at h;simp at h
    have t:vl i=true:=by unfold vl;rw[iQ,ac.out,ap.out,an];exact⟨H,rfl,by simp⟩
    have a3:¬(0:Int)<(j.length:Int):=by omega
    clear an h0;go_wp2_with fail;refine(JD j _ _ (hG.be f) I K KB ak (by omega) (by have:j.length*K<=L*K:=dK _ aj;omega) (by omega) al).mono ?_;rintro S C ⟨b5,n5,c5,ba,D,rfl,a6,y,r,F,E⟩;rw[qB (oO F.pos F.dvd ah)] at y;obtain⟨A5,c9,S,a7⟩:=y.form;simp only[Value.slice.injEq] at S;obtain⟨-,rfl, -⟩:=S;have a5:=R.lt;obtain⟨s6,M,Y,Q,rfl⟩:=r.form;replace R:=R.be E;replace O:=O.be E;replace u:=aa R.g2 O.g2;replace k:=Keep.be E;replace n:=n.ke k;replace f:=aC f E;have ay:∀g:Obj,(C.alloc g).cell? ⟨w.heap.size,0,none⟩=some (.bool false):=fun g=>(R.alloc g).cell 0 rfl;have a0:∀g:Obj,(C.alloc g).frozen? ⟨w.heap.size,0,none⟩=false:=fun g=>(R.alloc g).free 0;have az:∀g:Obj,(C.alloc g).cell? ⟨w.heap.size,1,none⟩=some (.slice none 0 0):=fun g=>(R.alloc g).cell 1 rfl;have a1:∀g:Obj,(C.alloc g).frozen? ⟨w.heap.size,1,none⟩=false:=fun g=>(R.alloc g).free 1;have ag:=F.mono (show 1+j.length*K<=1+L*K by have:j.length*K<=L*K:=dK _ aj;omega);have HN:=aB (show vl i=true∧cC j D=cC (aU i) D∧ComDen (aU i) D (1+L*K) from⟨t,by rw[ac.out],by rw[ac.out];exact ag⟩);generalize cC j D=ns at *;clear F ag ah t I;go_wp2_with fail;have N:=R.lt;have ad:=O.lt;have T:=f.size;obtain⟨w7,ae,p,X⟩:=bI C [.bool s6,.slice M Y Q] 40;replace R:=R.be p;replace O:=O.be p;replace k:=Keep.be p;replace f:=aC f p;replace n:=n.ke k;replace r:=r.ke k;rw[ae];clear ae;replace u:=aa R.g2 (aa O.k2 X.g2);replace y:=y.be p;go_region
    all_goals (
     go_wp2_with fail;obtain⟨-,ao⟩:=IntBx.stored (w:=w7) (b:=w.heap.size) (m:=0) ⟨_,_,_,_,R,IntAt.zero _⟩ r;have z5:=y.step ao (fun b e=>by injection e with e;injection e with e;omega);have N:=R.lt;have ad:=O.lt;have a2:=X.lt;have T:=f.size;obtain⟨W6,o,R,f,k,x⟩:=R.put2 f (by omega) (.bool s6) (.slice M Y Q) rfl rfl;replace O:=x O (by omega);replace X:=x X (by omega);replace r:=r.ke k;rw[o];rw[o] at z5;clear o;replace u:=aa R.k2 (aa O.k2 X.k2);exact aM (v:= .tuple #[.slice (some ⟨b5,0,none⟩) ns.length c5,.agg #[.bool s6,.slice M Y Q],.bool true]) (by simp[results,results25,go_sem,R.k2]) rfl ⟨_,_,ns,D,by rw[HN.out.1],z5.drew,r.drew,(fun _=>HN.out.2),f.drew⟩)
   ·obtain⟨m,hm⟩:∃m,j.length=m+1:=⟨j.length-1,by omega⟩;have a3:(0:Int)<(j.length:Int):=by omega
    have e1:(j.length:Int)-1=(m:Int):=by omega
    have i0:(0:Int)<=(m:Int):=by omega
    have i1:(m:Int)<(j.length:Int):=by omega
    obtain⟨q,hq⟩:∃q,j[m]? =some q:=⟨_,aR (by omega)⟩;obtain⟨b,s,B,l,d,s',B',l',d',rfl,bg,g0,g1,g2,g3,hi⟩:=I.at_ hq;have am:j.getLast?=some q:=by rw[List.getLast?_eq_getElem?,hm];exact hq
    have bf:=(ak q (dG hq)).1;have aw:vl i=decide (q≠0):=by
     unfold vl;rw[ac.out,ap.out,am,Bool.eq_iff_iff,iQ,iQ];exact⟨fun h e=>h.2.2 (by rw[e]),fun h=>⟨H,rfl,fun e=>h (by injection e)⟩⟩
    have aq:=aB aw;have ax:=aB am;clear hq hm h0 aw am;go_wp2_with fail;refine(SV q _ _ hi (by unfold aJ at al;omega)).mono ?_;rintro e8 w8 ⟨rfl,af⟩;replace R:=R.be af;replace O:=O.be af;replace u:=aa R.g2 O.g2;replace k:=Keep.be af;replace n:=n.ke k;replace f:=aC f af;replace I:=I.be af;by_cases U:q=0
    ·have z:decide (q=0)=true:=by simpa using U
     have t:vl i=false:=by rw[aq.out];simpa using U
     have G:=aB t;rw[z];clear z t U;go_wp2_with fail;go_region
     all_goals (
      go_wp2_with fail;have N:=R.lt;have ad:=O.lt;have T:=f.size;obtain⟨W6,o,R,f,k,x⟩:=R.put2 f (by omega) (.bool Z) (.slice J V P) rfl rfl;replace O:=x O (by omega);replace n:=n.ke k;rw[o];clear o;replace u:=aa R.k2 O.k2;exact aM (v:= .tuple #[.slice none 0 0,.agg #[.bool Z,.slice J V P],.bool false]) (by simp[results,results25,go_sem,R.k2]) rfl ⟨_,_,[],1,by rw[G.out],WholeAt.nil _ _ _,n.drew,(fun h=>by rw[G.out] at h;cases h),f.drew⟩)
    ·have z:decide (q=0)=false:=by simpa using U
     have t:vl i=true:=by rw[aq.out];simpa using U
     have ah:aN j:=(JB j).2 (by rw[ax.out];intro e;injection e with e;exact U e);rw[z];clear z U g0 g1 g2 g3 hi;go_wp2_with fail;refine(JD j _ _ (hG.be f) I K KB ak (by omega) (by have:j.length*K<=L*K:=dK _ aj;omega) (by omega) al).mono ?_;rintro S C ⟨b5,n5,c5,ba,D,rfl,a6,y,r,F,E⟩;rw[qB (oO F.pos F.dvd ah)] at y;obtain⟨A5,c9,S,a7⟩:=y.form;simp only[Value.slice.injEq] at S;obtain⟨-,rfl, -⟩:=S;have a5:=R.lt;obtain⟨s6,M,Y,Q,rfl⟩:=r.form;replace R:=R.be E;replace O:=O.be E;replace u:=aa R.g2 O.g2;replace k:=Keep.be E;replace n:=n.ke k;replace f:=aC f E;have ay:∀g:Obj,(C.alloc g).cell? ⟨w.heap.size,0,none⟩=some (.bool false):=fun g=>(R.alloc g).cell 0 rfl;have a0:∀g:Obj,(C.alloc g).frozen? ⟨w.heap.size,0,none⟩=false:=fun g=>(R.alloc g).free 0;have az:∀g:Obj,(C.alloc g).cell? ⟨w.heap.size,1,none⟩=some (.slice none 0 0):=fun g=>(R.alloc g).cell 1 rfl;have a1:∀g:Obj,(C.alloc g).frozen? ⟨w.heap.size,1,none⟩=false:=fun g=>(R.alloc g).free 1;have ag:=F.mono (show 1+j.length*K<=1+L*K by have:j.length*K<=L*K:=dK _ aj;omega);have HN:=aB (show vl i=true∧cC j D=cC (aU i) D∧ComDen (aU i) D (1+L*K) from⟨t,by rw[ac.out],by rw[ac.out];exact ag⟩);generalize cC j D=ns at *;clear F ag ah t I;go_wp2_with fail;have N:=R.lt;have ad:=O.lt;have T:=f.size;obtain⟨w7,ae,p,X⟩:=bI C [.bool s6,.slice M Y Q] 40;replace R:=R.be p;replace O:=O.be p;replace k:=Keep.be p;replace f:=aC f p;replace n:=n.ke k;replace r:=r.ke k;rw[ae];clear ae;replace u:=aa R.g2 (aa O.k2 X.g2);replace y:=y.be p;go_region
     all_goals (
      go_wp2_with fail;obtain⟨-,ao⟩:=IntBx.stored (w:=w7) (b:=w.heap.size) (m:=0) ⟨_,_,_,_,R,IntAt.zero _⟩ r;have z5:=y.step ao (fun b e=>by injection e with e;injection e with e;omega);have N:=R.lt;have ad:=O.lt;have a2:=X.lt;have T:=f.size;obtain⟨W6,o,R,f,k,x⟩:=R.put2 f (by omega) (.bool s6) (.slice M Y Q) rfl rfl;replace O:=x O (by omega);replace X:=x X (by omega);replace r:=r.ke k;rw[o];rw[o] at z5;clear o;replace u:=aa R.k2 (aa O.k2 X.k2);exact aM (v:= .tuple #[.slice (some ⟨b5,0,none⟩) ns.length c5,.agg #[.bool s6,.slice M Y Q],.bool true]) (by simp[results,results25,go_sem,R.k2]) rfl ⟨_,_,ns,D,by rw[HN.out.1],z5.drew,r.drew,(fun _=>HN.out.2),f.drew⟩)
 ·have z:decide (i.length<=65)=false:=by simpa using H
  have t:vl i=false:=by unfold vl;rw[jA];exact fun h=>H h.1
  have G:=aB t;rw[z];clear z t;go_wp2_with fail;go_region
  all_goals (
   go_wp2_with fail;have N:=R.lt;have ad:=O.lt;have T:=f.size;obtain⟨W6,o,R,f,k,x⟩:=R.put2 f (by omega) (.bool Z) (.slice J V P) rfl rfl;replace O:=x O (by omega);replace n:=n.ke k;rw[o];clear o;replace u:=aa R.k2 O.k2;exact aM (v:= .tuple #[.slice none 0 0,.agg #[.bool Z,.slice J V P],.bool false]) (by simp[results,results25,go_sem,R.k2]) rfl ⟨_,_,[],1,by rw[G.out],WholeAt.nil _ _ _,n.drew,(fun h=>by rw[G.out] at h;cases h),f.drew⟩)
def oN(a:List Rat)(D:Int):(cC a D).length=a.length:=cH _
def V8(f:Nat->Int)(n M:Nat)(h:∀k,k<n->(f k).natAbs<=M):(bW f n).natAbs<=n*M:=by
 induction n with
 |zero=>simp[bW]
 |succ n a=>
  rw[bW,Nat.succ_mul];have b:=a (fun k e=>h k (by omega));have c:=h n (by omega);have d:=Int.natAbs_add_le (bW f n) (f n);omega
end Go.Proofs.YtgjeoghojliocaaGreatDoor
namespace Go.Proofs.YtgjeoghojliocaaGreatDoor
open Sos Lib
def iG{K:Nat}(h:1<=K):RL K 0:=⟨by show nl 0<=K;rw[dO];omega,by show nl 1<=K;exact aH (cJ (by decide)) h⟩
def C7{K:Nat}{q:Rat}(h:RL K q):RL K (-q):=⟨by rw[show(-q).num= -q.num from rfl,Int.natAbs_neg];exact h.1,h.2⟩
def bU{K L:Nat}{q:Rat}(h:RL K q)(a:K<=L):RL L q:=⟨aH h.1 a,aH h.2 a⟩
def JA{n k:Nat}(h:(decDigits n).length<=k)(d:k<=18):nl n<=1:=by
 refine cJ ?_;have a:=tI (oL n);rw[mQ] at a;have b:10^(decDigits n).length<=10^18:=cO (by decide) (by omega);have c:10^18<BN^1:=by decide
 omega
def tS{t:List UInt8}{q:Rat}(h:bD t=some q)(c:t.length<=18):RL 1 q:=by
 have e:=tL h;have a:(cW q).length<=18:=by rw[e];exact c
 unfold cW at a;rw[bE,bE] at a;refine⟨JA (k:=18) (by omega) (by decide),?_⟩;by_cases b:q.den=1
 ·rw[b];exact cJ (by decide)
 ·rw[if_neg b,eG] at a;exact JA (k:=18) (by omega) (by decide)
def pI{a:List (List UInt8)}(h:∀l∈a,l.length<=18):∀q∈aU a,RL 1 q:=fun q c=>by
 obtain⟨l,b,rfl⟩:=List.mem_map.1 c;cases hr:bD l with
 |none=>exact iG (mC 1)
 |some q=>exact tS hr (h l b)
end Go.Proofs.YtgjeoghojliocaaGreatDoor
namespace Go.Proofs.YtgjeoghojliocaaGreatDoor
open Go.RowKit Sos Tryz
def UR(x y:Rat)(g h:Nat)(a:g=Nat.gcd x.num.natAbs y.den)(b:h=Nat.gcd y.num.natAbs x.den):
  (x*y).num=x.num.tdiv (g:Int)*y.num.tdiv (h:Int)∧((x*y).den:Int)=(x.den:Int).tdiv (h:Int)*(y.den:Int).tdiv (g:Int):=by
 subst a b;show(Rat.mul x y).num=_∧((Rat.mul x y).den:Int)=_
 unfold Rat.mul;refine⟨?_,?_⟩
 ·simp only[Int.divExact_eq_tdiv]
 ·simp only[Nat.divExact_eq_div];rw[<-Int.ofNat_tdiv,<-Int.ofNat_tdiv];simp
def US(w:World)(a b:Int)(e:Ending)(w':World):Prop:=∃v u,e= .returned (.tuple #[v,u])∧IntAt w' v a∧IntAt w' u b∧Below w.heap.size w w'
def J6(n d:Int)(vn vd:Value)(w:World)(hG:Glob w)(hn:IntAt w vn n)(c:IntAt w vd d)(av:n≠0)(g:Nat)(A:g=Nat.gcd n.natAbs d.natAbs)(K:Nat)(U:nl n.natAbs<=K)(bd:nl d.natAbs<=K)(hK:10*K+10<=aJ):
  Calls prog 155 #[vn,vd] w (US w (n.tdiv g) (d.tdiv g)):=by
 obtain⟨D,r,B,t,rfl⟩:=hn.form;obtain⟨E,s,C,u,rfl⟩:=c.form;have N:(g:Int)≠0:=by
  have:=Nat.gcd_pos_of_pos_left d.natAbs (show 0<n.natAbs by omega);omega
 have au:nl g<=K:=by rw[A];exact wQ _ _ _ (by omega) U
 unfold aJ at hK;obtain⟨W,eW,a,X,Y,R,S⟩:=BL w [.bool D,.slice r B t] 40 [.bool E,.slice s C u] 40 [.bool false,.slice none 0 0] 40 [.bool false,.slice none 0 0] 40;have i:=aa X.g2 (aa Y.g2 (aa R.g2 S.g2));go_enter func155,ntmps155;go_wp2_with fail;(try rw[eW]);clear eW;replace hn:=hn.be a;replace c:=c.be a;refine(n6 d _ _ c (by omega)).mono ?_;rintro e3 w3 ⟨rfl,p⟩;replace X:=X.be p;replace Y:=Y.be p;replace R:=R.be p;replace S:=S.be p;replace i:=aa X.k2 (aa Y.k2 (aa R.g2 S.g2));replace b:=Keep.be p;replace hn:=hn.ke b;replace c:=c.ke b;replace a:=aC a p;by_cases h:d=1
 ·have z:decide (d=1)=true:=decide_eq_true h;have ad:g=1:=by rw[A,h];simp
  have T:Hid (n.tdiv g=n∧d.tdiv g=d):=by unfold Hid;rw[ad];exact⟨Int.tdiv_one n,Int.tdiv_one d⟩
  rw[z];clear z ad A N h;go_wp2_with fail;go_region
  all_goals (
   go_wp2_with fail;obtain⟨U0,x,R,a,b,e⟩:=R.put2 a (by omega) (.bool D) (.slice r B t) rfl rfl;replace X:=e X (by omega);replace Y:=e Y (by omega);replace S:=e S (by omega);replace hn:=hn.ke b;replace c:=c.ke b;obtain⟨W6,y,S,a,b,e⟩:=S.put2 a (by omega) (.bool E) (.slice s C u) rfl rfl;replace X:=e X (by omega);replace Y:=e Y (by omega);replace R:=e R (by omega);replace hn:=hn.ke b;replace c:=c.ke b;rw[x,y];clear x y;replace i:=aa X.k2 (aa Y.k2 (aa R.k2 S.k2));exact aM (v:= .tuple #[.agg #[.bool D,.slice r B t],.agg #[.bool E,.slice s C u]]) (by simp[results,results155,go_sem,R.k2,S.k2]) rfl ⟨_,_,rfl,by rw[T.out.1];exact hn,by rw[T.out.2];exact c,a.drew⟩
  )
 ·have z:decide (d=1)=false:=decide_eq_false h;rw[z];clear z h;go_wp2_with fail;refine(qF n d _ _ _ (hG.be a) hn c K U bd (by unfold aJ;omega)).mono ?_;rintro e4 L ⟨v4,rfl,f,q⟩;obtain⟨J,F,I,H,rfl⟩:=f.form;replace X:=X.be q;replace Y:=Y.be q;replace R:=R.be q;replace S:=S.be q;replace i:=aa X.k2 (aa Y.k2 (aa R.g2 S.g2));replace b:=Keep.be q;replace hn:=hn.ke b;replace c:=c.ke b;replace a:=aC a q;rw[<-A] at f;clear A;go_wp2_with fail;have ag:=X.lt;have ah:=Y.lt;have ae:=R.lt;have af:=S.lt;have ak:=a.size;obtain⟨w5,ac,o,G⟩:=bI L [.bool J,.slice F I H] 40;replace X:=X.be o;replace Y:=Y.be o;replace R:=R.be o;replace S:=S.be o;replace b:=Keep.be o;replace a:=aC a o;replace f:=f.ke b;replace hn:=hn.ke b;replace c:=c.ke b;rw[ac];clear ac;replace i:=aa X.k2 (aa Y.k2 (aa R.g2 (aa S.g2 G.k2)));have ai:=fun W h M=>mZ n g (.agg #[.bool D,.slice r B t]) (.agg #[.bool J,.slice F I H]) W h M N (by show nl n.natAbs+4*nl g+4<=_;omega);have aj:=fun W h M=>mZ d g (.agg #[.bool E,.slice s C u]) (.agg #[.bool J,.slice F I H]) W h M N (by show nl d.natAbs+4*nl g+4<=_;omega);replace hn:=hn.drew;replace c:=c.drew;replace f:=f.drew;replace X:=X.drew;replace Y:=Y.drew;replace R:=R.drew;replace S:=S.drew;replace G:=G.drew;replace a:=a.drew;replace i:=aa X.k2 (aa Y.k2 (aa R.g2 (aa S.g2 G.k2)));have am:w.heap.size+1+1≠w.heap.size:=by omega
  have an:w.heap.size+1+1≠w.heap.size+1:=by omega
  have al:w.heap.size+1+1≠L.heap.size:=by omega
  have ap:w.heap.size+1+1+1≠w.heap.size:=by omega
  have aq:w.heap.size+1+1+1≠w.heap.size+1:=by omega
  have ao:w.heap.size+1+1+1≠L.heap.size:=by omega
  go_region_held3 (fun O=>C2 O w.heap.size (.bool D) (.slice r B t)∧C2 O (w.heap.size+1) (.bool E) (.slice s C u)∧C2 O L.heap.size (.bool J) (.slice F I H))
   (first|(with_reducible exact⟨X.k2,Y.k2,G.k2⟩)|(refine⟨?_,?_,?_⟩<;>(repeat (first|with_reducible exact X.k2|with_reducible exact Y.k2|with_reducible exact G.k2|with_reducible refine fQ am ?_|with_reducible refine fQ an ?_|with_reducible refine fQ al ?_|with_reducible refine fQ ap ?_|with_reducible refine fQ aq ?_|with_reducible refine fQ ao ?_))))
   (first
    |(go_at_call 83;(with_reducible refine(ai _ hn f).mono ?_);rintro e7 w7 ⟨v7,rfl,j,l⟩;obtain⟨s7,P,k7,V,rfl⟩:=j.form;replace X:=X.be l;replace Y:=Y.be l;replace R:=R.be l;replace S:=S.be l;replace G:=G.be l;replace i:=aa X.k2 (aa Y.k2 (aa R.g2 (aa S.g2 G.k2)));replace b:=Keep.be l;replace hn:=hn.ke b;replace c:=c.ke b;replace f:=f.ke b;(try replace k:=k.ke b);replace a:=aC a l)
    |(go_at_call 83;(with_reducible refine(aj _ c f).mono ?_);rintro e8 w8 ⟨v8,rfl,k,m⟩;obtain⟨s8,Q,k8,Z,rfl⟩:=k.form;replace X:=X.be m;replace Y:=Y.be m;replace R:=R.be m;replace S:=S.be m;replace G:=G.be m;replace i:=aa X.k2 (aa Y.k2 (aa R.g2 (aa S.g2 G.k2)));replace b:=Keep.be m;replace hn:=hn.ke b;replace c:=c.ke b;replace f:=f.ke b;(try replace j:=j.ke b);replace a:=aC a m))
  all_goals (
   go_wp2_with fail;have ag:=X.lt;have ah:=Y.lt;have ae:=R.lt;have af:=S.lt;have ar:=G.lt;have ak:=a.size;obtain⟨U0,x,R,a,b,e⟩:=R.put2 a (by omega) (.bool s7) (.slice P k7 V) rfl rfl;replace X:=e X (by omega);replace Y:=e Y (by omega);replace S:=e S (by omega);replace G:=e G (by omega);replace j:=j.ke b;replace k:=k.ke b;obtain⟨W6,y,S,a,b,e⟩:=S.put2 a (by omega) (.bool s8) (.slice Q k8 Z) rfl rfl;replace X:=e X (by omega);replace Y:=e Y (by omega);replace R:=e R (by omega);replace G:=e G (by omega);replace j:=j.ke b;replace k:=k.ke b;rw[x,y];clear x y;replace i:=aa X.k2 (aa Y.k2 (aa R.k2 (aa S.k2 G.k2)));exact aM (v:= .tuple #[.agg #[.bool s7,.slice P k7 V],.agg #[.bool s8,.slice Q k8 Z]]) (by simp[results,results155,go_sem,R.k2,S.k2]) rfl ⟨_,_,rfl,j,k,a⟩
  )
def UT(x y:Rat)(vx vy:Value)(w:World)(hG:Glob w)(hx:RatAt w vx x)(hy:RatAt w vy y)(z:¬(x.den=1∧y.den=1))(a3:y.num≠0)(K:Nat)(bx:RL K x)(bY:RL K y)(hK:10*K+20<=aJ):
  Calls prog 126 #[vx,vy] w (iF w (x*y)):=by
 obtain⟨s1,O,k1,U,s2,A2,k2,c2,rfl⟩:=hx.form;obtain⟨s3,P,k3,V,s4,A4,k4,c4,rfl⟩:=hy.form;unfold aJ at hK;obtain⟨g,hg⟩:∃g,g=Nat.gcd x.num.natAbs y.den:=⟨_,rfl⟩;obtain⟨h,hh⟩:∃h,h=Nat.gcd y.num.natAbs x.den:=⟨_,rfl⟩;have HP:=aB (UR x y g h hg hh);have⟨a5,a6⟩:=bx;have⟨a7,a8⟩:=bY;have bm:=fun W h=>tN x (.agg #[.bool s1,.slice O k1 U,.bool s2,.slice A2 k2 c2]) W h (by omega);have bn:=fun W h=>tN y (.agg #[.bool s3,.slice P k3 V,.bool s4,.slice A4 k4 c4]) W h (by omega);have bj:=fun W u hG z C az=>J6 x.num y.den (.agg #[.bool s1,.slice O k1 U]) u W hG z C az g hg K a5 a8 (by unfold aJ;omega);have bk:=fun W u hG z C az=>J6 y.num x.den (.agg #[.bool s3,.slice P k3 V]) u W hG z C az h hh K a7 a6 (by unfold aJ;omega);have cy:=jN x.num g K a5;have cz:=jN y.num h K a7;have b4:=jN (y.den:Int) g K a8;have b5:=jN (x.den:Int) h K a6;have c9:=mY x;have da:=mY y;have av:bS x=0->bS y≠0:=fun e1 e2=>z ⟨fV.1 e1,fV.1 e2⟩;have br:x.num=0->x*y=0:=fun h=>by rw[Rat.num_eq_zero.1 h,Rat.zero_mul]
 have HZ:=aB br;clear br z hg hh;obtain⟨W,eW,d,X,Y,R⟩:=gE w [.bool s1,.slice O k1 U,.bool s2,.slice A2 k2 c2] 47 [.bool s3,.slice P k3 V,.bool s4,.slice A4 k4 c4] 47 [.bool false,.slice none 0 0,.bool false,.slice none 0 0] 47;have B:=aa X.g4 (aa Y.g4 R.g4);go_enter func126,ntmps126;go_wp2_with fail;(try rw[eW]);clear eW;have D:=(hx.be d).num;have E:=(hy.be d).num;generalize x.num.tdiv g=a1 at *;generalize y.num.tdiv h=a2 at *;generalize (y.den:Int).tdiv g=b1 at *;generalize (x.den:Int).tdiv h=b2 at *;refine(g9 x.num _ _ D (by omega)).mono ?_;rintro e5 w5 ⟨rfl,ak⟩;replace X:=X.be ak;replace Y:=Y.be ak;replace R:=R.be ak;replace B:=aa X.k4 (aa Y.k4 R.g4);replace n:=Keep.be ak;replace D:=D.ke n;replace E:=E.ke n;replace d:=aC d ak;by_cases ad:x.num=0
 ·have HQ:=aB (HZ.out ad);rw[show decide (x.num=0)=true from decide_eq_true ad];clear ad;go_wp2_with fail;obtain⟨W6,aj,R,d,n,ff⟩:=R.put4 d (by omega) (.bool false) (.slice none 0 0) (.bool false) (.slice none 0 0) rfl rfl;replace X:=ff X (by omega);replace Y:=ff Y (by omega);rw[aj];clear aj;replace B:=aa X.k4 (aa Y.k4 R.k4);exact aM (v:= .agg #[.bool false,.slice none 0 0,.bool false,.slice none 0 0]) (by simp[results,results126,go_sem,R.k4]) rfl ⟨_,rfl,RatAt.of (IntAt.zero _) (IntAt.zero _) (by rw[HQ.out];rfl) (by rw[HQ.out];rfl),d⟩
 ·rw[show decide (x.num=0)=false from decide_eq_false ad];go_wp2_with fail;refine(g9 y.num _ _ E (by omega)).mono ?_;rintro e6 w6 ⟨rfl,al⟩;replace X:=X.be al;replace Y:=Y.be al;replace R:=R.be al;replace B:=aa X.k4 (aa Y.k4 R.g4);replace n:=Keep.be al;replace D:=D.ke n;replace E:=E.ke n;replace d:=aC d al;rw[show decide (y.num=0)=false from decide_eq_false a3];have bv:Hid (x.num≠0):=ad;have bw:Hid (y.num≠0):=a3;have ae:=(hx.be d).den;have af:=(hy.be d).den;clear ad a3 D E;generalize bS x=dx at *;generalize bS y=dy at *;go_upto_region 3 with fail;go_cut [25] (fun cj A=>cj= .bool false∧Bx A w.heap.size [.bool s1,.slice O k1 U,.bool s2,.slice A2 k2 c2] 47∧Bx A (w.heap.size+1) [.bool s3,.slice P k3 V,.bool s4,.slice A4 k4 c4] 47∧Bx A (w.heap.size+1+1) [.bool false,.slice none 0 0,.bool false,.slice none 0 0] 47∧Below w.heap.size w A)
  case first=>
   go_wp2_with fail;refine(g9 dx _ _ ae (by omega)).mono ?_;rintro e7 w7 ⟨rfl,am⟩;replace X:=X.be am;replace Y:=Y.be am;replace R:=R.be am;replace B:=aa X.k4 (aa Y.k4 R.g4);replace n:=Keep.be am;replace ae:=ae.ke n;replace af:=af.ke n;replace d:=aC d am;by_cases e:dx=0
   ·rw[show decide (dx=0)=true from decide_eq_true e];have bp:=av e;clear e av;go_wp2_with fail;refine(g9 dy _ _ af (by omega)).mono ?_;rintro e8 w8 ⟨rfl,an⟩;replace X:=X.be an;replace Y:=Y.be an;replace R:=R.be an;replace B:=aa X.k4 (aa Y.k4 R.g4);replace n:=Keep.be an;replace ae:=ae.ke n;replace af:=af.ke n;replace d:=aC d an;rw[show decide (dy=0)=false from decide_eq_false bp];clear bp;go_wp2;go_meet;exact⟨rfl,X,Y,R,d⟩
   ·rw[show decide (dx=0)=false from decide_eq_false e];clear e av;go_wp2;go_meet;exact⟨rfl,X,Y,R,d⟩
  case rest=>
   clear X Y R d ae af av B;obtain⟨rfl,X,Y,R,d⟩:=hcut;generalize wc=M at *;have a0:=hx.be d;have a4:=hy.be d;have ay:=hG.be d;have D:=a0.num;have E:=a4.num;have B:=True.intro;replace B:=aa X.k4 (aa Y.k4 R.g4);go_wp2_with fail;have cu:=X.lt;have cw:=Y.lt;go_cut [5,6] (fun s5 s6 A=>∃j k,s5= .pointer (some ⟨j,0,none⟩)∧s6= .pointer (some ⟨k,0,none⟩)∧M.heap.size<=j∧M.heap.size<=k∧j≠k∧IntBx A j (a1)∧IntBx A k (b1)∧Below M.heap.size M A)
   case first=>
    go_region_held3 (fun c=>c.cell? ⟨w.heap.size,0,none⟩=some (.bool s1)∧c.cell? ⟨w.heap.size,1,none⟩=some (.slice O k1 U)∧c.cell? ⟨w.heap.size+1,0,none⟩=some (.bool s3)∧c.cell? ⟨w.heap.size+1,1,none⟩=some (.slice P k3 V)∧c.cell? ⟨w.heap.size+1,2,none⟩=some (.bool s4)∧c.cell? ⟨w.heap.size+1,3,none⟩=some (.slice A4 k4 c4))
     (with_reducible exact⟨X.up.cell 0 rfl,X.up.cell 1 rfl,Y.up.cell 0 rfl,Y.up.cell 1 rfl,Y.up.cell 2 rfl,Y.up.cell 3 rfl⟩)
     (first
      |(go_at_call 74;refine(bn _ a4.up).mono ?_;rintro dj bs ⟨eo,rfl,aw,bf⟩;have b9:=bf.size;(try simp at b9);have:=St.mk bf;obtain⟨ei,cm,d7,db,rfl⟩:=aw.form)
      |(go_at_call 155;refine(bj _ _ ay.up D.up aw.up bv.out).mono ?_;rintro dk ag ⟨ep,u14,rfl,s,Z,bg⟩;have cc:=bg.size;(try simp at cc);have:=St.mk bg;have Q:=Up.out (a:=M) (b:=ag);have ed:=Q.size;have dr:=aw.up (b:=ag);(try have⟨_,_,_,_,_⟩:=nG M ag);(try have⟨_,_,_,_,_⟩:=pH M ag);(try have⟨_,_,_,_,_⟩:=nG bs ag);(try have⟨_,_,_,_,_⟩:=pH bs ag);obtain⟨sp,Ap,kp,cp,rfl⟩:=s.form;obtain⟨ej,cn,d8,dc,rfl⟩:=Z.form))
    all_goals (
     go_wp2;go_meet;refine⟨_,_,rfl,rfl,by omega,by omega,by omega,?_⟩
     first
      |(with_reducible exact tR s Z Q)
      |(with_reducible exact xF s Z Q)
      |(with_reducible exact xG s Z (zb ‹_›) Q (by omega))
      |(with_reducible exact xH (zb ‹_›) s Z Q (by omega))
      |(with_reducible exact tP (zb ‹_›) (zb ‹_›) s Z (by omega) Q (by omega) (by omega)))
   case rest=>
    obtain⟨j,k,rfl,rfl,dt,du,d1,I5,I6,i⟩:=hcut;generalize wc=N at *;have T:=X.be i;have Y8:=Y.be i;have R8:=R.be i;have bo:=a0.be i;have bb:=ay.be i;have bq:=E.be i;replace d:=aC d i;have d6:=i.size;have d4:=X.lt;have d5:=Y.lt;have d3:=R.lt;obtain⟨s5,A5,k5,c5,F,i5⟩:=I5;obtain⟨s6,A6,k6,c6,L,i6⟩:=I6;clear X Y R a0 a4 ay D E i bj bn B;go_wp2_with fail;have cv:=Y8.lt;have ct:=T.lt;go_cut [7,8] (fun s7 s8 A=>∃l m,s7= .pointer (some ⟨l,0,none⟩)∧s8= .pointer (some ⟨m,0,none⟩)∧N.heap.size<=l∧N.heap.size<=m∧l≠m∧IntBx A l (a2)∧IntBx A m (b2)∧Below N.heap.size N A)
    case first=>
     go_region_held3 (fun c=>c.cell? ⟨w.heap.size+1,0,none⟩=some (.bool s3)∧c.cell? ⟨w.heap.size+1,1,none⟩=some (.slice P k3 V)∧c.cell? ⟨w.heap.size,0,none⟩=some (.bool s1)∧c.cell? ⟨w.heap.size,1,none⟩=some (.slice O k1 U)∧c.cell? ⟨w.heap.size,2,none⟩=some (.bool s2)∧c.cell? ⟨w.heap.size,3,none⟩=some (.slice A2 k2 c2))
      (with_reducible exact⟨Y8.up.cell 0 rfl,Y8.up.cell 1 rfl,T.up.cell 0 rfl,T.up.cell 1 rfl,T.up.cell 2 rfl,T.up.cell 3 rfl⟩)
      (first
       |(go_at_call 74;refine(bm _ bo.up).mono ?_;rintro dl bt ⟨eq,rfl,ax,bh⟩;have cd:=bh.size;(try simp at cd);have:=St.mk bh;obtain⟨ek,co,d9,de,rfl⟩:=ax.form)
       |(go_at_call 155;refine(bk _ _ bb.up bq.up ax.up bw.out).mono ?_;rintro dm ah ⟨er,u16,rfl,s,ac,bi⟩;have ce:=bi.size;(try simp at ce);have:=St.mk bi;have S:=Up.out (a:=N) (b:=ah);have ee:=S.size;have ds:=ax.up (b:=ah);(try have⟨_,_,_,_,_⟩:=nG N ah);(try have⟨_,_,_,_,_⟩:=pH N ah);(try have⟨_,_,_,_,_⟩:=nG bt ah);(try have⟨_,_,_,_,_⟩:=pH bt ah);obtain⟨sp,Ap,kp,cp,rfl⟩:=s.form;obtain⟨el,cq,ea,df,rfl⟩:=ac.form))
     all_goals (
      go_wp2;go_meet;refine⟨_,_,rfl,rfl,by omega,by omega,by omega,?_⟩
      first
       |(with_reducible exact tR s ac S)
       |(with_reducible exact xF s ac S)
       |(with_reducible exact xG s ac (zb ‹_›) S (by omega))
       |(with_reducible exact xH (zb ‹_›) s ac S (by omega))
       |(with_reducible exact tP (zb ‹_›) (zb ‹_›) s ac (by omega) S (by omega) (by omega)))
    case rest=>
     obtain⟨l,m,rfl,rfl,dv,dw,d2,I7,I8,i⟩:=hcut;generalize wc=t at *;replace F:=F.be i;replace L:=L.be i;have R9:=R8.be i;replace i5:=i5.be i;replace i6:=i6.be i;have d0:=F.lt;replace d:=aC d i;obtain⟨s7,A7,k7,c7,P7,i7⟩:=I7;obtain⟨s8,A8,k8,c8,P8,i8⟩:=I8;clear T Y8 R8 bo bb bq bk bm i;have b7:=fun W z C=>jB a1 a2 (.agg #[.bool s5,.slice A5 k5 c5]) (.agg #[.bool s7,.slice A7 k7 c7]) W z C (by omega);have b8:=fun W z C=>jB b2 b1 (.agg #[.bool s8,.slice A8 k8 c8]) (.agg #[.bool s6,.slice A6 k6 c6]) W z C (by omega);have c0:=gT b2 b1 K K b5 b4;have b6:=fun W u v z C=>vK (x*y) (a1*a2) (b2*b1) u v W z C HP.out.1 HP.out.2 (by omega);go_wp2_with fail;have ao:=F.lt;have ap:=L.lt;have aq:=P7.lt;have ar:=P8.lt;have KS:=aB (show∀c,Below t.heap.size t c->(c.cell? ⟨j,0,none⟩=some (.bool s5)∧c.cell? ⟨j,1,none⟩=some (.slice A5 k5 c5)∧c.cell? ⟨k,0,none⟩=some (.bool s6)∧c.cell? ⟨k,1,none⟩=some (.slice A6 k6 c6)∧c.cell? ⟨l,0,none⟩=some (.bool s7)∧c.cell? ⟨l,1,none⟩=some (.slice A7 k7 c7)∧c.cell? ⟨m,0,none⟩=some (.bool s8)∧c.cell? ⟨m,1,none⟩=some (.slice A8 k8 c8)) from fun c f=>⟨(f.cell (p:=⟨j,0,none⟩) ao).trans (F.cell 0 rfl),(f.cell (p:=⟨j,1,none⟩) ao).trans (F.cell 1 rfl),(f.cell (p:=⟨k,0,none⟩) ap).trans (L.cell 0 rfl),(f.cell (p:=⟨k,1,none⟩) ap).trans (L.cell 1 rfl),(f.cell (p:=⟨l,0,none⟩) aq).trans (P7.cell 0 rfl),(f.cell (p:=⟨l,1,none⟩) aq).trans (P7.cell 1 rfl),(f.cell (p:=⟨m,0,none⟩) ar).trans (P8.cell 0 rfl),(f.cell (p:=⟨m,1,none⟩) ar).trans (P8.cell 1 rfl)⟩);have G:w.heap.size+1+1≠j:=by omega
     have H:w.heap.size+1+1≠k:=by omega
     have I:w.heap.size+1+1≠l:=by omega
     have J:w.heap.size+1+1≠m:=by omega
     have KF:=aB (show∀(c:World) (u0 u1 u2 u3:Value),Below t.heap.size t c->(((((c.setCell ⟨w.heap.size+1+1,0,none⟩ u0).setCell ⟨w.heap.size+1+1,1,none⟩ u1).setCell ⟨w.heap.size+1+1,2,none⟩ u2).setCell ⟨w.heap.size+1+1,3,none⟩ u3).cell? ⟨j,0,none⟩=some (.bool s5)∧((((c.setCell ⟨w.heap.size+1+1,0,none⟩ u0).setCell ⟨w.heap.size+1+1,1,none⟩ u1).setCell ⟨w.heap.size+1+1,2,none⟩ u2).setCell ⟨w.heap.size+1+1,3,none⟩ u3).cell? ⟨j,1,none⟩=some (.slice A5 k5 c5)∧((((c.setCell ⟨w.heap.size+1+1,0,none⟩ u0).setCell ⟨w.heap.size+1+1,1,none⟩ u1).setCell ⟨w.heap.size+1+1,2,none⟩ u2).setCell ⟨w.heap.size+1+1,3,none⟩ u3).cell? ⟨k,0,none⟩=some (.bool s6)∧((((c.setCell ⟨w.heap.size+1+1,0,none⟩ u0).setCell ⟨w.heap.size+1+1,1,none⟩ u1).setCell ⟨w.heap.size+1+1,2,none⟩ u2).setCell ⟨w.heap.size+1+1,3,none⟩ u3).cell? ⟨k,1,none⟩=some (.slice A6 k6 c6)∧((((c.setCell ⟨w.heap.size+1+1,0,none⟩ u0).setCell ⟨w.heap.size+1+1,1,none⟩ u1).setCell ⟨w.heap.size+1+1,2,none⟩ u2).setCell ⟨w.heap.size+1+1,3,none⟩ u3).cell? ⟨l,0,none⟩=some (.bool s7)∧((((c.setCell ⟨w.heap.size+1+1,0,none⟩ u0).setCell ⟨w.heap.size+1+1,1,none⟩ u1).setCell ⟨w.heap.size+1+1,2,none⟩ u2).setCell ⟨w.heap.size+1+1,3,none⟩ u3).cell? ⟨l,1,none⟩=some (.slice A7 k7 c7)∧((((c.setCell ⟨w.heap.size+1+1,0,none⟩ u0).setCell ⟨w.heap.size+1+1,1,none⟩ u1).setCell ⟨w.heap.size+1+1,2,none⟩ u2).setCell ⟨w.heap.size+1+1,3,none⟩ u3).cell? ⟨m,0,none⟩=some (.bool s8)∧((((c.setCell ⟨w.heap.size+1+1,0,none⟩ u0).setCell ⟨w.heap.size+1+1,1,none⟩ u1).setCell ⟨w.heap.size+1+1,2,none⟩ u2).setCell ⟨w.heap.size+1+1,3,none⟩ u3).cell? ⟨m,1,none⟩=some (.slice A8 k8 c8)) from fun c u0 u1 u2 u3 f=>⟨(aL _ _ _ _ _ _ G).trans ((aL _ _ _ _ _ _ G).trans ((aL _ _ _ _ _ _ G).trans ((aL _ _ _ _ _ _ G).trans ((f.cell (p:=⟨j,0,none⟩) ao).trans (F.cell 0 rfl))))),(aL _ _ _ _ _ _ G).trans ((aL _ _ _ _ _ _ G).trans ((aL _ _ _ _ _ _ G).trans ((aL _ _ _ _ _ _ G).trans ((f.cell (p:=⟨j,1,none⟩) ao).trans (F.cell 1 rfl))))),(aL _ _ _ _ _ _ H).trans ((aL _ _ _ _ _ _ H).trans ((aL _ _ _ _ _ _ H).trans ((aL _ _ _ _ _ _ H).trans ((f.cell (p:=⟨k,0,none⟩) ap).trans (L.cell 0 rfl))))),(aL _ _ _ _ _ _ H).trans ((aL _ _ _ _ _ _ H).trans ((aL _ _ _ _ _ _ H).trans ((aL _ _ _ _ _ _ H).trans ((f.cell (p:=⟨k,1,none⟩) ap).trans (L.cell 1 rfl))))),(aL _ _ _ _ _ _ I).trans ((aL _ _ _ _ _ _ I).trans ((aL _ _ _ _ _ _ I).trans ((aL _ _ _ _ _ _ I).trans ((f.cell (p:=⟨l,0,none⟩) aq).trans (P7.cell 0 rfl))))),(aL _ _ _ _ _ _ I).trans ((aL _ _ _ _ _ _ I).trans ((aL _ _ _ _ _ _ I).trans ((aL _ _ _ _ _ _ I).trans ((f.cell (p:=⟨l,1,none⟩) aq).trans (P7.cell 1 rfl))))),(aL _ _ _ _ _ _ J).trans ((aL _ _ _ _ _ _ J).trans ((aL _ _ _ _ _ _ J).trans ((aL _ _ _ _ _ _ J).trans ((f.cell (p:=⟨m,0,none⟩) ar).trans (P8.cell 0 rfl))))),(aL _ _ _ _ _ _ J).trans ((aL _ _ _ _ _ _ J).trans ((aL _ _ _ _ _ _ J).trans ((aL _ _ _ _ _ _ J).trans ((f.cell (p:=⟨m,1,none⟩) ar).trans (P8.cell 1 rfl)))))⟩)
     go_region_held3 (fun c=>c.cell? ⟨j,0,none⟩=some (.bool s5)∧c.cell? ⟨j,1,none⟩=some (.slice A5 k5 c5)∧c.cell? ⟨k,0,none⟩=some (.bool s6)∧c.cell? ⟨k,1,none⟩=some (.slice A6 k6 c6)∧c.cell? ⟨l,0,none⟩=some (.bool s7)∧c.cell? ⟨l,1,none⟩=some (.slice A7 k7 c7)∧c.cell? ⟨m,0,none⟩=some (.bool s8)∧c.cell? ⟨m,1,none⟩=some (.slice A8 k8 c8))
      (first|(with_reducible exact KF.out _ _ _ _ _ (by with_reducible (repeat (first|exact aG _ _|refine ua ?_|refine ud ?_|refine ut ?_ o|refine ut ?_ q|refine ut ?_ r|refine us ?_ (by omega)))))|(exact KS.out _ (by with_reducible (repeat (first|exact aG _ _|refine ua ?_|refine ud ?_|refine ut ?_ o|refine ut ?_ q|refine ut ?_ r|refine us ?_ (by omega))))))
      (first
       |(go_at_call 73;(with_reducible refine(b7 _ (i5.be (by with_reducible (repeat (first|exact aG _ _|refine ua ?_|refine ud ?_|refine ut ?_ o|refine ut ?_ q|refine ut ?_ r|refine us ?_ (by omega))))) (i7.be (by with_reducible (repeat (first|exact aG _ _|refine ua ?_|refine ud ?_|refine ut ?_ o|refine ut ?_ q|refine ut ?_ r|refine us ?_ (by omega)))))).mono ?_);rintro dn ck ⟨es,rfl,a9,o⟩;have cg:=o.size;(try simp at cg);have bz:Below t.heap.size t ck:=(by with_reducible (repeat (first|exact aG _ _|refine ua ?_|refine ud ?_|refine ut ?_ o|refine ut ?_ q|refine ut ?_ r|refine us ?_ (by omega))));have ef:=bz.size;obtain⟨em,cr,eb,dh,rfl⟩:=a9.form)
       |(go_at_call 73;(with_reducible refine(b8 _ (i8.be (by with_reducible (repeat (first|exact aG _ _|refine ua ?_|refine ud ?_|refine ut ?_ o|refine ut ?_ q|refine ut ?_ r|refine us ?_ (by omega))))) (i6.be (by with_reducible (repeat (first|exact aG _ _|refine ua ?_|refine ud ?_|refine ut ?_ o|refine ut ?_ q|refine ut ?_ r|refine us ?_ (by omega)))))).mono ?_);rintro dp cl ⟨et,rfl,ba,q⟩;have ch:=q.size;(try simp at ch);have b0:Below t.heap.size t cl:=(by with_reducible (repeat (first|exact aG _ _|refine ua ?_|refine ud ?_|refine ut ?_ o|refine ut ?_ q|refine ut ?_ r|refine us ?_ (by omega))));have eg:=b0.size;obtain⟨en,cs,ec,di,rfl⟩:=ba.form)
       |(go_at_call 89;(with_reducible refine(b6 _ _ _ (a9.be (by with_reducible (repeat (first|exact aG _ _|refine ua ?_|refine ud ?_|refine ut ?_ o|refine ut ?_ q|refine ut ?_ r|refine us ?_ (by omega))))) (ba.be (by with_reducible (repeat (first|exact aG _ _|refine ua ?_|refine ud ?_|refine ut ?_ o|refine ut ?_ q|refine ut ?_ r|refine us ?_ (by omega)))))).mono ?_);rintro dq bu ⟨eu,rfl,au,r⟩;have ci:=r.size;(try simp at ci);have b3:Below t.heap.size t bu:=(by with_reducible (repeat (first|exact aG _ _|refine ua ?_|refine ud ?_|refine ut ?_ o|refine ut ?_ q|refine ut ?_ r|refine us ?_ (by omega))));have eh:=b3.size;have bc:Below t.heap.size t bu:=(by with_reducible (repeat (first|exact aG _ _|refine ua ?_|refine ud ?_|refine ut ?_ o|refine ut ?_ q|refine ut ?_ r|refine us ?_ (by omega))));have ai:=R9.be bc;have cx:=ai.g4;obtain⟨sa,Aa,ka,ca,sb,Ab,kb,cb,rfl⟩:=au.form))
     all_goals (
      go_wp2_with fail;replace d:=aC d bc;obtain⟨W6,aj,ai,d,n,ff⟩:=ai.put4 d (by omega) (.bool sa) (.slice Aa ka ca) (.bool sb) (.slice Ab kb cb) rfl rfl;replace au:=au.ke n;rw[aj];clear aj;replace B:=ai.k4;exact aM (v:= .agg #[.bool sa,.slice Aa ka ca,.bool sb,.slice Ab kb cb]) (by simp[results,results126,go_sem,ai.k4]) rfl ⟨_,rfl,au,d⟩
     )
end Go.Proofs.YtgjeoghojliocaaGreatDoor
namespace Go.Proofs.YtgjeoghojliocaaGreatDoor
open Sos
def pK{x:Rat}(h:0<x):0<x.num:=by
 have a:=Rat.num_nonneg.2 (Rat.le_of_lt h);have b:x.num≠0:=fun e=>by rw[Rat.num_eq_zero.1 e] at h;exact absurd h (by decide)
 omega
def iY(x:Rat):x<0∨x=0∨0<x:=by
 by_cases a:x=0
 ·exact .inr (.inl a)
 ·by_cases b:0<x
  ·exact .inr (.inr b)
  ·exact .inl (by grind)
def fS(x:Rat):(0<x->x.num.sign=1)∧(x<0->x.num.sign= -1):=⟨fun h=>Int.sign_eq_one_of_pos (pK h),fun h=>Int.sign_eq_neg_one_of_neg (by have:=pK (show 0< -x by grind);rw[Rat.neg_num] at this;omega)⟩
def tU{f:Rat}(a:0<f)(x:Rat):(f*x).num.sign=x.num.sign:=by
 rcases iY x with h|h|h
 ·have:f*x<0:=by have:=Rat.mul_pos a (show 0< -x by grind);grind
  rw[(fS _).2 this,(fS _).2 h]
 ·rw[h,gX]
 ·rw[(fS _).1 (Rat.mul_pos a h),(fS _).1 h]
def xJ(n:Int):((n:Rat)).num.sign=n.sign:=by rw[Rat.num_intCast]
end Go.Proofs.YtgjeoghojliocaaGreatDoor
namespace Go.Proofs.YtgjeoghojliocaaGreatDoor
open Go.RowKit Sos Tryz
def IntAt.abs{w:World}{s:Bool}{u:Value}{n:Int}(h:IntAt w (.agg #[.bool s,u]) n):IntAt w (.agg #[.bool false,u]) (n.natAbs:Int):=by
 obtain⟨b,e,h⟩:=h;injection e with e;have a:=congrArg Array.toList e;simp only[List.cons.injEq] at a;obtain⟨-,rfl, -⟩:=a;exact⟨u,by rw[show decide (((n.natAbs:Nat):Int)<0)=false by simp],by rw[dD];exact h⟩
def J3(x:Int)(i:Value)(w:World)(h:IntAt w i x):Calls prog 39 #[i] w (dW w (x.natAbs:Int)):=by
 obtain⟨m,c,e,d,rfl⟩:=h.form;have a:=h.abs;obtain⟨W,f,b,X,R⟩:=eL w [.bool m,.slice c e d] 40 [.bool false,.slice none 0 0] 40;have j:=aa X.g2 R.g2;go_enter func39,ntmps39;go_wp2_with fail;(try rw[f]);clear f;replace a:=a.be b;obtain⟨n,g,R,b,l,k⟩:=R.put2 b (by omega) (.bool false) (.slice c e d) rfl rfl;replace X:=k X (by omega);replace a:=a.ke l;rw[g];clear g;replace j:=aa X.k2 R.k2;exact aM (v:= .agg #[.bool false,.slice c e d]) (by simp[results,results39,go_sem,R.k2]) rfl ⟨_,rfl,a,b⟩
def UN(x y:Int):(x<0->y<0->bZ (y.natAbs:Int) (x.natAbs:Int)=bZ x y)∧(x<0->¬y<0->bZ x y= -1)∧(¬x<0->y<0->bZ x y=1)∧(¬x<0->¬y<0->bZ (x.natAbs:Int) (y.natAbs:Int)=bZ x y):=by
 refine⟨fun h k=> ?_,fun h k=>jL (by omega),fun h k=>mO (by omega),fun h k=> ?_⟩
 ·have a:=kJ (y.natAbs:Int) (x.natAbs:Int);have b:=kJ x y;omega
 ·rw[show((x.natAbs:Nat):Int)=x by omega,show((y.natAbs:Nat):Int)=y by omega]
def BX(x y:Int)(D E:Value)(w:World)(G:IntAt w D x)(H:IntAt w E y)(B:nl x.natAbs<=17592186044416)(A:nl y.natAbs<=17592186044416):
  Calls prog 40 #[D,E] w (eO w (bZ x y)):=by
 obtain⟨K,rfl,v⟩:=G;obtain⟨L,rfl,z⟩:=H;obtain⟨l,p2,m,n⟩:=UN x y;obtain⟨I,f⟩:∃s,decide (x<0)=s:=⟨_,rfl⟩;obtain⟨C,d⟩:∃s,decide (y<0)=s:=⟨_,rfl⟩;rw[f,d];obtain⟨g,j,rfl, -⟩:=id v;obtain⟨i,k,rfl, -⟩:=id z;obtain⟨R,o⟩:∃R,bZ x y=R:=⟨_,rfl⟩;rw[o] at l p2 m n⊢;have p:=fun W h t=>nA y.natAbs x.natAbs (.slice i (nl y.natAbs) k) (.slice g (nl x.natAbs) j) W h t A B;have q:=fun W h t=>nA x.natAbs y.natAbs (.slice g (nl x.natAbs) j) (.slice i (nl y.natAbs) k) W h t B A;cases I with
 |true=>
  have e:x<0:=of_decide_eq_true f;cases C with
  |true=>
   have c:y<0:=of_decide_eq_true d;rw[l e c] at p;clear l p2 m n q f d o e c;obtain⟨W,b,a,X,Y⟩:=eL w [.bool true,.slice g (nl x.natAbs) j] 40 [.bool true,.slice i (nl y.natAbs) k] 40;have r:=aa X.g2 Y.g2;go_enter func40,ntmps40;go_wp2_with fail;(try rw[b]);clear b;refine(p _ (z.be a) (v.be a)).mono ?_;rintro F J ⟨rfl,u⟩;go_wp2;go_ret;exact⟨rfl,aC a u⟩
  |false=>
   have c:¬y<0:=of_decide_eq_false d;obtain rfl:=p2 e c;clear l p2 m n p q f d o e c;obtain⟨W,b,a,X,Y⟩:=eL w [.bool true,.slice g (nl x.natAbs) j] 40 [.bool false,.slice i (nl y.natAbs) k] 40;have r:=aa X.g2 Y.g2;go_enter func40,ntmps40;go_wp2_with fail;(try rw[b]);clear b;go_ret;exact⟨rfl,a⟩
 |false=>
  have e:¬x<0:=of_decide_eq_false f;cases C with
  |true=>
   have c:y<0:=of_decide_eq_true d;obtain rfl:=m e c;clear l p2 m n p q f d o e c;obtain⟨W,b,a,X,Y⟩:=eL w [.bool false,.slice g (nl x.natAbs) j] 40 [.bool true,.slice i (nl y.natAbs) k] 40;have r:=aa X.g2 Y.g2;go_enter func40,ntmps40;go_wp2_with fail;(try rw[b]);clear b;go_ret;exact⟨rfl,a⟩
  |false=>
   have c:¬y<0:=of_decide_eq_false d;rw[n e c] at q;clear l p2 m n p f d o e c;obtain⟨W,b,a,X,Y⟩:=eL w [.bool false,.slice g (nl x.natAbs) j] 40 [.bool false,.slice i (nl y.natAbs) k] 40;have r:=aa X.g2 Y.g2;go_enter func40,ntmps40;go_wp2_with fail;(try rw[b]);clear b;refine(q _ (v.be a) (z.be a)).mono ?_;rintro F J ⟨rfl,u⟩;go_wp2;go_ret;exact⟨rfl,aC a u⟩
def J4(x:Rat)(d:Value)(w:World)(c:RatAt w d x)(g:nl x.num.natAbs<=17592186044416):
  Calls prog 72 #[d] w (eO w x.num.sign):=by
 obtain⟨m,e,k,h,n,f,l,i,rfl⟩:=c.form;obtain⟨W,b,a,X⟩:=bI w [.bool m,.slice e k h,.bool n,.slice f l i] 47;have o:=X.g4;go_enter func72,ntmps72;go_wp2_with fail;(try rw[b]);clear b;have hn:=(c.be a).num;refine(qG _ _ _ hn g).mono ?_;rintro p q ⟨rfl,j⟩;go_wp2;go_ret;exact⟨rfl,aC a j⟩
def J5(x y:Rat):bZ (x.num*y.den) (y.num*x.den)=(x-y).num.sign:=by
 rcases iY (x-y) with h|h|h
 ·have:x<y:=by grind
  rw[(fS _).2 h,jL ((Rat.lt_iff x y).1 this)]
 ·have:x=y:=by grind
  rw[h,this,wE];rfl
 ·have:y<x:=by grind
  rw[(fS _).1 h,mO ((Rat.lt_iff y x).1 this)]
def UO{x y:Rat}(a:x.den=1)(b:y.den=1):bZ x.num y.num=(x-y).num.sign:=by
 have:=J5 x y;rwa [a,b,show((1:Nat):Int)=1 from rfl,Int.mul_one,Int.mul_one] at this
def xB{x:Rat}(h:x<0):x.num<0:=by have:=pK (show 0< -x by grind);rw[Rat.neg_num] at this;omega
def UP{x y:Rat}(h:x.num.sign≠y.num.sign):bZ x.num y.num=(x-y).num.sign:=by
 rcases iY x with a|a|a<;>rcases iY y with b|b|b
 ·rw[(fS x).2 a,(fS y).2 b] at h;exact absurd rfl h
 ·rw[b] at *;rw[show Rat.num 0=0 from rfl];rw[(fS _).2 (show x-0<0 by grind),jL (xB a)]
 ·have:=xB a;have:=pK b
  rw[(fS _).2 (show x-y<0 by grind),jL (by omega)]
 ·rw[a] at *;rw[show Rat.num 0=0 from rfl];rw[(fS _).1 (show 0<0-y by grind),mO (xB b)]
 ·rw[a,b] at h;exact absurd rfl h
 ·rw[a] at *;rw[show Rat.num 0=0 from rfl];rw[(fS _).2 (show 0-y<0 by grind),jL (pK b)]
 ·have:=pK a;have:=xB b
  rw[(fS _).1 (show 0<x-y by grind),mO (by omega)]
 ·rw[b] at *;rw[show Rat.num 0=0 from rfl];rw[(fS _).1 (show 0<x-0 by grind),mO (pK a)]
 ·rw[(fS x).1 a,(fS y).1 b] at h;exact absurd rfl h
def BY(x y:Rat)(vx vy:Value)(w:World)(d:RatAt w vx x)(e:RatAt w vy y)(K:Nat)(bx:RL K x)(bY:RL K y)(hK:4*K+8<=17592186044416):
  Calls prog 28 #[vx,vy] w (eO w (x-y).num.sign):=by
 obtain⟨I,l,G,n,Z,L,S,N,rfl⟩:=d.form;obtain⟨J,m,H,o,s4,M,T,O,rfl⟩:=e.form;have⟨ap,aq⟩:=bx;have⟨ar,au⟩:=bY;have C:=d.den;have E:=e.den;have D:=d.num;have F:=e.num;have av:=mY x;have aw:=mY y;have m1:=gT x.num (y.den:Int) _ _ ap (show nl (y.den:Int).natAbs<=K from au);have m2:=gT y.num (x.den:Int) _ _ ar (show nl (x.den:Int).natAbs<=K from aq);have zx:=fun W h=>g9 (bS x) (.agg #[.bool Z,.slice L S N]) W h (by omega);have k:=fun W h=>g9 (bS y) (.agg #[.bool s4,.slice M T O]) W h (by omega);have t:=fun W h=>J4 x (.agg #[.bool I,.slice l G n,.bool Z,.slice L S N]) W h (by omega);have z:=fun W h=>J4 y (.agg #[.bool J,.slice m H o,.bool s4,.slice M T O]) W h (by omega);have P:=fun W h=>tN x (.agg #[.bool I,.slice l G n,.bool Z,.slice L S N]) W h (by omega);have Q:=fun W h=>tN y (.agg #[.bool J,.slice m H o,.bool s4,.slice M T O]) W h (by omega);have U:=fun W u h A=>jB x.num (y.den:Int) (.agg #[.bool I,.slice l G n]) u W h A (by show nl x.num.natAbs+nl y.den<=_;omega);have V:=fun W u h A=>jB y.num (x.den:Int) (.agg #[.bool J,.slice m H o]) u W h A (by show nl y.num.natAbs+nl x.den<=_;omega);have s:=fun W u v h A=>BX (x.num*y.den) (y.num*x.den) u v W h A (by omega) (by omega);have g:=fun W h A=>BX x.num y.num (.agg #[.bool I,.slice l G n]) (.agg #[.bool J,.slice m H o]) W h A (by omega) (by omega);rw[J5] at s;obtain⟨p,hp⟩:∃p,decide (bS x=0)=p:=⟨_,rfl⟩;obtain⟨q,hq⟩:∃q,decide (bS y=0)=q:=⟨_,rfl⟩;rw[hp] at zx;rw[hq] at k;have hI:p=true->q=true->bZ x.num y.num=(x-y).num.sign:=fun h1 h2=>UO (fV.1 (of_decide_eq_true (hp.trans h1))) (fV.1 (of_decide_eq_true (hq.trans h2)));have hS:x.num.sign≠y.num.sign->bZ x.num y.num=(x-y).num.sign:=UP;obtain⟨r,hr⟩:∃r,(x.num.sign != y.num.sign)=r:=⟨_,rfl⟩;have B:r=true->bZ x.num y.num=(x-y).num.sign:=fun h=>hS (by rw[h] at hr;simpa using hr);unfold dW at P Q U V;unfold eO at t z s g;generalize (x-y).num.sign=R at *;generalize x.num.sign=sx at *;generalize y.num.sign=sy at *;clear hS bx bY ap aq ar au av aw m1 m2 hp hq;obtain⟨W,eW,f,X,Y⟩:=eL w [.bool I,.slice l G n,.bool Z,.slice L S N] 47 [.bool J,.slice m H o,.bool s4,.slice M T O] 47;have cM:=aa X.g4 Y.g4;go_enter func28,ntmps28;go_wp2_with fail;(try rw[eW]);clear eW;replace d:=d.be f;replace e:=e.be f;replace C:=C.be f;replace E:=E.be f;replace D:=D.be f;replace F:=F.be f;cases p with
 |false=>
  clear hI;cases r with
  |true=>
   rw[B rfl] at g;clear B k P Q U V s;have cX:=X.k4;have cY:=Y.k4
   first
    |(go_region_with (first
      |(go_at_call 71;(first|(with_reducible refine(zx _ C.up).mono ?_)|(with_reducible refine(k _ E.up).mono ?_));rintro e5 a ⟨rfl,i⟩;have:=St.mk i;have ad:=(X.up (b:=a)).k4;have af:=(Y.up (b:=a)).k4)
      |(go_at_call 72;(first|(with_reducible refine(t _ d.up).mono ?_)|(with_reducible refine(z _ e.up).mono ?_));rintro e6 c ⟨rfl,j⟩;have:=St.mk j;have ae:=(X.up (b:=c)).k4;have ag:=(Y.up (b:=c)).k4)))
    |fail
   all_goals (
    go_wp2_with fail;refine(g _ D.up F.up).mono ?_;rintro e7 w7 ⟨rfl,ac⟩;have:=St.mk ac;go_wp2;go_ret;exact⟨rfl,bJ (b:=w7) f⟩)
  |false=>
   clear B k g;have cX:=X.k4;have cY:=Y.k4
   first
    |(go_region_with (first
      |(go_at_call 71;(first|(with_reducible refine(zx _ C.up).mono ?_)|(with_reducible refine(k _ E.up).mono ?_));rintro e5 a ⟨rfl,i⟩;have:=St.mk i;have ad:=(X.up (b:=a)).k4;have af:=(Y.up (b:=a)).k4)
      |(go_at_call 72;(first|(with_reducible refine(t _ d.up).mono ?_)|(with_reducible refine(z _ e.up).mono ?_));rintro e6 c ⟨rfl,j⟩;have:=St.mk j;have ae:=(X.up (b:=c)).k4;have ag:=(Y.up (b:=c)).k4)))
    |fail
   all_goals (
    go_wp2_with fail
    go_region_held3 (fun w'=>C4 w' w.heap.size (.bool I) (.slice l G n) (.bool Z) (.slice L S N)∧C4 w' (w.heap.size+1) (.bool J) (.slice m H o) (.bool s4) (.slice M T O)) (with_reducible exact⟨X.up.k4,Y.up.k4⟩)
     (first
      |(go_at_call 74;first|(with_reducible refine(Q _ e.up).mono ?_;rintro e8 w8 ⟨v8,rfl,h8,am⟩;have:=St.mk am)|(with_reducible refine(P _ d.up).mono ?_;rintro e9 w9 ⟨v9,rfl,h9,an⟩;have:=St.mk an))
      |(go_at_call 73;first|(with_reducible refine(U _ _ D.up h8.up).mono ?_;rintro ax a2 ⟨a0,rfl,ah,aj⟩;have:=St.mk aj)|(with_reducible refine(V _ _ F.up h9.up).mono ?_;rintro ay a3 ⟨a1,rfl,ai,ak⟩;have:=St.mk ak))
      |(go_at_call 40;refine(s _ _ _ ah.up ai.up).mono ?_;rintro az ao ⟨rfl,al⟩;have:=St.mk al))
    all_goals (
     go_wp2;go_ret;exact⟨rfl,bJ (b:=ao) f⟩))
 |true=>
  cases q with
  |false=>
   clear hI;cases r with
   |true=>
    rw[B rfl] at g;clear B P Q U V s;have cX:=X.k4;have cY:=Y.k4
    first
     |(go_region_with (first
       |(go_at_call 71;(first|(with_reducible refine(zx _ C.up).mono ?_)|(with_reducible refine(k _ E.up).mono ?_));rintro e5 a ⟨rfl,i⟩;have:=St.mk i;have ad:=(X.up (b:=a)).k4;have af:=(Y.up (b:=a)).k4)
       |(go_at_call 72;(first|(with_reducible refine(t _ d.up).mono ?_)|(with_reducible refine(z _ e.up).mono ?_));rintro e6 c ⟨rfl,j⟩;have:=St.mk j;have ae:=(X.up (b:=c)).k4;have ag:=(Y.up (b:=c)).k4)))
     |fail
    all_goals (
     go_wp2_with fail;refine(g _ D.up F.up).mono ?_;rintro e7 w7 ⟨rfl,ac⟩;have:=St.mk ac;go_wp2;go_ret;exact⟨rfl,bJ (b:=w7) f⟩)
   |false=>
    clear B g;have cX:=X.k4;have cY:=Y.k4
    first
     |(go_region_with (first
       |(go_at_call 71;(first|(with_reducible refine(zx _ C.up).mono ?_)|(with_reducible refine(k _ E.up).mono ?_));rintro e5 a ⟨rfl,i⟩;have:=St.mk i;have ad:=(X.up (b:=a)).k4;have af:=(Y.up (b:=a)).k4)
       |(go_at_call 72;(first|(with_reducible refine(t _ d.up).mono ?_)|(with_reducible refine(z _ e.up).mono ?_));rintro e6 c ⟨rfl,j⟩;have:=St.mk j;have ae:=(X.up (b:=c)).k4;have ag:=(Y.up (b:=c)).k4)))
     |fail
    all_goals (
     go_wp2_with fail
     go_region_held3 (fun w'=>C4 w' w.heap.size (.bool I) (.slice l G n) (.bool Z) (.slice L S N)∧C4 w' (w.heap.size+1) (.bool J) (.slice m H o) (.bool s4) (.slice M T O)) (with_reducible exact⟨X.up.k4,Y.up.k4⟩)
      (first
       |(go_at_call 74;first|(with_reducible refine(Q _ e.up).mono ?_;rintro e8 w8 ⟨v8,rfl,h8,am⟩;have:=St.mk am)|(with_reducible refine(P _ d.up).mono ?_;rintro e9 w9 ⟨v9,rfl,h9,an⟩;have:=St.mk an))
       |(go_at_call 73;first|(with_reducible refine(U _ _ D.up h8.up).mono ?_;rintro ax a2 ⟨a0,rfl,ah,aj⟩;have:=St.mk aj)|(with_reducible refine(V _ _ F.up h9.up).mono ?_;rintro ay a3 ⟨a1,rfl,ai,ak⟩;have:=St.mk ak))
       |(go_at_call 40;refine(s _ _ _ ah.up ai.up).mono ?_;rintro az ao ⟨rfl,al⟩;have:=St.mk al))
     all_goals (
      go_wp2;go_ret;exact⟨rfl,bJ (b:=ao) f⟩))
  |true=>
   rw[hI rfl rfl] at g;clear B hI P Q U V s t z;have cX:=X.k4;have cY:=Y.k4
   first
    |(go_region_with (first
      |(go_at_call 71;(first|(with_reducible refine(zx _ C.up).mono ?_)|(with_reducible refine(k _ E.up).mono ?_));rintro e5 a ⟨rfl,i⟩;have:=St.mk i;have ad:=(X.up (b:=a)).k4;have af:=(Y.up (b:=a)).k4)
      |(go_at_call 72;(first|(with_reducible refine(t _ d.up).mono ?_)|(with_reducible refine(z _ e.up).mono ?_));rintro e6 c ⟨rfl,j⟩;have:=St.mk j;have ae:=(X.up (b:=c)).k4;have ag:=(Y.up (b:=c)).k4)))
    |fail
   all_goals (
    go_wp2_with fail;refine(g _ D.up F.up).mono ?_;rintro e7 w7 ⟨rfl,ac⟩;have:=St.mk ac;go_wp2;go_ret;exact⟨rfl,bJ (b:=w7) f⟩)
def UQ(n:Int)(w:World)(k: -9223372036854775808<=n)(a:n<=9223372036854775807):Calls prog 44 #[.int .i64 n] w (iF w (n:Rat)):=by
 obtain⟨W,f,b,R⟩:=bI w [.bool false,.slice none 0 0,.bool false,.slice none 0 0] 47;have e:=R.g4;go_enter func44,ntmps44;go_wp2_with fail;(try rw[f]);clear f;refine(lL n _ k a).mono ?_;rintro o r ⟨q,rfl,a,h⟩;obtain⟨j,c,i,d,rfl⟩:=a.form;replace R:=R.be h;replace b:=aC b h;have e:=R.g4;go_wp2_with fail;obtain⟨m,g,R,b,l,p⟩:=R.put4 b (by omega) (.bool j) (.slice c i d) (.bool false) (.slice none 0 0) rfl rfl;replace a:=a.ke l;rw[g];clear g;replace e:=R.k4;exact aM (v:= .agg #[.bool j,.slice c i d,.bool false,.slice none 0 0]) (by simp[results,results44,go_sem,R.k4]) rfl ⟨_,rfl,RatAt.int a (IntAt.zero _),b⟩
structure DivRes(A B Q R:List Rat)(K:Nat):Prop where
 id_:∀i,conv (cf Q) (cf B) i+cf R i=cf A i
 q_trim:aN Q
 r_trim:aN R
 r_lt:R.length<B.length
 q_len:Q.length<=A.length
 bq:∀q∈Q,RL K q
 br:∀q∈R,RL K q
def VN{ns:List Int}{F:Int}(hF:F≠0)(h:aN ns):aN (tT ns F):=by
 intro a b e;unfold tT at b;rw[List.getLast?_map] at b;cases hq:ns.getLast? with
 |none=>rw[hq] at b;simp at b
 |some n=>
  rw[hq] at b;simp only[Option.map_some,Option.some.injEq] at b;rw[e] at b;have c:(n:Rat)≠0:=fun e=>h n hq (Rat.intCast_inj.1 e);have d:(F:Rat)≠0:=fun e=>hF (Rat.intCast_inj.1 e);grind
def xM{ns:List Int}{E:Int}(d:E≠0)(h:aN ns):aN (ns.map (·*E)):=by
 intro a b e;rw[List.getLast?_map] at b;cases hq:ns.getLast? with
 |none=>rw[hq] at b;simp at b
 |some n=>
  rw[hq] at b;simp only[Option.map_some,Option.some.injEq] at b;rw[e] at b;rcases Int.mul_eq_zero.1 b with c|c
  ·exact h n hq c
  ·exact d c
def xN(ns:List Int)(F:Int)(i:Nat):cf (tT ns F) i=((cf ns i:Int):Rat)/F:=mG (fun n:Int=>(n:Rat)/(F:Rat)) (F7 F) ns i
def CC(ns:List Int)(E:Int)(i:Nat):cf (ns.map (·*E)) i=cf ns i*E:=mG (·*E) (Int.zero_mul E) ns i
def VR{a:List (List UInt8)}(h:¬a.length<=65):vl a=false:=by unfold vl;rw[jA];exact fun b=>h b.1
def VS(a:List (List UInt8)):(aU a).length=a.length:=cH _
end Go.Proofs.YtgjeoghojliocaaGreatDoor
namespace Go.Proofs.YtgjeoghojliocaaGreatDoor
open Sos Lib
def l8(c:UInt8):Bool:=c != 47
def lU(s:List UInt8):Option Rat:=
 let a:=s.head?==some 45
 let t:=if a then s.tail else s
 let n:=t.takeWhile l8
 if n≠[]∧n.all bO then
  match t.dropWhile l8 with
  |[]=>some ((fO a (aO n):Int):Rat)
  |_ :: d=>if d≠[]∧d.all bO∧aO d≠0 then some (((fO a (aO n):Int):Rat)/((aO d:Int):Rat)) else none
 else none
def JK{l:List UInt8}(h:Digs l):l.all bO=true:=by
 rw[List.all_eq_true];intro c a;have:=h c a;simpa [bO] using this
def xP{l:List UInt8}(h:l.all bO=true):Digs l:=fun c a=>by
 have:=List.all_eq_true.1 h c a;simpa [bO] using this
def VZ{l t:List UInt8}(h:Digs l)(g:t=[]∨t.head?=some 47):(l++t).takeWhile l8=l∧(l++t).dropWhile l8=t:=by
 induction l with
 |nil=>
  cases t with
  |nil=>exact⟨rfl,rfl⟩
  |cons c m=>
   have b:c=47:=by simpa using g
   subst b;simp[List.takeWhile_cons,List.dropWhile_cons,l8]
 |cons a l i=>
  have f:l8 a=true:=by
   have:=h a (iC ..);unfold l8;rw[bne_iff_ne];rintro rfl;exact absurd this (by decide)
  obtain⟨d,e⟩:=i (fun c b=>h c (j8 _ b));simp[List.takeWhile_cons,List.dropWhile_cons,f,d,e]
def WA(q:Rat):lU (cW q)=some q:=by
 have b:=oL q.num.natAbs;have d:=tK q.num.natAbs;obtain⟨a,m,c⟩:∃a m,decDigits q.num.natAbs=a :: m:=by
  cases h:decDigits q.num.natAbs with
  |nil=>exact absurd h d
  |cons a m=>exact⟨a,m,rfl⟩
 have k:a≠45:=by
  intro e;have:=b a (by rw[c];exact iC ..);rw[e] at this;exact absurd this (by decide)
 have l:fO (decide (q.num<0)) q.num.natAbs=q.num:=by
  unfold fO;by_cases h:q.num<0<;>simp[h]<;>omega
 have f:((cW q).head?==some 45)=decide (q.num<0):=by
  unfold cW;by_cases h:q.num<0
  ·simp[h]
  ·simp[h,c,k]
 have g:(if decide (q.num<0)=true then (cW q).tail else cW q)=decDigits q.num.natAbs++(if q.den=1 then [] else 47 :: decDigits q.den):=by
  unfold cW;by_cases h:q.num<0<;>simp[h]
 obtain⟨i,j⟩:=VZ (t:=if q.den=1 then [] else 47 :: decDigits q.den) b (by by_cases e:q.den=1<;>simp[e]);unfold lU;simp only[f,g,i,j,mQ,l];rw[if_pos ⟨d,JK b⟩];by_cases e:q.den=1
 ·rw[if_pos e];simp only[];congr 1;exact Rat.ext rfl e.symm
 ·rw[if_neg e];simp only[];rw[if_pos ⟨tK _,JK (oL _),by rw[mQ];exact q.den_nz⟩,mQ];congr 1;rw[Rat.intCast_natCast,<-Rat.mkRat_eq_div,Rat.mkRat_self]
def xQ(s:List UInt8):(∀q,bD s=some q->lU s=some q∧cW q=s)∧(∀q,lU s=some q->cW q=s->bD s=some q):=by
 refine⟨fun q h=> ?_,fun q h e=> ?_⟩
 ·have:=tL h;exact⟨by rw[<-this];exact WA q,this⟩
 ·rw[<-e];exact SU q
end Go.Proofs.YtgjeoghojliocaaGreatDoor
namespace Go.Proofs.YtgjeoghojliocaaGreatDoor
open Go.RowKit Sos Tryz
def VW(w:World)(l:List UInt8)(e:Ending)(w':World):Prop:=∃v z,e= .returned (.tuple #[v,.bool (decide (l≠[]∧l.all bO=true))])∧NI w' v z∧(l.all bO=true->z=(aO l:Int))∧Below w.heap.size w w'
def Mg.one{w:World}{b f:Nat}(h:Bx w b [.int .u32 (f:Int)] 179)(e:f≠0)(i:f<4294967296):Mg w (.slice (some ⟨b,0,none⟩) 1 1) f:=
 ⟨[f],Ds.own (es:=[]) h (fun d g=>by rw[List.mem_singleton.1 g];exact i) 1 aE,fun a c=>by simp at c;rw[<-c];exact e,by simp[nv]⟩
def JI(l:List UInt8)(w:World)(hl:l.length<=1073741824):Calls prog 118 #[.string ⟨l.toArray⟩] w (VW w l):=by
 have a0:(⟨l.toArray⟩:ByteArray).size=l.length:=by simp[ByteArray.size]
 obtain⟨W,Y,a,R⟩:=bI w [.bool false,.slice none 0 0] 60;have r:=R.g2;go_enter func118,ntmps118;go_wp2_with fail;(try rw[Y]);clear Y;go_loopg [4,5] l.length (fun g s4 O wr=>∃(m i:Nat),Hid (i+g=l.length)∧O= .int .i64 (i:Int)∧Mg wr s4 m∧Hid (m=aO (l.take i))∧Hid ((l.take i).all bO=true)∧Bx wr w.heap.size [.bool false,.slice none 0 0] 60∧Below w.heap.size w wr)
 case atStart=>exact⟨0,0,by unfold Hid;omega,rfl,Mg.zero _ _ _,rfl,rfl,R,a⟩
 case round=>
  clear R a r;obtain⟨m,i,J,rfl,F,q,s,R,a⟩:=hrel;generalize wr=wx at *;have a4:(0:Int)<=(i:Int):=by omega
  have r:=R.g2;cases gk with
  |zero=>
   have hi:i=l.length:=J.out;subst hi;have aw:¬(l.length:Int)<(l.length:Int):=by omega
   rw[List.take_length] at q s;obtain⟨A,k,c,rfl⟩:=F.form;have am:nl m<=1099511627776:=by rw[q.out];exact aH (oJ (xP s.out)) (by omega)
   go_wp2_with fail;refine(r9 false _ m (m:Int) _ F am rfl).mono ?_;rintro e3 w3 ⟨v3,rfl,n,u⟩;obtain⟨H,y,G,C,rfl⟩:=n.form;replace R:=R.be u;replace r:=R.g2;replace a:=aC a u;have hq:decide (l≠[]∧l.all bO=true)=decide (l≠[]):=by simp[s.out]
   have B:=aB hq;clear hq;by_cases p:l=[]
   ·have q0:(l != [])=false:=by simp[p]
    have t:Hid (decide (l≠[]∧l.all bO=true)=false):=by unfold Hid;rw[B.out];simp[p]
    have I:=aB p;clear p B;go_wp2_with fail;obtain⟨X,o,R,a,E,Z⟩:=R.mut2 a (by omega) (.bool H) (.slice y G C) rfl rfl;replace n:=n.ke E;rw[o];clear o;replace r:=R.k2;exact aM (v:= .tuple #[.agg #[.bool H,.slice y G C],.bool false]) (by simp[results,results118,go_sem,R.k2];exact I.out) rfl ⟨_,_,by rw[t.out],n,fun _=>by rw[q.out],a⟩
   ·have q0:(l != [])=true:=by simp[p]
    have t:Hid (decide (l≠[]∧l.all bO=true)=true):=by unfold Hid;rw[B.out];simp[p]
    have I:=aB p;clear p B;go_wp2_with fail;obtain⟨X,o,R,a,E,Z⟩:=R.mut2 a (by omega) (.bool H) (.slice y G C) rfl rfl;replace n:=n.ke E;rw[o];clear o;replace r:=R.k2;exact aM (v:= .tuple #[.agg #[.bool H,.slice y G C],.bool true]) (by simp[results,results118,go_sem,R.k2];exact I.out) rfl ⟨_,_,by rw[t.out],n,fun _=>by rw[q.out],a⟩
  |succ g=>
   have aw:i<l.length:=by have:=J.out;omega
   go_wp2_with fail;go_loopg [5,6,7,8] 9 (fun b O s6 s7 s8 wy=>∃(v j:Nat),Hid (j+b=9)∧O= .int .i64 ((i+j:Nat):Int)∧i+j<=l.length∧s6= .int .u32 (v:Int)∧s7= .int .u32 ((10^j:Nat):Int)∧s8= .int .i64 (j:Int)∧Hid (v=aO ((l.drop i).take j))∧Hid (((l.drop i).take j).all bO=true)∧v<10^j∧wx=wy)
   case atStart=>exact⟨0,0,by unfold Hid;omega,rfl,by omega,rfl,rfl,rfl,rfl,rfl,by decide,rfl⟩
   case round=>
    obtain⟨v,j,z,rfl,a5,rfl,rfl,rfl,U,P,hv,rfl⟩:=hrel;have a6:(0:Int)<=(j:Int):=by omega
    by_cases ak:j<9∧i+j<l.length
    ·obtain⟨a8,aj⟩:=ak;have r1:(j:Int)<9:=by omega
     have r2:((i+j:Nat):Int)<(l.length:Int):=by omega
     obtain⟨e,a2,L⟩:∃e,({ data:=l.toArray }:ByteArray)[i+j]'(by rw[a0];exact aj)=e∧l[i+j]? =some e:=⟨_,rfl,by rw[aR aj];rfl⟩;have ah:(l.drop i)[j]? =some e:=by rw[List.getElem?_drop];exact L
     have ap:(l.drop i).take (j+1)=(l.drop i).take j++[e]:=by rw[kR,ah];rfl
     have ar:=aB L;have S:=aB ap;clear L ah ap;have c0:e.toNat<256:=e.toNat_lt;by_cases x:48<=e.toNat∧e.toNat<=57
     ·obtain⟨d1,d2⟩:=x;have s1:decide ((e.toNat:Int)<48)=false:=by rw[jA];omega
      have s2:decide ((57:Int)<(e.toNat:Int))=false:=by rw[jA];omega
      have ai:10^j<=10^8:=cO (by decide) (by omega);replace ai:10^j<=100000000:=ai;have a3:0<10^j:=d7 (by decide);have ao:10^(j+1)=10^j*10:=dH _ _;have Q:=aB ao;have hw:v*10+(e.toNat-48)=aO ((l.drop i).take (j+1)):=by rw[S.out,oK,<-U.out,dN]
      have ac:((l.drop i).take (j+1)).all bO=true:=by rw[S.out,List.all_append,P.out];simp[bO];omega
      have V:=aB (And.intro hw ac);obtain⟨b,rfl⟩:∃b,gk=b+1:=⟨gk-1,by have:=z.out;omega⟩;clear hw ac ao;generalize 10^j=f at *;go_wp2;go_roundg b
      case rel=>exact⟨v*10+(e.toNat-48),j+1,by have:=z.out;unfold Hid;omega,by go_num,by omega,pW (by omega),pW (by rw[Q.out];omega),by go_num,V.out.1,V.out.2,by rw[Q.out];omega,rfl⟩
      case measure=>omega
     ·have M:¬(l.all bO=true):=fun h=>x (by
       have:=List.all_eq_true.1 h e (dG ar.out);simpa [bO] using this)
      have au:=aB M;have t:Hid (decide (l≠[]∧l.all bO=true)=false):=by unfold Hid;rw[jA];exact fun h=>M h.2
      have N:decide ((e.toNat:Int)<48)=true∨decide ((e.toNat:Int)<48)=false∧decide ((57:Int)<(e.toNat:Int))=true:=by
       rcases dE e.toNat 48 with h|h
       ·exact .inl (by rw[iQ];omega)
       ·exact .inr ⟨by rw[jA];omega,by rw[iQ];omega⟩
      clear M x;rcases N with s1|⟨s1,s2⟩
      all_goals (
       go_wp2_with fail;obtain⟨X,o,R,a,E,Z⟩:=R.mut2 a (by omega) (.bool false) (.slice none 0 0) rfl rfl;rw[o];clear o;replace r:=R.k2;exact aM (v:= .tuple #[.agg #[.bool false,.slice none 0 0],.bool false]) (by simp[results,results118,go_sem,R.k2]) rfl ⟨_,0,by rw[t.out],NI.zero _,fun h=>absurd h au.out,a⟩)
    ·have N:j=9∨j<9∧i+j=l.length:=by have:=z.out;omega
     have an:10^j<=10^9:=cO (by decide) (by have:=z.out;omega);have bc:0<10^j:=d7 (by decide);have a7:1<=j:=by omega
     clear ak;obtain⟨A,k,c,rfl⟩:=F.form;have am:nl m<=1073741824:=by rw[q.out];exact aH (oJ (xP s.out)) (by rw[bK];omega)
     have aq:aO (l.take (i+j))=m*10^j+v:=by
      rw[List.take_add,pF,<-q.out,<-U.out,bK,eP,gF (by omega)]
     have ad:(l.take (i+j)).all bO=true:=by rw[List.take_add,List.all_append,s.out,P.out];rfl
     have T:=aB (And.intro aq ad);clear aq ad;have a1:10^j<=1000000000:=an;clear an;generalize 10^j=f at *;obtain⟨wa,ea,D,FB⟩:=bI wx [.int .u32 (f:Int)] 179;have ay:=Mg.one FB (by omega) (by omega);have ax:=F.be D;have bf:f<=4294967295:=by omega
     have bg:v<=4294967295:=by omega
     have az:¬(j:Int)<9∨(j:Int)<9∧¬((i+j:Nat):Int)<(l.length:Int):=by omega
     have ba:nl f<=1:=cJ (by unfold BN;omega);have a9:=fI m f;have al:Hid (l.length-(i+j)<g+1∧i+j+(l.length-(i+j))=l.length):=by have:=J.out;unfold Hid;omega
     clear N;rcases az with r1|⟨r1,r2⟩
     all_goals (
      go_wp2_with fail;refine(ER m f _ _ _ ax ay (by omega) (by omega)).mono ?_;rintro e1 w1 ⟨v1,rfl,h1,ae⟩;obtain⟨A1,k1,c1,rfl⟩:=h1.form;obtain⟨wb,eb,K,FV⟩:=bI w1 [.int .u32 (v:Int)] 179;have ht:=oW [v] w1.heap.size v 1 wb FV (fun d x=>by rw[List.mem_singleton.1 x];unfold aD;omega) (by simp[nv]) aE (by simp);simp only[iJ] at ht;have av:=h1.be K;have bb:nl v<=1:=cJ (by unfold BN;omega);have af:=(((aC a D).trans (ae.mono (aC a D).size)));have ag:=aC af K;go_wp2_with fail;refine ht.mono ?_;rintro e2 w2 ⟨v2,rfl,h2,rfl⟩;go_wp2_with fail;refine(EU _ _ _ _ _ av h2 (by omega) (by omega)).mono ?_;rintro e3 w3 ⟨v3,rfl,n,u⟩;go_wp2;go_roundg (l.length-(i+j))
      case rel=>exact⟨m*f+v,i+j,al.out.2,by first|rfl|go_num,n,T.out.1.symm,T.out.2,(((R.be D).be ae).be K).be u,aC ag u⟩
      case measure=>exact al.out.1)
end Go.Proofs.YtgjeoghojliocaaGreatDoor
namespace Go.Proofs.YtgjeoghojliocaaGreatDoor
open Sos Lib
def dz(v:Nat):List UInt8:=if v=0 then [] else decDigits v
def WC{v e:Nat}(b:e<10):dz (10*v+e)=if v=0∧e=0 then [] else dz v++[UInt8.ofNat (48+e)]:=by
 unfold dz;by_cases hv:v=0
 ·subst hv;by_cases a:e=0
  ·subst a;simp
  ·rw[if_neg (by omega),if_neg (by omega),if_pos rfl,decDigits,dif_pos (by omega)];simp
 ·rw[if_neg (by omega),if_neg (by omega),if_neg hv,decDigits,dif_neg (by omega),show(10*v+e)/10=v by omega,show(10*v+e)%10=e by omega]
def iV:List Nat->Nat
 |[]=>0
 |d :: l=>d+1000000000*iV l
def WD(l:List Nat)(d:Nat):iV (l++[d])=iV l+1000000000^l.length*d:=by
 induction l with
 |nil=>simp[iV]
 |cons a l b=>rw[List.cons_append,iV,b,iV,eG,dH,iL];grind
def WE{l:List Nat}{i d:Nat}(h:l[i]? =some d):iV (l.drop i)=d+1000000000*iV (l.drop (i+1)):=by
 have a:=(List.getElem?_eq_some_iff.1 h).1;rw[j5 a,iV];rw[aR a] at h;injection h with h;rw[h]
def WF(l:List Nat)(i:Nat):iV (l.drop i)<=iV l:=by
 induction l generalizing i with
 |nil=>simp
 |cons a l b=>
  cases i with
  |zero=>exact aE
  |succ i=>
   rw[List.drop_succ_cons,iV];have:=b i;omega
def tn(j:Nat):Nat:=if j<=8 then 10^(8-j) else 0
def WG{j:Nat}(h:j<=8):tn j/10=tn (j+1)∧0<tn j∧tn j<=100000000:=by
 unfold tn;rcases(show j=0∨j=1∨j=2∨j=3∨j=4∨j=5∨j=6∨j=7∨j=8 by omega) with rfl|rfl|rfl|rfl|rfl|rfl|rfl|rfl|rfl<;>decide
def WH{v p j:Nat}(h:j<=8):v*10^(j+1)+p/10^(9-(j+1))=10*(v*10^j+p/10^(9-j))+p/tn j%10:=by
 have e:p/10^(9-j)=p/tn j/10:=by
  unfold tn;rw[if_pos h,Nat.div_div_eq_div_mul,<-dH];congr 2;omega
 rw[e,show 9-(j+1)=8-j by omega,dH];have a:p/10^(8-j)=p/tn j:=by unfold tn;rw[if_pos h]
 rw[a];generalize p/tn j=q;have:=iD q 10;have b:v*(10^j*10)=10*(v*10^j):=by rw[<-iW,dN]
 rw[b];omega
end Go.Proofs.YtgjeoghojliocaaGreatDoor
namespace Go.Proofs.YtgjeoghojliocaaGreatDoor
open Go.RowKit Sos Tryz
def WB{a m k:Nat}(h:1000000000^k*m<=a)(d:0<m):k<=3*nl a:=by
 have e:=cV a;have f:1000000000^k*1<=1000000000^k*m:=eV _ d;have b:(2^29)^k<=1000000000^k:=Nat.pow_le_pow_left (by decide) k;have g:BN^nl a=2^(64*nl a):=by rw[Nat.pow_mul];rfl
 rw[<-Nat.pow_mul] at b;have c:2^(29*k)<2^(64*nl a):=by omega
 have:=(Nat.pow_lt_pow_iff_right (a:=2) (by decide)).1 c;omega
def Mg.grown{w w':World}{v:Value}{n:Nat}{k:Option Nat}(h:Mg w v n)(f:w.grownBy w' k)(t:∀g,k=some g->v.ownBlock≠some g):Mg w' v n:=by
 obtain⟨l,⟨A,c,rfl,q,r,h⟩,m,o⟩:=h;refine⟨l,⟨A,c,rfl,q,r,?_⟩,m,o⟩;rcases h with h|⟨b,rfl,j,p⟩
 ·exact .inl h
 ·refine .inr ⟨b,rfl,aZ j f.size,fun i d s=> ?_⟩;exact(World.cell?_of_block (w:=w) (w':=w') (a:=⟨b,i,none⟩) (f.block b j (fun e=>t b e.symm (by simp[Value.ownBlock])))).trans (p i d s)
def PtAt(w:World)(B:Nat)(v:Value)(a:List Nat):Prop:=w.ownsRow B 179 1 v a.length (U a)
def PtAt.lt{w:World}{B:Nat}{v:Value}{a:List Nat}(h:PtAt w B v a):∀g,v.ownBlock=some g->B<=g∧g<w.heap.size:=World.ownsRow.lt h
def PtAt.be{w w':World}{B:Nat}{v:Value}{a:List Nat}(h:PtAt w B v a)(b:Below w.heap.size w w'):PtAt w' B v a:=by
 refine World.ownsRow.kept h (rL b none) ?_;cases v.ownBlock with
 |none=>exact .inl rfl
 |some g=>exact .inr (by simp)
def PtAt.more{w w':World}{B r:Nat}{v c:Value}{b:List Nat}{o:Obj}(k:w'.ownsRow B 179 1 c (b.length+1) (U b++[.int .u32 (r:Int)]))(a:(w.alloc o).grownBy w' v.ownBlock)(d:c.ownBlock=v.ownBlock∨c.ownBlock=some (w.alloc o).heap.size):
  PtAt w' B c (b++[r])∧TxtTo w v w' c:=by
 refine⟨by unfold PtAt;rw[bE,show U (b++[r])=U b++[.int .u32 (r:Int)] by unfold U;rw[List.map_append];rfl];exact k,⟨a.os,a.tape,a.output,aH (by simp) a.size,fun i f j=>(a.block i (by simp;omega) j).trans (Below.heap_alloc w o i f)⟩,fun g e=> ?_⟩;rcases d with h|h
 ·left;rw[<-h];exact e
 ·right;rw[h] at e;simp at e;omega
def CG(w:World)(l:List UInt8)(e:Ending)(w':World):Prop:=e= .returned (.string ⟨l.toArray⟩)∧Below w.heap.size w w'
def JL(x:Int)(vx:Value)(w:World)(J:NI w vx x)(lx:nl x.natAbs<=1099511627776):
  Calls prog 111 #[vx] w (CG w (Lib.decDigits x.natAbs)):=by
 obtain⟨s,A,k,c,rfl⟩:=J.form;have z:=J.words.len.1;obtain⟨W,eW,t,XB⟩:=bI w [.bool s,.slice A k c] 60;have cM:=XB.k2;clear XB;have G:=(J.be t).words;have ho:∀g,(Value.slice A k c).ownBlock=some g->k≠0->g<w.heap.size:=fun g F o=>by
  obtain⟨ds,⟨A',c',e,hc,hd,h⟩,O,h3⟩:=J.words;simp only[Value.slice.injEq] at e;obtain⟨rfl,rfl,rfl⟩:=e;rcases h with h|⟨b,rfl,hl,hB⟩
  ·rw[h] at o;exact absurd rfl o
  ·simp[Value.ownBlock] at F;omega
 generalize x.natAbs=a at *;by_cases o:a=0
 ·have ah:k=0:=z.2 o;subst o;subst ah;rw[show Lib.decDigits 0=[48] from BM];clear z G J ho;go_enter func111,ntmps111;go_wp2;go_ret;exact⟨rfl,t⟩
 ·have ai:k≠0:=fun e=>o (z.1 e);have q0:((k:Int)==0)=false:=by simpa using ai
  have H:=fun g F=>ho g F ai;have H0:=aB o;clear z ho o ai J;go_enter func111,ntmps111;go_wp2_with fail;(try rw[eW]);clear eW;go_loopg [3,4] a (fun g s3 s4 wr=>∃(d:List Nat) (A:Option Addr) (k c m:Nat),Hid (m<=g)∧s4= .slice A k c∧PtAt wr w.heap.size s3 d∧Mg wr s4 m∧Hid (iV d+1000000000^d.length*m=a)∧(∀p∈d,p<1000000000)∧Hid (∀g,s3.ownBlock=some g->(Value.slice A k c).ownBlock≠some g)∧Hid (∀g,(Value.slice A k c).ownBlock=some g->g<wr.heap.size)∧nl m<=1099511627776∧d.length<=3298534883329∧Below w.heap.size w wr)
  case atStart=>exact⟨[],A,k,c,a,aE,rfl,World.ownsRow_nil _ _ _ _,G,by unfold Hid;simp[iV],(fun p f=>by cases f),(fun g F=>by simp[Value.ownBlock] at F),(fun g F=>aZ (H g F) t.size),lx,by simp,t⟩
  case round=>
   clear G t H;obtain⟨d,A,k,c,m,HG,rfl,X,G,S,aj,HA,HO,lm,bv,t⟩:=hrel;generalize wr=n at *;have z:=G.len.1;by_cases o:m=0
   ·have ah:k=0:=z.2 o;subst ah;have hv:iV d=a:=by have:=S.out;rw[o,Nat.mul_zero,gQ] at this;exact this
    have hD:=Ds.row X rfl (fun p f=>Nat.lt_trans (aj p f) (by decide));obtain⟨AP,cP,rfl,bn⟩:=hD.form;have al:=aB hv;clear z hv X G S HA HO HG o;go_wp2_with fail;go_loopg [7,8] d.length (fun k s7 s8 wr=>∃i:Int,Hid (i+1=k)∧s8= .int .i64 i∧ -1<=i∧i<d.length∧TxtAt wr n.heap.size s7 (dz (iV (d.drop k)))∧Below n.heap.size n wr)
    case atStart=>exact⟨(d.length:Int)-1,by unfold Hid;omega,rfl,by omega,by omega,by rw[List.drop_length];exact World.ownsRow_nil _ _ _ _,aG _ _⟩
    case round=>
     obtain⟨i,HI,rfl,bo,bp,u,y⟩:=hrel;generalize wr=wy at *;cases gk with
     |zero=>
      have hi:¬0<=i:=by have:=HI.out;omega
      have Y:=u.str;have E:dz (iV (d.drop 0))=Lib.decDigits a:=by rw[List.drop_zero,al.out];unfold dz;rw[if_neg H0.out]
      rw[E] at Y;have M:=aB E;clear E;go_wp2;go_ret;exact⟨rfl,aC t y⟩
     |succ k=>
      have a9:i=(k:Int):=by have:=HI.out;omega
      subst a9;obtain⟨p,f⟩:∃p,d[k]? =some p:=⟨_,aR (by omega)⟩;have bh:=aj p (dG f);obtain⟨gp,rfl,a8,am⟩:=hD.at_ f;have a6:=fun (W:World) (t:Below n.heap.size n W)=>(t.cell (p:=⟨gp,k,none⟩) a8).trans am;have ac:=WE f;have av:=WF d k;rw[ac,al.out] at av;have a1:=aB ac;clear ac f am;generalize iV (d.drop (k+1))=V at *;go_wp2_with fail;go_loopg [7,9] 9 (fun m s7 s9 wr=>∃j,Hid (j+m=9)∧s9= .int .u32 (tn j:Int)∧TxtAt wr n.heap.size s7 (dz (V*10^j+p/10^(9-j)))∧Below n.heap.size n wr)
      case atStart=>exact⟨0,by unfold Hid;omega,rfl,by rw[Nat.pow_zero,Nat.mul_one,Nat.div_eq_of_lt (show p<10^(9-0) by simpa using bh),gQ];exact u,y⟩
      case round=>
       clear u y;obtain⟨j,R,rfl,u,y⟩:=hrel;generalize wr=wz at *;cases gk with
       |zero=>
        have hj:j=9:=R.out;subst hj;rw[show V*10^9+p/10^(9-9)=iV (d.drop k) by rw[a1.out,Nat.sub_self,Nat.pow_zero,Nat.div_one,dN,Nat.add_comm]] at u;have t9:((tn 9:Nat):Int)=0:=rfl;go_wp2;go_roundg k
        case rel=>exact⟨(k:Int)-1,by unfold Hid;omega,by go_num,by omega,by omega,u,y⟩
        case measure=>omega
       |succ m=>
        have au:j<=8:=by have:=R.out;omega
        obtain⟨t1,t2,t3⟩:=WG au;have Y:=WH (v:=V) (p:=p) au;have he:p/tn j%10<10:=dI _ (by decide);have E:=WC (v:=V*10^j+p/10^(9-j)) he;rw[<-Y] at E;have bj:=a6 wz y;have M:=aB E;have T1:=aB t1;clear Y E t1;have ax:V*10^j+p/10^(9-j)<=a:=by
         have T:V*10^j<=V*10^9:=eV _ (cO (by decide) (by omega));have O:=Nat.div_le_self p (10^(9-j));omega
        generalize V*10^j+p/10^(9-j)=v at *;have hL:(dz v).length<=21990232555541:=by
         unfold dz;split
         ·simp
         ·have:=wR v _ (cK ax);omega
        have ao:(dz v).length=0↔v=0:=by
         unfold dz;split
         ·simp[*]
         ·have T:=Lib.decDigits_length v;have O:=Lib.nDigits_pos v;omega
        have bu:p/tn j<=p:=Nat.div_le_self _ _;have x1:(p:Int)/((tn j:Nat):Int)=((p/tn j:Nat):Int):=(Int.natCast_ediv _ _).symm;have x2:((p/tn j:Nat):Int)%10=((p/tn j%10:Nat):Int):=(Int.natCast_emod _ _).symm;have hc:((UInt8.ofNat (48+p/tn j%10)).toNat:Int)=48+((p/tn j%10:Nat):Int):=by rw[tJ he];rfl
        obtain⟨Ao,co,rfl⟩:=u.slice;have bc:=u.lt;generalize p/tn j%10=e at *;generalize p/tn j=pd at *;have x3:decide (0<tn j)=true:=by simpa using t2
        generalize tn j=D at *;generalize an:dz v=L at *;have HC:=aB hc;clear hc;have ak:=aB ao;have bi:=aB an;clear ao an av ax;by_cases P:v=0∧e=0
        ·have C:=M.out;rw[if_pos P] at C;have Z:=aB C;have ba:L=[]:=bX (ak.out.2 P.1);obtain⟨-,rfl⟩:=P;subst ba;clear C M HC;go_wp2;go_roundg m
         case rel=>exact⟨j+1,by have:=R.out;unfold Hid;omega,by rw[<-T1.out];rfl,by rw[Z.out];exact u,y⟩
         case measure=>omega
        ·have C:=M.out;rw[if_neg P] at C;have Z:=aB C;have bg:decide (0<L.length)=true∨decide (0<L.length)=false∧((48:Int)+(e:Int) != 48)=true:=by
          by_cases h:L.length=0
          ·exact .inr ⟨by rw[jA];omega,by rw[bne_iff_ne];have:=ak.out.1 h;omega⟩
          ·exact .inl (by rw[iQ];omega)
         have a4:wz.ownsRow n.heap.size 5 1 (.slice Ao L.length co) L.length (Lib.byteCells L):=u;have bw:=y.size;clear C M P;rcases bg with r1|⟨r1,r2⟩
         all_goals (
          go_wp2_with (at_builtin;refine gM rfl rfl 5 _ 1 1 underlying142 nF rfl (by decide) n.heap.size (.slice Ao L.length co) L.length _ rfl (a4.alloc _) [.int .u8 (48+(e:Int))] rfl (by simp) (lM _ _ _) (by simp[Value.oneCell']) (by omega) (by omega) (by simp;omega) ?_;intro q1 w6 H ag ad);rw[<-HC.out] at H;obtain⟨I,a5⟩:=TxtAt.more (bs:=L) (l:=[UInt8.ofNat (48+e)]) H ag ad;have af:=a5.belowB (B:=n.heap.size) y.size (fun g h=>(bc g h).1);go_wp2;go_roundg m
          case rel=>exact⟨j+1,by have:=R.out;unfold Hid;omega,by rw[<-T1.out];rfl,by rw[Z.out];exact I,y.trans af⟩
          case measure=>omega)
   ·have hd:decide (0<k)=true:=by have:=fun e=>o (z.1 e);simp;omega
    have bb:=WB (a:=a) (by have:=S.out;omega:1000000000^d.length*m<=a) (by omega);clear z;go_wp2_with fail;have aw:Calls prog 143 #[.slice A k c,.int .u32 1000000000] n (EO n m 1000000000):=EP m 1000000000 _ n G lm (by decide) (by decide);refine aw.mono ?_;rintro e1 w1 ⟨v1,rfl,T,hf,ae⟩;obtain⟨K,Q,N,rfl⟩:=T.form;have ap:=X.be ae;have a2:w1.ownsRow w.heap.size 179 1 u3 d.length (U d):=ap;have ar:=aC t ae;have hr:m%1000000000<1000000000:=dI _ (by decide);have bt:m/1000000000<m:=Nat.div_lt_self (by omega) (by decide);have a7:=Nat.mod_add_div m 1000000000;have br:nl (m/1000000000)<=nl m:=cK (by omega);have bq:=bb;clear aw hd;generalize m%1000000000=r at *;generalize m/1000000000=q at *;have bm:=ae.size;have bk:=t.size;go_wp2_with (at_builtin;refine gM rfl rfl 179 _ 1 4 underlying58 oX rfl (by decide) w.heap.size u3 d.length _ rfl (a2.alloc _) [.int .u32 (r:Int)] rfl (by simp) (lM _ _ _) (by simp[Value.oneCell']) (by omega) (by omega) (by simp;omega) ?_;intro q1 w6 H ag ad);obtain⟨a3,I⟩:=PtAt.more H ag ad;have hu:=ap.lt;have aq:∀g,u3.ownBlock=some g->(Value.slice K Q N).ownBlock≠some g:=fun g h e=>by
     have:=(hf g e).1;have:=(X.lt g h).2;omega
    have bf:Mg w6 (.slice K Q N) q:=T.grown I.1 aq;have af:=I.belowB (B:=w.heap.size) ar.size (fun g h=>(hu g h).1);have ay:Hid (∀g,q1.ownBlock=some g->(Value.slice K Q N).ownBlock≠some g):=fun g h e=>by
     rcases I.2 g h with O|O
     ·exact aq g O e
     ·have:=(hf g e).2;omega
    have az:Hid (∀g,(Value.slice K Q N).ownBlock=some g->g<w6.heap.size):=fun g h=>aZ (hf g h).2 I.1.size;have a0:Hid (iV (d++[r])+1000000000^(d++[r]).length*q=a):=by
     unfold Hid;rw[WD,bE,iJ,dH,<-S.out,<-a7,iL];grind
    obtain⟨g,rfl⟩:∃g,gk=g+1:=⟨gk-1,by have:=HG.out;omega⟩;go_wp2;go_roundg g
    case rel=>exact⟨d++[r],K,Q,N,q,by have:=HG.out;unfold Hid;omega,rfl,a3,bf,a0,(fun p f=>by
     rcases List.mem_append.1 f with f|f
     ·exact aj p f
     ·rw[List.mem_singleton.1 f];exact hr),ay,az,by omega,by rw[bE,iJ];omega,ar.trans af⟩
    case measure=>omega
def CF(q:Rat)(v:Value)(w:World)(hv:NQ w v q)(K:Nat)(i:RL K q)(O:K<=549755813888):Calls prog 55 #[v] w (CG w (cW q)):=by
 obtain⟨s,A,k,c,C,p,j,x,rfl⟩:=hv.form;have o:=hv.num.neg;have z:=hv.len;have F:=fun W h=>JL q.num (.agg #[.bool s,.slice A k c]) W h (aH i.1 (by omega));have G:=fun W h=>JL (bS q) (.agg #[.bool C,.slice p j x]) W h (aH (mY q) (aH i.2 (by omega)));have P:=wR q.num.natAbs K i.1;have Q:=wR (bS q).natAbs K (aH (mY q) i.2);have t:Hid (cW q=(if s=true then [45] else [])++Lib.decDigits q.num.natAbs++(if q.den=1 then [] else 47 :: Lib.decDigits (bS q).natAbs)):=by
  unfold Hid cW;rw[o];by_cases h:q.den=1
  ·simp[h]
  ·rw[mI h];simp[h]
 generalize Lib.decDigits q.num.natAbs=g at *;generalize Lib.decDigits (bS q).natAbs=l at *;have T:(⟨g.toArray⟩:ByteArray).size=g.length:=by simp[ByteArray.size]
 have U:(⟨l.toArray⟩:ByteArray).size=l.length:=by simp[ByteArray.size]
 have L:=aB o;have J:=aB z;clear o z;obtain⟨W,y,d,B⟩:=bI w [.bool s,.slice A k c,.bool C,.slice p j x] 62;have D:=B.g4;go_enter func55,ntmps55;go_wp2_with fail;(try rw[y]);clear y;replace hv:=hv.be d;refine(F _ hv.num).mono ?_;rintro M R ⟨rfl,n⟩;replace B:=B.be n;replace D:=B.k4;replace H:=KM.be n;replace hv:=hv.ke H;replace d:=aC d n;have f:=hv.den.words.len.1;rw[Int.natAbs_eq_zero,fV] at f;have u:∀a b:List UInt8,(⟨a.toArray⟩:ByteArray)++⟨b.toArray⟩=⟨(a++b).toArray⟩:=fun a b=>by
  rw[ByteArray.ext_iff];simp
 have r:=aB u;clear u;by_cases e:q.den=1
 ·have I:decide (0<j)=false:=by rw[f.2 e];rfl
  have m:Hid (cW q=(if s=true then [45] else [])++g):=by unfold Hid;rw[t.out,if_pos e,fH]
  clear f e;cases s
  all_goals (
   go_wp2;go_ret;exact⟨by rw[m.out];simp[r.out]<;>rfl,d⟩)
 ·have I:decide (0<j)=true:=by rw[iQ];exact Nat.pos_of_ne_zero fun h=>e (f.1 h)
  have m:Hid (cW q=(if s=true then [45] else [])++g++47 :: l):=by unfold Hid;rw[t.out,if_neg e]
  clear f e;cases s
  all_goals (
   go_wp2_with fail;refine(G _ hv.den).mono ?_;rintro N S ⟨rfl,E⟩;go_wp2;go_ret;exact⟨by rw[m.out];simp[r.out]<;>rfl,aC d E⟩)
end Go.Proofs.YtgjeoghojliocaaGreatDoor
namespace Go.Proofs.YtgjeoghojliocaaGreatDoor
open Sos Lib
def gI(s:List UInt8):List UInt8:=if s.head?==some 45 then s.tail else s
def WI(s:List UInt8):(gI s).length<=s.length:=by unfold gI;split<;>simp
structure CutN(t:List UInt8)(k:Nat):Prop where
 le:k<=t.length
 head:t.takeWhile l8=t.take k
 rest:t.dropWhile l8=t.drop k
def CutN.stop{t:List UInt8}{k:Nat}(h:∀c∈t.take k,l8 c=true)(b:k<=t.length)(a:t.length<=k∨∃c,t[k]? =some c∧l8 c=false):CutN t k:=
 ⟨b,(wV h a).1,(wV h a).2⟩
structure Found(s:List UInt8)(q:Rat):Prop where
 ok:rd s=decide (cW q=s)
 val:∀r,bD s=some r->q=r
def WJ{s:List UInt8}{q:Rat}(h:lU s=some q):Found s q:=by
 refine⟨?_,fun r b=> ?_⟩
 ·unfold rd;by_cases e:cW q=s
  ·rw[(xQ s).2 q h e,decide_eq_true e];rfl
  ·rw[decide_eq_false e];cases b:bD s with
   |none=>rfl
   |some r=>
    obtain⟨a,c⟩:=(xQ s).1 r b;rw[h] at a;injection a with a;exact absurd (by rw[a];exact c) e
 ·have:=((xQ s).1 r b).1;rw[h] at this;injection this
def CH{s:List UInt8}(h:lU s=none):rd s=false∧∀q r:Rat,bD s=some r->q=r:=by
 have e:bD s=none:=by
  cases a:bD s with
  |none=>rfl
  |some r=>rw[((xQ s).1 r a).1] at h;cases h
 exact⟨by unfold rd;rw[e];rfl,fun q r a=>by rw[e] at a;cases a⟩
section
variable {s:List UInt8}{k:Nat}(h:CutN (gI s) k)
include h
def WK(hn:¬((gI s).take k≠[]∧((gI s).take k).all bO=true)):lU s=none:=by
 unfold lU;simp only[];rw[show(if (s.head?==some 45)=true then s.tail else s)=gI s from rfl,h.head,if_neg hn]
def WL(hn:(gI s).take k≠[]∧((gI s).take k).all bO=true)(a:k=(gI s).length):lU s=some ((fO (s.head?==some 45) (aO ((gI s).take k)):Int):Rat):=by
 unfold lU;simp only[];rw[show(if (s.head?==some 45)=true then s.tail else s)=gI s from rfl,h.head,h.rest,if_pos hn,a,List.drop_length]
def WM(hn:(gI s).take k≠[]∧((gI s).take k).all bO=true)(a:k<(gI s).length):
  lU s=if (gI s).drop (k+1)≠[]∧((gI s).drop (k+1)).all bO=true∧aO ((gI s).drop (k+1))≠0 then some (((fO (s.head?==some 45) (aO ((gI s).take k)):Int):Rat)/((aO ((gI s).drop (k+1)):Int):Rat)) else none:=by
 unfold lU;simp only[];rw[show(if (s.head?==some 45)=true then s.tail else s)=gI s from rfl,h.head,h.rest,if_pos hn,j5 a]
end
