/- Laws. -/
import Derived.Test.YtjgbleapffgbcaaGreatDoorV14
set_option linter.all false
set_option maxHeartbeats 8000000
set_option maxRecDepth 99999
namespace Go.Proofs.YtjgbleapffgbcaaGreatDoor
open Go.RowKit Sos Tryz
variable{b c:List Rat}{D:Int}{K j:Nat}{q:Rat}
def UW(x y:Rat)(a b:Value)(w:World)(i:Glob w)(g:RatAt w a x)(h:RatAt w b y)(K:Nat)(e:RL K x)(d:RL K y)(j:20*K+60<=aJ):
  Calls prog 63 #[a,b] w (iF w (x+y)):=by
 by_cases f:x.den=1
 ·by_cases c:y.den=1
  ·exact J7 x y a b w g h f c K e d (by omega)
  ·exact UZ x y a b w g h f c K e d (by omega)
 ·by_cases c:y.den=1
  ·exact J8 x y a b w g h f c K e d (by omega)
  ·exact UY x y a b w i g h f c K e d j
def VK(a b:Nat):nl (Nat.lcm a b)<=nl a+nl b:=by
 refine aH (cK ?_) (fI a b);unfold Nat.lcm;exact azK _ _
structure ComDen(qs:List Rat)(D:Int)(B:Nat):Prop where
 pos:0<D
 dvd:∀q∈qs,(q.den:Int)∣D
 nl_:nl D.natAbs<=B
def VL(w:World)(a:List Rat)(B:Nat)(e:Ending)(w':World):Prop:=∃v D,e= .returned v∧IntAt w' v D∧ComDen a D B∧Below w.1.size w w'
def ComDen.skip(h:ComDen (b.take j) D (1+j*K))(d:b[j]? =some q)(c:(q.den:Int)∣D):ComDen (b.take (j+1)) D (1+(j+1)*K):=by
 refine⟨h.pos,fun x a=> ?_,by have:=h.nl_;rw[aq2];omega⟩;rw[Q9,d,aqO] at a;rcases List.mem_append.1 a with a|a
 ·exact h.dvd x a
 ·simp at a;subst a;exact c
def ComDen.lcm(h:ComDen (b.take j) D (1+j*K))(d:b[j]? =some q)(g:nl q.den<=K):ComDen (b.take (j+1)) ((Nat.lcm D.natAbs q.den:Nat):Int) (1+(j+1)*K):=by
 have f:=h.pos;have e:Nat.lcm D.natAbs q.den≠0:=Nat.lcm_ne_zero (by omega) q.den_nz;refine⟨by omega,fun x a=> ?_,?_⟩
 ·rw[Q9,d,aqO] at a;rcases List.mem_append.1 a with a|a
  ·have c:=h.dvd x a;refine Int.ofNat_dvd.2 (bzF ?_ (Nat.dvd_lcm_left _ _));exact Int.ofNat_dvd_left.1 c
  ·simp at a;subst a;exact Int.ofNat_dvd.2 (Nat.dvd_lcm_right _ _)
 ·rw[dD,aq2];have:=VK D.natAbs q.den;have:=h.nl_;omega
def VM(g:List Rat)(v:Value)(w:World)(hG:Glob w)(hv:RatsAt w v g)(K T:Nat)(hK:∀q∈g,RL K q)(hl:g.length<=1073741824)(a8:1+g.length*K<=T)(a9:K<=T)(ai:5*T+4<=aJ):
  Calls prog 126 #[v] w (VL w g (1+g.length*K)):=by
 obtain⟨A,c,rfl,hc⟩:=hv.form;have R:Bx (w.alloc (.cells #[.bool false,.slice none 0 0] 60)) (w.1.size) [.bool false,.slice none 0 0] 60:=Bx.newAt w [.bool false,.slice none 0 0] 60 (w.1.size) (by simp);have a:Below w.1.size w (w.alloc (.cells #[.bool false,.slice none 0 0] 60)):=(aG _ _).alloc (by simp) _;go_enter func126,ntmps126;go_wp2_with fail;generalize w.alloc (.cells #[.bool false,.slice none 0 0] 60)=W at *;refine(lL 1 _ (by decide) (by decide)).mono ?_;rintro e1 l ⟨v1,rfl,H,al⟩;obtain⟨s1,Q,k1,U,rfl⟩:=H.form;replace R:=R.be al;replace p:=R.cell 0 rfl;replace aq:=R.free 0;replace r:=R.cell 1 rfl;replace ar:=R.free 1;replace f:=Keep.be al;replace a:=aC a al;go_wp2_with fail;have az:=R.lt;have bk:=a.size;replace R:=R.alloc (.cells #[.bool s1,.slice Q k1 U] 60);have C:=Bx.newAt l [.bool s1,.slice Q k1 U] 60 (l.1.size) (by simp);replace a:=a.alloc a.size (.cells #[.bool s1,.slice Q k1 U] 60);replace f:=Keep.alloc l (.cells #[.bool s1,.slice Q k1 U] 60);replace H:=H.ke f;generalize l.alloc (.cells #[.bool s1,.slice Q k1 U] 60)=w2 at *;replace p:=R.cell 0 rfl;replace r:=R.cell 1 rfl;replace t:=C.cell 0 rfl;replace x:=C.cell 1 rfl;have au:IntBx w2 l.1.size 1:=⟨_,_,_,_,C,H⟩;have aw:=R;have ax:=a;have bj:=az;clear R C H p r aq ar t x f a;go_loopg [9] g.length (fun k i wr=>∃j D,Hid (j+k=g.length)∧i= .int .i64 j∧IntBx wr l.1.size D∧ComDen (g.take j) D (1+j*K)∧Bx wr w.1.size [.bool false,.slice none 0 0] 60∧Below w.1.size w wr)
 case atStart=>exact⟨0,1,by unfold Hid;omega,rfl,au,⟨by decide,(fun q h=>by simp at h),by rw[show nl (1:Int).natAbs=1 from mJ (by decide) (by decide)];omega⟩,aw,ax⟩
 case round=>
  clear au aw ax;obtain⟨j,D,y,rfl,hC,O,R,a⟩:=hrel;generalize wr=N at *;have bf:(0:Int)<=(j:Int):=by omega
  have bh:1+j*K<=T:=by
   have:j*K<=g.length*K:=dK _ (by have:=y.out;omega);omega
  have a6:=O.nl_;have a7:=O.pos;obtain⟨sc,S,kc,V,C,n⟩:=id hC;cases gk with
  |zero=>
   have hj:j=g.length:=y.out;have a1:ComDen g D (1+g.length*K):=by
    have:=O;rw[hj,aq9] at this;exact this
   replace p:=R.cell 0 rfl;replace aq:=R.free 0;replace r:=R.cell 1 rfl;replace ar:=R.free 1;replace t:=C.cell 0 rfl;replace ao:=C.free 0;replace x:=C.cell 1 rfl;replace ap:=C.free 1;have bi:¬(j:Int)<(g.length:Int):=by omega
   clear O hj y;go_wp2_with fail;have a0:=R.lt;have ay:=C.lt;have a2:=a.size;replace C:=(C.far 0 (.bool sc) (show w.1.size≠l.1.size by omega)).far 1 (.slice S kc V) (show w.1.size≠l.1.size by omega);replace f:=jU (s:=sc) (u:= .slice S kc V) a (by omega) R;clear R a;obtain⟨-, -,R,a,f⟩:=f;replace n:=n.ke f;generalize (N.setCell ⟨w.1.size,0,none⟩ (.bool sc)).setCell ⟨w.1.size,1,none⟩ (.slice S kc V)=W6 at *;replace p:=R.cell 0 rfl;replace r:=R.cell 1 rfl;replace t:=C.cell 0 rfl;replace x:=C.cell 1 rfl;exact aM (v:= .agg #[.bool sc,.slice S kc V]) (by simp[results,results126,go_sem,p,r]) rfl ⟨_,D,rfl,n,a1,a⟩
  |succ k=>
   obtain⟨q,P⟩:∃q,g[j]? =some q:=⟨_,aR (by have:=y.out;omega)⟩;obtain⟨b,s,B,m,d,M,z,L,F,rfl,bc,g0,g1,g2,g3,J⟩:=(hv.be a).at_ P;have av:=hK q (dG P);have ba:=mY q;have bb:=av.2;have bg:(j:Int)<(g.length:Int):=by have:=y.out;omega
   have ad:=fun hd=>O.skip P hd;have an:=O.lcm P av.2;have HQ:=aB P;clear P;go_wp2_with fail;have a0:=R.lt;have ay:=C.lt;have a2:=a.size;replace R:=R.alloc (.cells #[.bool s,.slice B m d,.bool M,.slice z L F] 76);replace C:=C.alloc (.cells #[.bool s,.slice B m d,.bool M,.slice z L F] 76);have X:=Bx.newAt N [.bool s,.slice B m d,.bool M,.slice z L F] 76 (N.1.size) (by simp);replace a:=a.alloc a.size (.cells #[.bool s,.slice B m d,.bool M,.slice z L F] 76);replace f:=Keep.alloc N (.cells #[.bool s,.slice B m d,.bool M,.slice z L F] 76);replace J:=J.ke f;replace n:=n.ke f;generalize N.alloc (.cells #[.bool s,.slice B m d,.bool M,.slice z L F] 76)=wa at *;replace p:=R.cell 0 rfl;replace r:=R.cell 1 rfl;replace t:=C.cell 0 rfl;replace x:=C.cell 1 rfl;replace ae:=X.cell 0 rfl;replace af:=X.cell 1 rfl;replace ag:=X.cell 2 rfl;replace ah:=X.cell 3 rfl;have I:=J.den;refine(g9 _ _ _ I (by unfold aJ at ai;omega)).mono ?_;rintro e2 bn ⟨rfl,Y⟩;replace R:=R.be Y;replace p:=R.cell 0 rfl;replace r:=R.cell 1 rfl;replace C:=C.be Y;replace t:=C.cell 0 rfl;replace x:=C.cell 1 rfl;replace X:=X.be Y;replace ae:=X.cell 0 rfl;replace af:=X.cell 1 rfl;replace ag:=X.cell 2 rfl;replace ah:=X.cell 3 rfl;replace f:=Keep.be Y;replace J:=J.ke f;replace n:=n.ke f;replace I:=I.ke f;replace a:=aC a Y;by_cases G:bS q=0
   ·have o:decide (bS q=0)=true:=by simpa using G
    rw[o];have am:=ad (by rw[fV.1 G];exact Int.one_dvd _);clear o G ad an;go_wp2;go_roundg k
    case rel=>exact⟨j+1,D,by have:=y.out;unfold Hid;omega,by go_num,⟨_,_,_,_,C,n⟩,am,R,a⟩
    case measure=>omega
   ·have o:decide (bS q=0)=false:=by simpa using G
    have aj:bS q=q.den:=mI (fun e=>G (fV.2 e));rw[o];clear o;go_wp2_with fail;refine(OH _ _ _ _ _ I n (by unfold aJ at ai;omega) (by unfold aJ at ai;omega)).mono ?_;rintro e3 w3 ⟨rfl,Z⟩;replace R:=R.be Z;replace p:=R.cell 0 rfl;replace r:=R.cell 1 rfl;replace C:=C.be Z;replace t:=C.cell 0 rfl;replace ao:=C.free 0;replace x:=C.cell 1 rfl;replace ap:=C.free 1;replace X:=X.be Z;replace ae:=X.cell 0 rfl;replace af:=X.cell 1 rfl;replace ag:=X.cell 2 rfl;replace ah:=X.cell 3 rfl;replace f:=Keep.be Z;replace J:=J.ke f;replace n:=n.ke f;replace I:=I.ke f;replace a:=aC a Z;by_cases he:bS q=D
    ·have o:decide (bS q=D)=true:=by simpa using he
     rw[o];have am:=ad (by rw[<-he,aj];exact Int.dvd_refl _);clear o G ad an aj he;go_wp2;go_roundg k
     case rel=>exact⟨j+1,D,by have:=y.out;unfold Hid;omega,by go_num,⟨_,_,_,_,C,n⟩,am,R,a⟩
     case measure=>omega
    ·have o:decide (bS q=D)=false:=by simpa using he
     rw[o];have ak:=fun W hG H h2=>OI D (bS q) (.agg #[.bool sc,.slice S kc V]) (.agg #[.bool M,.slice z L F]) W hG H h2 (by omega) G T (by omega) (by omega) ai;have e5:(bS q).natAbs=q.den:=by rw[aj];rfl
     rw[e5] at ak;unfold dW at ak;clear o ad aj he e5;generalize ((Nat.lcm D.natAbs q.den:Nat):Int)=E at *;go_wp2_with fail;refine(ak _ (hG.be a) n I).mono ?_;rintro e4 w4 ⟨v4,rfl,h4,ac⟩;obtain⟨s4,A4,k4,c4,rfl⟩:=h4.form;replace R:=R.be ac;replace p:=R.cell 0 rfl;replace r:=R.cell 1 rfl;replace C:=C.be ac;replace t:=C.cell 0 rfl;replace ao:=C.free 0;replace x:=C.cell 1 rfl;replace ap:=C.free 1;replace X:=X.be ac;replace ae:=X.cell 0 rfl;replace af:=X.cell 1 rfl;replace ag:=X.cell 2 rfl;replace ah:=X.cell 3 rfl;replace f:=Keep.be ac;replace a:=aC a ac;clear ak;go_wp2_with fail;have a4:=R.lt;have a3:=C.lt;have a5:=X.lt;have bm:=a.size;replace R:=(R.far 0 (.bool s4) (show l.1.size≠w.1.size by omega)).far 1 (.slice A4 k4 c4) (show l.1.size≠w.1.size by omega);replace X:=(X.far 0 (.bool s4) (show l.1.size≠N.1.size by omega)).far 1 (.slice A4 k4 c4) (show l.1.size≠N.1.size by omega);replace f:=jU (s:=s4) (u:= .slice A4 k4 c4) a (by omega) C;clear C a;obtain⟨-, -,C,a,f⟩:=f;replace h4:=h4.ke f;generalize (w4.setCell ⟨l.1.size,0,none⟩ (.bool s4)).setCell ⟨l.1.size,1,none⟩ (.slice A4 k4 c4)=W6 at *;replace p:=R.cell 0 rfl;replace r:=R.cell 1 rfl;replace t:=C.cell 0 rfl;replace x:=C.cell 1 rfl;replace ae:=X.cell 0 rfl;replace af:=X.cell 1 rfl;replace ag:=X.cell 2 rfl;replace ah:=X.cell 3 rfl;go_roundg k
     case rel=>exact⟨j+1,E,by have:=y.out;unfold Hid;omega,by go_num,⟨_,_,_,_,C,h4⟩,an,R,a⟩
     case measure=>omega
def VF(q:Rat):q=(q.num:Rat)/(q.den:Rat):=by
 conv=>lhs;rw[<-byC q,Rat.mkRat_eq_div]
def VG(q:Rat):(q.den:Rat)≠0:=fun e=>q.den_nz (by exact_mod_cast e)
def xI(q:Rat)(D:Int)(h:(q.den:Int)∣D):((q.num*D.tdiv (q.den:Int):Int):Rat)=q*D:=by
 obtain⟨t,rfl⟩:=h;have a:(q.den:Int)≠0:=by have:=q.den_nz;omega
 rw[Int.mul_tdiv_cancel_left _ a,eJ,eJ,aq3];have b:=VF q;have c:=VG q;generalize (q.num:Rat)=n at *;generalize (q.den:Rat)=d at *;rw[b];grind
def VH(q:Rat)(D:Int)(h:q.den=1):((q.num*D:Int):Rat)=q*D:=by
 rw[eJ];congr 1;exact Rat.ext rfl h.symm
def VI(w:World)(q:Rat)(D:Int)(B:Nat)(e:Ending)(w':World):Prop:=∃v n,e= .returned v∧IntAt w' v n∧(n:Rat)=q*D∧nl n.natAbs<=B∧Below w.1.size w w'
def VJ(q:Rat)(D:Int)(v u:Value)(w:World)(J:RatAt w v q)(g:IntAt w u D)(af:(q.den:Int)∣D)(K H:Nat)(hK:RL K q)(Y:nl D.natAbs<=H)(ad:5*K+H+8<=aJ):
  Calls prog 127 #[v,u] w (VI w q D (K+H)):=by
 unfold aJ at ad;obtain⟨s,A,k,c,s',M,k',Q,rfl⟩:=J.form;obtain⟨sD,P,kD,U,rfl⟩:=g.form;obtain⟨X,ai⟩:=hK;have aj:=mY q;obtain⟨W,V,d,a,b,R⟩:=gE w [.bool s,.slice A k c,.bool s',.slice M k' Q] 76 [.bool sD,.slice P kD U] 60 [.bool false,.slice none 0 0] 60;have l:=aa a.g4 (aa b.g2 R.g2);go_enter func127,ntmps127;go_wp2_with fail;(try rw[V]);clear V;have hn:=(J.be d).num;have j:=(J.be d).den;replace g:=g.be d;refine(g9 _ _ _ j (by omega)).mono ?_;rintro e1 w1 ⟨rfl,y⟩;replace a:=a.be y;replace b:=b.be y;replace R:=R.be y;replace l:=aa a.k4 (aa b.k2 R.g2);replace f:=Keep.be y;replace hn:=hn.ke f;replace j:=j.ke f;replace g:=g.ke f;replace d:=aC d y;by_cases h:bS q=0
 ·have C:decide (bS q=0)=true:=by simpa using h
  rw[C];have p:=VH q D (fV.1 h);have I:=gT q.num D _ _ X Y;have m:=fun W v u h i=>jB q.num D v u W h i (by omega);unfold dW at m;generalize q.num*D=n at *;have G:=aB p;clear C h p;go_wp2_with fail;refine(m _ _ _ hn g).mono ?_;rintro e2 w2 ⟨v2,rfl,i,F⟩;obtain⟨s2,N,k2,S,rfl⟩:=i.form;replace a:=a.be F;replace b:=b.be F;replace R:=R.be F;replace l:=aa a.k4 (aa b.k2 R.g2);replace d:=aC d F;clear m;go_wp2_with fail;obtain⟨W6,r,R,d,f,x⟩:=R.put2 d (by omega) (.bool s2) (.slice N k2 S) rfl rfl;replace a:=x a (by omega);replace b:=x b (by omega);replace i:=i.ke f;rw[r];clear r;replace l:=aa a.k4 (aa b.k2 R.k2);exact aM (v:= .agg #[.bool s2,.slice N k2 S]) (by simp[results,results127,go_sem,R.k2]) rfl ⟨_,n,rfl,i,G.out,I,d⟩
 ·have C:decide (bS q=0)=false:=by simpa using h
  have Z:bS q=q.den:=mI (fun e=>h (fV.2 e));rw[C];have p:=xI q D af;rw[<-Z] at p;have ae:=jN D (bS q) _ Y;have I:=gT q.num (D.tdiv (bS q)) _ _ X ae;have L:=fun W v u ac i=>mZ D (bS q) v u W ac i h (by omega);have m:=fun W v u h i=>jB q.num (D.tdiv (bS q)) v u W h i (by omega);unfold dW at m L;generalize q.num*D.tdiv (bS q)=n at *;generalize D.tdiv (bS q)=t at *;have G:=aB p;clear C h p Z;go_wp2_with fail;replace hn:=hn.drew;replace j:=j.drew;replace g:=g.drew;replace a:=a.drew;replace b:=b.drew;replace R:=R.drew;replace d:=d.drew;replace l:=aa a.k4 (aa b.k2 R.g2);have ag:w.1.size+1+1≠w.1.size:=by omega
  have ah:w.1.size+1+1≠w.1.size+1:=by omega
  go_region_held3 (fun w'=>C4 w' w.1.size (.bool s) (.slice A k c) (.bool s') (.slice M k' Q)∧C2 w' (w.1.size+1) (.bool sD) (.slice P kD U))
   (first|(with_reducible exact⟨a.k4,b.k2⟩)|(refine⟨?_,?_⟩<;>(repeat (first|with_reducible exact a.k4|with_reducible exact b.k2|with_reducible refine kK ag ?_|with_reducible refine fQ ah ?_))))
   (first
    |(go_at_call 89;refine(L _ _ _ g j).mono ?_;rintro e4 w4 ⟨v4,rfl,E,z⟩;obtain⟨s4,A4,k4,c4,rfl⟩:=E.form;replace a:=a.be z;replace b:=b.be z;replace R:=R.be z;replace l:=aa a.k4 (aa b.k2 R.g2);replace f:=Keep.be z;replace hn:=hn.ke f;replace j:=j.ke f;replace g:=g.ke f;(try replace o:=o.ke f);replace d:=aC d z)
    |(go_at_call 34;refine(m _ _ _ hn E).mono ?_;rintro e5 w5 ⟨v5,rfl,o,B⟩;obtain⟨s5,O,k5,T,rfl⟩:=o.form;replace a:=a.be B;replace b:=b.be B;replace R:=R.be B;replace l:=aa a.k4 (aa b.k2 R.g2);replace f:=Keep.be B;replace hn:=hn.ke f;replace j:=j.ke f;replace g:=g.ke f;(try replace E:=E.ke f);replace d:=aC d B))
  clear L m;go_wp2_with fail;obtain⟨W6,r,R,d,f,x⟩:=R.put2 d (by omega) (.bool s5) (.slice O k5 T) rfl rfl;replace a:=x a (by omega);replace b:=x b (by omega);replace o:=o.ke f;rw[r];clear r;replace l:=aa a.k4 (aa b.k2 R.k2);exact aM (v:= .agg #[.bool s5,.slice O k5 T]) (by simp[results,results127,go_sem,R.k2]) rfl ⟨_,n,rfl,o,G.out,I,d⟩
def tT(ns:List Int)(d:Int):List Rat:=ns.map (fun n:Int=>(n:Rat)/(d:Rat))
def CA(n d:Int)(K:Nat)(hn:nl n.natAbs<=K)(b:nl d.natAbs<=K)(a:1<=K):RL K ((n:Rat)/d):=by
 rw[<-Rat.divInt_eq_div];unfold RL;rw[Rat.num_divInt,Rat.den_divInt];constructor
 ·refine aH (cK ?_) hn;rw[Int.natAbs_ediv_of_dvd]
  ·refine aH (azK _ _) ?_;rw[fL];have:d.sign.natAbs<=1:=by
    rcases aqL d 0 with h|h|h
    ·rw[aqT h];decide
    ·rw[h];decide
    ·rw[aqI h];decide
   calc d.sign.natAbs*n.natAbs<=1*n.natAbs:=dK _ this
    _=n.natAbs:=aqD _
  ·exact bxJ (Int.gcd_dvd_right ..)
 ·split
  ·rw[mJ (by decide) (by decide)];exact a
  ·exact aH (cK (azK _ _)) b
def dzV(ns:List Int)(x:Int)(v Y:Value)(w:World)(D:Glob w)(hv:WholeAt w v ns)(T:IntAt w Y x)(K:Nat)(hK:∀n∈ns,nl n.natAbs<=K)(ai:nl x.natAbs<=K)(ah:5*K+4<=aJ)(hl:ns.length<=1073741824):
  Calls prog 33 #[v,Y] w fun e w'=>∃g,e= .returned (.slice (some ⟨g,0,none⟩) ns.length ns.length)∧w.1.size<=g∧OwnR w' g (tT ns x)∧Below w.1.size w w':=by
 obtain⟨A,c,rfl,hc⟩:=hv.form;obtain⟨r,o,q,p,rfl⟩:=T.form;have V:(tT ns x).length=ns.length:=cH _;have C:=aB V;clear V;have f:Bx (w.alloc (.cells #[.bool r,.slice o q p] 60)) (w.1.size) [.bool r,.slice o q p] 60:=Bx.newAt w [.bool r,.slice o q p] 60 (w.1.size) (by simp);have a:Below w.1.size w (w.alloc (.cells #[.bool r,.slice o q p] 60)):=(aG _ _).alloc (by simp) _;go_enter func33,ntmps33;go_wp2_with (at_make;refine jT rfl rfl 76 _ 4 64 underlying68 OC rfl (by decide) ns.length rfl rfl rfl rfl (by omega) (by omega) ?_;intro w1 al Q E);have J:OwnR w1 (w.1.size+1) (List.replicate ns.length 0):=by
  have:=OwnR.made Q;rw[World.size_alloc] at this;exact this
 replace f:=f.be E;replace a:=aC a E;clear Q al E;go_loopg [13] ns.length (fun k i wr=>∃j,Hid (j+k=ns.length)∧i= .int .i64 j∧OwnR wr (w.1.size+1) ((tT ns x).take j++List.replicate k 0)∧Bx wr w.1.size [.bool r,.slice o q p] 60∧Below w.1.size w wr)
 case atStart=>exact⟨0,by unfold Hid;omega,rfl,by simpa using J,f,a⟩
 case round=>
  clear J f a;obtain⟨j,t,rfl,R,f,a⟩:=hrel;generalize wr=m at *;have aw:(0:Int)<=(j:Int):=by omega
  cases gk with
  |zero=>
   have hj:j=ns.length:=t.out;subst hj;rw[aq8,fH,cZ (by rw[C.out];exact aE)] at R;go_wp2;go_ret
   first
    |exact⟨_,rfl,Nat.le_succ _,R,a⟩
    |exact⟨R,a⟩
  |succ k=>
   obtain⟨n,hn⟩:∃n,ns[j]? =some n:=⟨_,aR (by have:=t.out;omega)⟩;obtain⟨b,s,B,l,d,rfl,av,g0,g1,H⟩:=(hv.be a).at_ hn;have ak:=hK n (dG hn);have ax:(j:Int)<(ns.length:Int):=by have:=t.out;omega
   have U:(tT ns x)[j]? =some ((n:Rat)/x):=by unfold tT;rw[iK,hn];rfl
   have L:=rI (ys:=tT ns x) (z:=(0:Rat)) (j:=j) (k:=k+1) (by rw[C.out];exact t.out);have M:=rH (z:=(0:Rat)) (k:=k) U;have N:j<((tT ns x).take j++List.replicate (k+1) 0).length:=by rw[L,C.out];have:=t.out;omega
   have ag:=aB M;clear U L M hn;have I:=T.be a;have G:=fun W D h1 u=>I3 n x (.agg #[.bool s,.slice B l d]) (.agg #[.bool r,.slice o q p]) W D h1 u K ak ai ah;unfold iF at G;generalize (n:Rat)/x=y at *;have ac:∀h:Obj,(m.alloc h).cell? ⟨w.1.size,0,none⟩=some (.bool r):=fun h=>(f.alloc h).cell 0 rfl;have ae:∀h:Obj,(m.alloc h).frozen? ⟨w.1.size,0,none⟩=false:=fun h=>(f.alloc h).free 0;have ad:∀h:Obj,(m.alloc h).cell? ⟨w.1.size,1,none⟩=some (.slice o q p):=fun h=>(f.alloc h).cell 1 rfl;have af:∀h:Obj,(m.alloc h).frozen? ⟨w.1.size,1,none⟩=false:=fun h=>(f.alloc h).free 1;go_wp2_with fail;replace R:=R.be ((aG m.1.size m).alloc aE (.cells #[.bool s,.slice B l d] 60));have ap:=f.lt;have ay:=a.size;replace f:=f.alloc (.cells #[.bool s,.slice B l d] 60);have X:=Bx.newAt m [.bool s,.slice B l d] 60 (m.1.size) (by simp);replace a:=a.alloc a.size (.cells #[.bool s,.slice B l d] 60);replace O:=Keep.alloc m (.cells #[.bool s,.slice B l d] 60);replace H:=H.ke O;replace I:=I.ke O;generalize m.alloc (.cells #[.bool s,.slice B l d] 60)=W1 at *;replace an:=f.cell 0 rfl;replace ao:=f.cell 1 rfl;replace aq:=X.cell 0 rfl;replace ar:=X.cell 1 rfl;clear ac ad ae af g0 g1;refine(G _ (D.be a) H I).mono ?_;rintro e2 w2 ⟨v2,rfl,u,F⟩;obtain⟨s2,A2,k2,c2,s3,A3,k3,c3,rfl⟩:=u.form;replace R:=R.be F;replace f:=f.be F;replace a:=aC a F;obtain⟨s',B',l',d',a0,am,az,au,q0,q1,q2,q3, -⟩:=R.at_ (aR N);have f0:=R.free (j*4);have f1:=R.free (j*4+1);have f2:=R.free (j*4+2);have f3:=R.free (j*4+3);clear G;go_wp2_with fail;obtain⟨P,S⟩:=R.stored N u;rw[ag.out] at P;have Z:Bx _ w.1.size [.bool r,.slice o q p] 60:=(S.2.1 w.1.size (by omega)).trans f;have aj:=jD a S (by omega);go_roundg k
   case rel=>exact⟨j+1,by have:=t.out;unfold Hid;omega,by go_num,P,Z,aj⟩
   case measure=>omega
def dzW(ns:List Int)(x:Int)(v a:Value)(w:World)(d:Glob w)(hv:WholeAt w v ns)(m:IntAt w a x)(K:Nat)(f:∀n∈ns,nl n.natAbs<=K)(j:nl x.natAbs<=K)(i:5*K+4<=aJ)(l:ns.length<=1073741824):
  Calls prog 33 #[v,a] w fun e w'=>∃c,e= .returned c∧RatsAt w' c (tT ns x)∧Below w.1.size w w':=by
 refine(dzV ns x v a w d hv m K f j i l).mono ?_;rintro e w' ⟨g,rfl, -,h,k⟩;have b:=h.rats ns.length (by unfold tT;rw[cH];exact aE);rw[show(tT ns x).length=ns.length by unfold tT;exact cH _] at b;exact⟨_,rfl,b,k⟩
def cC(a:List Rat)(D:Int):List Int:=a.map (fun q=>q.num*D.tdiv (q.den:Int))
def JC(a:List Rat)(D:Int)(h:∀q∈a,(q.den:Int)∣D)(i:Nat):((cf (cC a D) i:Int):Rat)=cf a i*D:=by
 unfold cC cf;rw[eE,eE,iK];cases hq:a[i]? with
 |none=>
  show((0:Int):Rat)=0*(D:Rat)
  rw[aq4];grind
 |some q=>exact xI q D (h q (dG hq))
def sA(a:List Rat)(D:Int)(K B:Nat)(c:∀q∈a,RL K q)(b:nl D.natAbs<=B):∀n∈cC a D,nl n.natAbs<=K+B:=by
 intro n hn;unfold cC at hn;obtain⟨q,d,rfl⟩:=List.mem_map.1 hn;exact gT _ _ _ _ (c q d).1 (jN _ _ _ b)
def VE(w:World)(a:List Rat)(B:Nat)(e:Ending)(w':World):Prop:=
 ∃b n c d D,e= .returned (.tuple #[.slice (some ⟨b,0,none⟩) n c,d])∧w.1.size<=b∧WholeAt w' (.slice (some ⟨b,0,none⟩) n c) (aW aV (cC a D))∧IntAt w' d D∧ComDen a D B∧Below w.1.size w w'
def JD(a:List Rat)(v:Value)(w:World)(hG:Glob w)(hv:RatsAt w v a)(K U:Nat)(hK:∀q∈a,RL K q)(hl:a.length<=1073741824)(a5:1+a.length*K<=U)(a6:K<=U)(a7:6*U+8<=aJ):
  Calls prog 77 #[v] w (VE w a (1+a.length*K)):=by
 obtain⟨A,c,rfl,hc⟩:=hv.form;have R:Bx (w.alloc (.cells #[.bool false,.slice none 0 0] 60)) (w.1.size) [.bool false,.slice none 0 0] 60:=Bx.newAt w [.bool false,.slice none 0 0] 60 (w.1.size) (by simp);have f:Below w.1.size w (w.alloc (.cells #[.bool false,.slice none 0 0] 60)):=(aG _ _).alloc (by simp) _;go_enter func77,ntmps77;go_wp2_with fail;generalize w.alloc (.cells #[.bool false,.slice none 0 0] 60)=W at *;refine(VM a _ _ (hG.be f) (hv.be f) K U hK hl a5 a6 (by omega)).mono ?_;rintro e1 g ⟨v1,D,rfl,h1,ai,ah⟩;obtain⟨s1,A1,k1,c1,rfl⟩:=h1.form;replace R:=R.be ah;replace V:=R.cell 0 rfl;replace af:=R.free 0;replace Y:=R.cell 1 rfl;replace ag:=R.free 1;replace hk:=Keep.be ah;replace f:=aC f ah;have am:=ai.nl_;have az:(cC a D).length=a.length:=cH _;have I:=aB az;have bb:=sA a D K _ hK am;clear az;go_wp2_with (at_make;refine jT rfl rfl 60 _ 2 32 underlying64 p6 rfl (by decide) a.length rfl rfl rfl rfl (by omega) (by omega) ?_;intro w2 bc aw p);have R0:OwnW w2 (g.1.size+1) (List.replicate a.length 0):=by
  have:=OwnW.made aw;rw[World.size_alloc] at this;exact this
 have br:=R.lt;have ac:Below g.1.size g w2:=((aG _ _).alloc aE _).trans (p.mono (by simp));have al:IntBx w2 g.1.size D:=⟨_,_,_,_,(Bx.new g [.bool s1,.slice A1 k1 c1] 60).be p,h1.be ac⟩;have an:=R.be ac;have ao:=aC f ac;clear aw bc p ac R h1 f V Y af ag hk;go_loopg [15] a.length (fun k i wr=>∃j,Hid (j+k=a.length)∧i= .int .i64 j∧OwnW wr (g.1.size+1) ((cC a D).take j++List.replicate k 0)∧IntBx wr g.1.size D∧Bx wr w.1.size [.bool false,.slice none 0 0] 60∧Below w.1.size w wr)
 case atStart=>exact⟨0,by unfold Hid;omega,rfl,by simpa using R0,al,an,ao⟩
 case round=>
  clear R0 al an ao;obtain⟨j,H,rfl,N,Z,R,f⟩:=hrel;generalize wr=F at *;have bp:(0:Int)<=(j:Int):=by omega
  obtain⟨P,J,O,L,C,o⟩:=id Z;cases gk with
  |zero=>
   have hj:j=a.length:=H.out;subst hj;rw[aq8,fH,cZ (by rw[I.out];exact aE)] at N;have hw:=N.whole a.length (by rw[I.out];exact aE);have aj:=fun W h=>sP (cC a D) (some ⟨g.1.size+1,0,none⟩) a.length W h (K+(1+a.length*K)) bb (by unfold aJ at a7;omega) (by rw[I.out];omega);rw[I.out] at aj hw;replace hw:=hw.drew;replace Z:=Z.be (aG _ _).drew;go_wp2_with fail;replace R:=R.drew;replace C:=C.drew;replace o:=o.drew;replace f:=f.drew;have ae:w.1.size≠g.1.size:=by omega
   replace V:=R.cell 0 rfl;replace af:=R.free 0;replace Y:=R.cell 1 rfl;replace ag:=R.free 1;replace Q:=C.cell 0 rfl;replace bf:=C.free 0;replace S:=C.cell 1 rfl;replace bg:=C.free 1;obtain⟨T,HT⟩:∃T,Hid (aW aV (cC a D)=T):=⟨_,rfl⟩;rw[HT.out] at aj
   go_region_held3 (fun w'=>w'.cell? ⟨g.1.size,0,none⟩=some (.bool P)∧w'.cell? ⟨g.1.size,1,none⟩=some (.slice J O L))
    (first|(with_reducible exact⟨Q,S⟩)|(with_reducible exact⟨(aL _ _ _ _ _ _ ae).trans ((aL _ _ _ _ _ _ ae).trans Q),(aL _ _ _ _ _ _ ae).trans ((aL _ _ _ _ _ _ ae).trans S)⟩))
    (first
     |(go_at_call 128;refine(aj _ hw).mono ?_;rintro e6 w6 ⟨rfl,h6,ad⟩;replace o:=o.be ad;replace R:=R.be ad;replace C:=C.be ad;replace Q:=C.cell 0 rfl;replace S:=C.cell 1 rfl;replace V:=R.cell 0 rfl;replace Y:=R.cell 1 rfl;replace af:=R.free 0;replace ag:=R.free 1;replace f:=aC f ad))
   go_wp2_with fail;obtain⟨-,x⟩:=IntBx.stored (w:=w6) (b:=w.1.size) (m:=0) ⟨_,_,_,_,R,IntAt.zero _⟩ o;have z6:=h6.step x (fun b e=>by injection e with e;injection e with e;omega);have zm:=o.ke x.1;have zb:=jD f x aE;obtain⟨z0,z1, -, -, -⟩:=jU (s:=P) (u:= .slice J O L) f aE R;clear x;generalize (w6.setCell ⟨w.1.size,0,none⟩ (.bool P)).setCell ⟨w.1.size,1,none⟩ (.slice J O L)=W6 at *;exact aM (v:= .tuple #[.slice (some ⟨g.1.size+1,0,none⟩) T.length a.length,.agg #[.bool P,.slice J O L]]) (by simp[results,results77,go_sem,z0,z1]) rfl ⟨_,_,_,_,D,rfl,by omega,by rw[HT.out];exact z6,zm,ai,zb⟩
  |succ k=>
   obtain⟨q,M⟩:∃q,a[j]? =some q:=⟨_,aR (by have:=H.out;omega)⟩;obtain⟨b,s,B,m,d,E,r,G,t,rfl,bo,g0,g1,g2,g3,hi⟩:=(hv.be f).at_ M;have a8:=hK q (dG M);have ap:=ai.dvd q (dG M);have bq:(j:Int)<(a.length:Int):=by have:=H.out;omega
   have ay:(cC a D)[j]? =some (q.num*D.tdiv (q.den:Int)):=by unfold cC;rw[iK,M];rfl
   have aq:=rI (ys:=cC a D) (z:=(0:Int)) (j:=j) (k:=k+1) (by rw[I.out];exact H.out);have ar:=rH (z:=(0:Int)) (k:=k) ay;have au:j<((cC a D).take j++List.replicate (k+1) 0).length:=by rw[aq,I.out];have:=H.out;omega
   have ax:∀n:Int,(n:Rat)=q*D->n=q.num*D.tdiv (q.den:Int):=fun n h=>Rat.intCast_inj.1 (h.trans (xI q D ap).symm);have ak:=aB ax;have a4:=aB ar;clear ay aq ar M ax;have a0:∀l:Obj,(F.alloc l).cell? ⟨g.1.size,0,none⟩=some (.bool P):=fun l=>(C.alloc l).cell 0 rfl;have a2:∀l:Obj,(F.alloc l).frozen? ⟨g.1.size,0,none⟩=false:=fun l=>(C.alloc l).free 0;have a1:∀l:Obj,(F.alloc l).cell? ⟨g.1.size,1,none⟩=some (.slice J O L):=fun l=>(C.alloc l).cell 1 rfl;have a3:∀l:Obj,(F.alloc l).frozen? ⟨g.1.size,1,none⟩=false:=fun l=>(C.alloc l).free 1;go_wp2_with fail;replace N:=N.alloc (.cells #[.bool s,.slice B m d,.bool E,.slice r G t] 76);have bh:=C.lt;have bi:=R.lt;have bs:=f.size;replace C:=C.alloc (.cells #[.bool s,.slice B m d,.bool E,.slice r G t] 76);replace R:=R.alloc (.cells #[.bool s,.slice B m d,.bool E,.slice r G t] 76);have X:=Bx.newAt F [.bool s,.slice B m d,.bool E,.slice r G t] 76 (F.1.size) (by simp);replace f:=f.alloc f.size (.cells #[.bool s,.slice B m d,.bool E,.slice r G t] 76);replace hk:=Keep.alloc F (.cells #[.bool s,.slice B m d,.bool E,.slice r G t] 76);replace hi:=hi.ke hk;replace o:=o.ke hk;generalize F.alloc (.cells #[.bool s,.slice B m d,.bool E,.slice r G t] 76)=wa at *;replace Q:=C.cell 0 rfl;replace S:=C.cell 1 rfl;replace V:=R.cell 0 rfl;replace Y:=R.cell 1 rfl;replace bj:=X.cell 0 rfl;replace bk:=X.cell 1 rfl;replace bm:=X.cell 2 rfl;replace bn:=X.cell 3 rfl;clear a0 a1 a2 a3 g0 g1 g2 g3 Z;refine(VJ q D _ _ _ hi o ap K (1+a.length*K) a8 am (by omega)).mono ?_;rintro e2 bt ⟨v2,n,rfl,h2,av, -,p⟩;have ba:=ak.out n av;subst ba;clear av ak;obtain⟨s2,A2,k2,c2,rfl⟩:=h2.form;replace N:=N.be p;replace C:=C.be p;replace R:=R.be p;replace o:=o.be p;replace f:=aC f p;obtain⟨E,r,l',t,q0,q1, -⟩:=N.at_ (aR au);have f0:=N.free (j*2);have f1:=N.free (j*2+1);generalize q.num*D.tdiv (q.den:Int)=y at *;go_wp2_with fail;obtain⟨hp,x⟩:=N.stored au h2;rw[a4.out] at hp;have zC:=IntBx.step ⟨_,_,_,_,C,o⟩ x (by omega);have zR:Bx _ w.1.size [.bool false,.slice none 0 0] 60:=(x.2.1 w.1.size (by omega)).trans R;have a9:=jD f x (by omega);go_roundg k
   case rel=>exact⟨j+1,by have:=H.out;unfold Hid;omega,by go_num,hp,zC,zR,a9⟩
   case measure=>omega
def vl(a:List (List UInt8)):Bool:=decide (a.length<=65∧a.all rd=true∧(aU a).getLast?≠some 0)
def JB(b:List Rat):aN b↔b.getLast?≠some 0:=⟨fun h e=>h 0 e rfl,fun h a c e=>h (by rw[c,e])⟩
def pJ{a:List (List UInt8)}(h:vl a=true):a.length<=65∧a.all rd=true∧aN (aU a):=by
 unfold vl at h;rw[iQ] at h;exact⟨h.1,h.2.1,(JB _).2 h.2.2⟩
def oO(j:0<D)(i:∀q∈c,(q.den:Int)∣D)(h:aN c):aN (cC c D):=by
 intro a b e;unfold cC at b;rw[List.getLast?_map] at b;cases hq:c.getLast? with
 |none=>rw[hq] at b;simp at b
 |some q=>
  rw[hq] at b;simp only[bzX,Option.some.injEq] at b;have f:=xI q D (i q (List.mem_of_getLast? hq));rw[b,e,aq4] at f;have g:(D:Rat)≠0:=fun e=>(show D≠0 by omega) (Rat.intCast_inj.1 e);rcases Rat.mul_eq_zero.1 f.symm with d|d
  ·exact h q hq d
  ·exact g d
def VA(n c:Nat)(A:Option Addr)(w:World)(hn:n<=1073741824):Calls prog 75 #[.slice A n c] w fun e w'=>e= .returned (.bool (decide (n<=65)))∧w'=w:=by
 by_cases h:n<=65
 ·have b:(n:Int)<=65:=by omega
  have a:decide (n<=65)=true:=by simpa using h
  rw[a];go_enter func75,ntmps75;go_wp2;go_ret;exact⟨rfl,rfl⟩
 ·have b:¬(n:Int)<=65:=by omega
  have a:decide (n<=65)=false:=by simpa using h
  rw[a];go_enter func75,ntmps75;go_wp2;go_ret;exact⟨rfl,rfl⟩
def ComDen.mono{B a:Nat}(h:ComDen b D B)(c:B<=a):ComDen b D a:=⟨h.pos,h.dvd,aH h.nl_ c⟩
def VB(w:World)(a:List (List UInt8))(B:Nat)(e:Ending)(w':World):Prop:=
 ∃v c b D,e= .returned (.tuple #[v,c,.bool (vl a)])∧WholeAt w' v b∧IntAt w' c D∧(vl a=true->b=cC (aU a) D∧ComDen (aU a) D B)∧Below w.1.size w w'
def VD(i:List (List UInt8))(v:Value)(w:World)(hG:Glob w)(hv:StrsAt w v i)(hl:i.length<=1073741824)(a8:i.length<=65->∀l∈i,l.length<=1073741824)(K KB L:Nat)(hK:i.length<=65->∀q∈aU i,RL K q)(hL:i.length<=65->i.length<=L)(a4:1<=L)(bb:1+L*K<=KB)(al:6*KB+8<=aJ):
  Calls prog 30 #[v] w (VB w i (1+L*K)):=by
 have bc:K<=L*K:=byT K a4;obtain⟨A,c,rfl,hc⟩:=hv.form;obtain⟨W,eW,f,R⟩:=bI w [.bool false,.slice none 0 0] 60;have u:=R.g2;go_enter func30,ntmps30;go_wp2_with fail;(try rw[eW]);clear eW;refine(lL 1 _ (by decide) (by decide)).mono ?_;rintro e1 w1 ⟨v1,rfl,n,au⟩;obtain⟨Z,J,V,P,rfl⟩:=n.form;replace R:=R.be au;replace u:=R.g2;replace f:=aC f au;go_wp2_with fail;have N:=R.lt;have T:=f.size;obtain⟨w2,ar,p,O⟩:=bI w1 [.bool Z,.slice J V P] 60;replace R:=R.be p;replace k:=Keep.be p;replace f:=aC f p;replace n:=n.ke k;rw[ar];clear ar;replace u:=aa R.g2 O.g2;refine(VA i.length c A _ hl).mono ?_;rintro e3 w3 ⟨rfl,rfl⟩;by_cases H:i.length<=65
 ·have z:decide (i.length<=65)=true:=by simpa using H
  rw[z];clear z;go_wp2_with fail;refine(T0 i _ _ (hG.be f) (hv.be f) hl (a8 H)).mono ?_;rintro e4 w4 ⟨v4,rfl,h4,ai⟩;replace R:=R.be ai;replace O:=O.be ai;replace u:=aa R.g2 O.g2;replace k:=Keep.be ai;replace n:=n.ke k;replace f:=aC f ai;cases hall:i.all rd with
  |false=>
   have t:vl i=false:=by unfold vl;rw[jA];exact fun h=>by rw[hall] at h;exact absurd h.2.1 (by simp)
   have G:=aB t;clear t h4;go_wp2_with fail;go_region
   all_goals (
    go_wp2_with fail;have N:=R.lt;have ad:=O.lt;have T:=f.size;obtain⟨W6,o,R,f,k,x⟩:=R.put2 f (by omega) (.bool Z) (.slice J V P) rfl rfl;replace O:=x O (by omega);replace n:=n.ke k;rw[o];clear o;replace u:=aa R.k2 O.k2;exact aM (v:= .tuple #[.slice none 0 0,.agg #[.bool Z,.slice J V P],.bool false]) (by simp[results,results30,go_sem,R.k2]) rfl ⟨_,_,[],1,by rw[G.out],WholeAt.nil _ _ _,n.drew,(fun h=>by rw[G.out] at h;cases h),f.drew⟩)
  |true=>
   have I:=h4 hall;obtain⟨A4,c4,rfl,bh⟩:=I.form;have a9:(aU i).length=i.length:=cH _;have ap:=aB hall;have ak:=hK H;clear h4 hall;generalize av:aU i=j at *;have ac:=aB av;have bi:j.length<=65:=by omega
   have aj:j.length<=L:=by have:=hL H;omega
   clear av a9;by_cases h0:j.length=0
   ·have an:j=[]:=bX h0;have ah:aN j:=fun a h=>by rw[an] at h;simp at h
    have t:vl i=true:=by unfold vl;rw[iQ,ac.out,ap.out,an];exact⟨H,rfl,by simp⟩
    have a3:¬(0:Int)<(j.length:Int):=by omega
    clear an h0;go_wp2_with fail;refine(JD j _ _ (hG.be f) I K KB ak (by omega) (by have:j.length*K<=L*K:=dK _ aj;omega) (by omega) al).mono ?_;rintro S C ⟨b5,n5,c5,ba,D,rfl,a6,y,r,F,E⟩;rw[qB (oO F.pos F.dvd ah)] at y;obtain⟨A5,c9,S,a7⟩:=y.form;simp only[Value.slice.injEq] at S;obtain⟨-,rfl, -⟩:=S;have a5:=R.lt;obtain⟨s6,M,Y,Q,rfl⟩:=r.form;replace R:=R.be E;replace O:=O.be E;replace u:=aa R.g2 O.g2;replace k:=Keep.be E;replace n:=n.ke k;replace f:=aC f E;have ay:∀g:Obj,(C.alloc g).cell? ⟨w.1.size,0,none⟩=some (.bool false):=fun g=>(R.alloc g).cell 0 rfl;have a0:∀g:Obj,(C.alloc g).frozen? ⟨w.1.size,0,none⟩=false:=fun g=>(R.alloc g).free 0;have az:∀g:Obj,(C.alloc g).cell? ⟨w.1.size,1,none⟩=some (.slice none 0 0):=fun g=>(R.alloc g).cell 1 rfl;have a1:∀g:Obj,(C.alloc g).frozen? ⟨w.1.size,1,none⟩=false:=fun g=>(R.alloc g).free 1;have ag:=F.mono (show 1+j.length*K<=1+L*K by have:j.length*K<=L*K:=dK _ aj;omega);have HN:=aB (show vl i=true∧cC j D=cC (aU i) D∧ComDen (aU i) D (1+L*K) from⟨t,by rw[ac.out],by rw[ac.out];exact ag⟩);generalize cC j D=ns at *;clear F ag ah t I;go_wp2_with fail;have N:=R.lt;have ad:=O.lt;have T:=f.size;obtain⟨w7,ae,p,X⟩:=bI C [.bool s6,.slice M Y Q] 60;replace R:=R.be p;replace O:=O.be p;replace k:=Keep.be p;replace f:=aC f p;replace n:=n.ke k;replace r:=r.ke k;rw[ae];clear ae;replace u:=aa R.g2 (aa O.k2 X.g2);replace y:=y.be p;go_region
    all_goals (
     go_wp2_with fail;obtain⟨-,ao⟩:=IntBx.stored (w:=w7) (b:=w.1.size) (m:=0) ⟨_,_,_,_,R,IntAt.zero _⟩ r;have z5:=y.step ao (fun b e=>by injection e with e;injection e with e;omega);have N:=R.lt;have ad:=O.lt;have a2:=X.lt;have T:=f.size;obtain⟨W6,o,R,f,k,x⟩:=R.put2 f (by omega) (.bool s6) (.slice M Y Q) rfl rfl;replace O:=x O (by omega);replace X:=x X (by omega);replace r:=r.ke k;rw[o];rw[o] at z5;clear o;replace u:=aa R.k2 (aa O.k2 X.k2);exact aM (v:= .tuple #[.slice (some ⟨b5,0,none⟩) ns.length c5,.agg #[.bool s6,.slice M Y Q],.bool true]) (by simp[results,results30,go_sem,R.k2]) rfl ⟨_,_,ns,D,by rw[HN.out.1],z5.drew,r.drew,(fun _=>HN.out.2),f.drew⟩)
   ·obtain⟨m,hm⟩:∃m,j.length=m+1:=⟨j.length-1,by omega⟩;have a3:(0:Int)<(j.length:Int):=by omega
    have e1:(j.length:Int)-1=(m:Int):=by omega
    have i0:(0:Int)<=(m:Int):=by omega
    have i1:(m:Int)<(j.length:Int):=by omega
    obtain⟨q,hq⟩:∃q,j[m]? =some q:=⟨_,aR (by omega)⟩;obtain⟨b,s,B,l,d,s',B',l',d',rfl,bg,g0,g1,g2,g3,hi⟩:=I.at_ hq;have am:j.getLast?=some q:=by rw[byO,hm];exact hq
    have bf:=(ak q (dG hq)).1;have aw:vl i=decide (q≠0):=by
     unfold vl;rw[ac.out,ap.out,am,bxH,iQ,iQ];exact⟨fun h e=>h.2.2 (by rw[e]),fun h=>⟨H,rfl,fun e=>h (by injection e)⟩⟩
    have aq:=aB aw;have ax:=aB am;clear hq hm h0 aw am;go_wp2_with fail;refine(SV q _ _ hi (by unfold aJ at al;omega)).mono ?_;rintro e8 w8 ⟨rfl,af⟩;replace R:=R.be af;replace O:=O.be af;replace u:=aa R.g2 O.g2;replace k:=Keep.be af;replace n:=n.ke k;replace f:=aC f af;replace I:=I.be af;by_cases U:q=0
    ·have z:decide (q=0)=true:=by simpa using U
     have t:vl i=false:=by rw[aq.out];simpa using U
     have G:=aB t;rw[z];clear z t U;go_wp2_with fail;go_region
     all_goals (
      go_wp2_with fail;have N:=R.lt;have ad:=O.lt;have T:=f.size;obtain⟨W6,o,R,f,k,x⟩:=R.put2 f (by omega) (.bool Z) (.slice J V P) rfl rfl;replace O:=x O (by omega);replace n:=n.ke k;rw[o];clear o;replace u:=aa R.k2 O.k2;exact aM (v:= .tuple #[.slice none 0 0,.agg #[.bool Z,.slice J V P],.bool false]) (by simp[results,results30,go_sem,R.k2]) rfl ⟨_,_,[],1,by rw[G.out],WholeAt.nil _ _ _,n.drew,(fun h=>by rw[G.out] at h;cases h),f.drew⟩)
    ·have z:decide (q=0)=false:=by simpa using U
     have t:vl i=true:=by rw[aq.out];simpa using U
     have ah:aN j:=(JB j).2 (by rw[ax.out];intro e;injection e with e;exact U e);rw[z];clear z U g0 g1 g2 g3 hi;go_wp2_with fail;refine(JD j _ _ (hG.be f) I K KB ak (by omega) (by have:j.length*K<=L*K:=dK _ aj;omega) (by omega) al).mono ?_;rintro S C ⟨b5,n5,c5,ba,D,rfl,a6,y,r,F,E⟩;rw[qB (oO F.pos F.dvd ah)] at y;obtain⟨A5,c9,S,a7⟩:=y.form;simp only[Value.slice.injEq] at S;obtain⟨-,rfl, -⟩:=S;have a5:=R.lt;obtain⟨s6,M,Y,Q,rfl⟩:=r.form;replace R:=R.be E;replace O:=O.be E;replace u:=aa R.g2 O.g2;replace k:=Keep.be E;replace n:=n.ke k;replace f:=aC f E;have ay:∀g:Obj,(C.alloc g).cell? ⟨w.1.size,0,none⟩=some (.bool false):=fun g=>(R.alloc g).cell 0 rfl;have a0:∀g:Obj,(C.alloc g).frozen? ⟨w.1.size,0,none⟩=false:=fun g=>(R.alloc g).free 0;have az:∀g:Obj,(C.alloc g).cell? ⟨w.1.size,1,none⟩=some (.slice none 0 0):=fun g=>(R.alloc g).cell 1 rfl;have a1:∀g:Obj,(C.alloc g).frozen? ⟨w.1.size,1,none⟩=false:=fun g=>(R.alloc g).free 1;have ag:=F.mono (show 1+j.length*K<=1+L*K by have:j.length*K<=L*K:=dK _ aj;omega);have HN:=aB (show vl i=true∧cC j D=cC (aU i) D∧ComDen (aU i) D (1+L*K) from⟨t,by rw[ac.out],by rw[ac.out];exact ag⟩);generalize cC j D=ns at *;clear F ag ah t I;go_wp2_with fail;have N:=R.lt;have ad:=O.lt;have T:=f.size;obtain⟨w7,ae,p,X⟩:=bI C [.bool s6,.slice M Y Q] 60;replace R:=R.be p;replace O:=O.be p;replace k:=Keep.be p;replace f:=aC f p;replace n:=n.ke k;replace r:=r.ke k;rw[ae];clear ae;replace u:=aa R.g2 (aa O.k2 X.g2);replace y:=y.be p;go_region
     all_goals (
      go_wp2_with fail;obtain⟨-,ao⟩:=IntBx.stored (w:=w7) (b:=w.1.size) (m:=0) ⟨_,_,_,_,R,IntAt.zero _⟩ r;have z5:=y.step ao (fun b e=>by injection e with e;injection e with e;omega);have N:=R.lt;have ad:=O.lt;have a2:=X.lt;have T:=f.size;obtain⟨W6,o,R,f,k,x⟩:=R.put2 f (by omega) (.bool s6) (.slice M Y Q) rfl rfl;replace O:=x O (by omega);replace X:=x X (by omega);replace r:=r.ke k;rw[o];rw[o] at z5;clear o;replace u:=aa R.k2 (aa O.k2 X.k2);exact aM (v:= .tuple #[.slice (some ⟨b5,0,none⟩) ns.length c5,.agg #[.bool s6,.slice M Y Q],.bool true]) (by simp[results,results30,go_sem,R.k2]) rfl ⟨_,_,ns,D,by rw[HN.out.1],z5.drew,r.drew,(fun _=>HN.out.2),f.drew⟩)
 ·have z:decide (i.length<=65)=false:=by simpa using H
  have t:vl i=false:=by unfold vl;rw[jA];exact fun h=>H h.1
  have G:=aB t;rw[z];clear z t;go_wp2_with fail;go_region
  all_goals (
   go_wp2_with fail;have N:=R.lt;have ad:=O.lt;have T:=f.size;obtain⟨W6,o,R,f,k,x⟩:=R.put2 f (by omega) (.bool Z) (.slice J V P) rfl rfl;replace O:=x O (by omega);replace n:=n.ke k;rw[o];clear o;replace u:=aa R.k2 O.k2;exact aM (v:= .tuple #[.slice none 0 0,.agg #[.bool Z,.slice J V P],.bool false]) (by simp[results,results30,go_sem,R.k2]) rfl ⟨_,_,[],1,by rw[G.out],WholeAt.nil _ _ _,n.drew,(fun h=>by rw[G.out] at h;cases h),f.drew⟩)
def T1(a:List (List UInt8))(v:Value)(w:World)(c:Glob w)(hv:StrsAt w v a)(g:a.length<=1073741824)(h:a.length<=65->∀l∈a,l.length<=1073741824)(K b:Nat)(d:a.length<=65->∀q∈aU a,RL K q)(e:1+65*K<=b)(f:6*b+8<=aJ):
  Calls prog 30 #[v] w (VB w a (1+65*K)):=
 VD a v w c hv g h K b 65 d id (by decide) e f
def RetPoly(w:World)(a:List Rat)(e:Ending)(w':World):Prop:=
 ∃b,e= .returned (.tuple #[b,.int .i64 (if a.length<=65 then 0 else 2)])∧StrsAt w' b (if a.length<=65 then a.map cW else [])∧Below w.1.size w w'
def dxT(a:List Rat)(v:Value)(w:World)(J:Glob w)(hv:RatsAt w v a)(K:Nat)(z:∀q∈a,RL K q)(L:K<=1073741824)(hl:a.length<=1073741824):
  Calls prog 31 #[v] w (RetPoly w (aW aV a)):=by
 obtain⟨A,c,rfl,hc⟩:=hv.form;go_enter func31,ntmps31;go_wp2_with fail;go_loopg [0] a.length (fun k T wr=>∃m,Hid (m=k)∧T= .slice A m c∧m<=a.length∧Hid (aW aV (a.take m)=aW aV a)∧Below w.1.size w wr)
 case atStart=>exact⟨a.length,rfl,rfl,aE,by unfold Hid;rw[aq9],aG _ _⟩
 case round=>
  obtain⟨m,H,rfl,hm,n,u⟩:=hrel;generalize wr=wy at *;have ae:(0:Int)<=(m:Int):=by omega
  cases gk with
  |zero=>
   obtain rfl:m=0:=H.out;have o:Hid (aW aV a=a.take 0):=n.out.symm;have f:=u;clear n;have E:=(hv.be f).cut 0 (by omega);have C:∀q∈a.take (0),RL K q:=fun q i=>z q (lH i);have r:(a.take (0)).length=0:=by rw[bK];omega
   have h:=aB r;clear r;go_wp2_with fail;refine(dxQ (a.take (0)) _ _ (J.be f) E K C L (by rw[h.out];omega)).mono ?_;rintro j V ⟨U,rfl,p,D⟩;obtain⟨x,y,j,Q⟩:=p.form;rw[cH,h.out] at j;subst j;replace f:=aC f D;go_wp2_with fail;refine(VA (0) y x _ (by omega)).mono ?_;rintro O W ⟨rfl,rfl⟩;by_cases g:0<=65
   ·have e:decide (0<=65)=true:=decide_eq_true g;rw[e];clear e;go_wp2;go_ret2;unfold RetPoly;rw[o.out,h.out,if_pos g,if_pos g];exact⟨_,rfl,p,f⟩
   ·have e:decide (0<=65)=false:=decide_eq_false g;rw[e];clear e;go_wp2;go_ret2;unfold RetPoly;rw[o.out,h.out,if_neg g,if_neg g];exact⟨_,rfl,StrsAt.nil _ _ _,f⟩
  |succ k=>
   have S:m=k+1:=H.out;subst S;obtain⟨q,i⟩:∃q,a[k]? =some q:=⟨_,aR (by omega)⟩;obtain⟨b,s,B,l,d,s',X,l',Y,rfl,ac,g0,g1,g2,g3,R⟩:=(hv.be u).at_ i;have ad:=(z q (dG i)).1;have M:=zV aV a i;have N:=zW aV a i;have G:=aB M;have I:=aB N;clear M N;have af:((k:Int)+1)<=(a.length:Int):=by omega
   have ag:k+1<=c:=by omega
   have ah:k<=c:=by omega
   have ai:(0:Int)<=(k:Int):=by omega
   go_wp2_with fail;refine(SV q _ _ R (by omega)).mono ?_;rintro Z w1 ⟨rfl,P⟩;have f:=aC u P;by_cases t:q=0
   ·have e:decide (q=0)=true:=by simpa using t
    have F:aV q=true:=e;rw[e];clear e t;go_wp2;go_roundg k
    case rel=>exact⟨k,rfl,by simp,by omega,by unfold Hid;rw[<-G.out F];exact n.out,f⟩
    case measure=>omega
   ·have e:decide (q=0)=false:=by simpa using t
    have F:aV q=false:=e;have o:Hid (aW aV a=a.take (k+1)):=by unfold Hid;rw[<-n.out];exact I.out F
    rw[e];clear e t n G I;have E:=(hv.be f).cut (k+1) (by omega);have C:∀q∈a.take ((k+1)),RL K q:=fun q i=>z q (lH i);have r:(a.take ((k+1))).length=(k+1):=by rw[bK];omega
    have h:=aB r;clear r;go_wp2_with fail;refine(dxQ (a.take ((k+1))) _ _ (J.be f) E K C L (by rw[h.out];omega)).mono ?_;rintro j V ⟨U,rfl,p,D⟩;obtain⟨x,y,j,Q⟩:=p.form;rw[cH,h.out] at j;subst j;replace f:=aC f D;go_wp2_with fail;refine(VA ((k+1)) y x _ (by omega)).mono ?_;rintro O W ⟨rfl,rfl⟩;by_cases g:(k+1)<=65
    ·have e:decide ((k+1)<=65)=true:=decide_eq_true g;rw[e];clear e;go_wp2;go_ret2;unfold RetPoly;rw[o.out,h.out,if_pos g,if_pos g];exact⟨_,rfl,p,f⟩
    ·have e:decide ((k+1)<=65)=false:=decide_eq_false g;rw[e];clear e;go_wp2;go_ret2;unfold RetPoly;rw[o.out,h.out,if_neg g,if_neg g];exact⟨_,rfl,StrsAt.nil _ _ _,f⟩
def dX(a b:List Rat):List Rat:=if a=[]∨b=[] then [] else (List.range (a.length+b.length-1)).map (conv (cf a) (cf b))
def x5(a b:List Rat)(i:Nat):cf (dX a b) i=conv (cf a) (cf b) i:=by
 unfold dX;by_cases h:a=[]∨b=[]
 ·rw[if_pos h,eR];rcases h with h|h
  ·rw[h,lK (fun i=>eR i)]
  ·rw[h,sO,lK (fun i=>eR i)]
 ·rw[if_neg h,qA];split
  ·rfl
  ·have d:a.length≠0:=fun e=>h (.inl (bX e));have f:b.length≠0:=fun e=>h (.inr (bX e));exact(rG (fun i c=>bV c) (fun i c=>bV c) (by omega)).symm
def kS(a:List Rat)(D:Int):cC a D=[]↔a=[]:=by unfold cC;exact List.map_eq_nil_iff
def oN(a:List Rat)(D:Int):(cC a D).length=a.length:=cH _
def dzS(a b:List Rat)(D E:Int)(g:0<D)(l:0<E)(d:∀q∈a,(q.den:Int)∣D)(f:∀q∈b,(q.den:Int)∣E):tT (sN (cC a D) (cC b E)) (D*E)=dX a b:=by
 have j:(D:Rat)≠0:=fun e=>(show D≠0 by omega) (Rat.intCast_inj.1 e);have m:(E:Rat)≠0:=fun e=>(show E≠0 by omega) (Rat.intCast_inj.1 e);unfold tT sN dX;by_cases h:a=[]∨b=[]
 ·rw[if_pos (by rw[kS,kS];exact h),if_pos h];rfl
 ·rw[if_neg (by rw[kS,kS];exact h),if_neg h,oN,oN,List.map_map];refine by3 (fun i _=> ?_);show((conv (cf (cC a D)) (cf (cC b E)) i:Int):Rat)/((D*E:Int):Rat)=_
  rw[oD,eJ];have c:conv (fun k=>((cf (cC a D) k:Int):Rat)) (fun k=>((cf (cC b E) k:Int):Rat)) i=D*(E*conv (cf a) (cf b) i):=by
   rw[<-rF,<-eI];refine gL (fun k=> ?_) (fun k=> ?_) i
   ·rw[JC a D d];grind
   ·rw[JC b E f];grind
  rw[c];grind
def V8(f:Nat->Int)(n M:Nat)(h:∀k,k<n->(f k).natAbs<=M):(bW f n).natAbs<=n*M:=by
 induction n with
 |zero=>simp[bW]
 |succ n a=>
  rw[bW,aq2];have b:=a (fun k e=>h k (by omega));have c:=h n (by omega);have d:=bz2 (bW f n) (f n);omega
def dzT{xs ys:List Int}(b:∀n∈xs,nl n.natAbs<=K)(c:∀n∈ys,nl n.natAbs<=K)(f:xs.length+ys.length<=1073741824):∀n∈sN xs ys,nl n.natAbs<=2*K+1:=by
 intro n hn;unfold sN at hn;split at hn
 ·cases hn
 ·obtain⟨i,a,rfl⟩:=List.mem_map.1 hn;rw[List.mem_range] at a;refine cJ ?_;have d:(conv (cf xs) (cf ys) i).natAbs<=(i+1)*BN^(2*K):=by
   unfold conv
   refine V8 _ _ _ (fun k _=> ?_);rw[fL,Nat.two_mul];exact wY (iU b k) (iU c _)
  have e:(i+1)*BN^(2*K)<BN*BN^(2*K):=bxF (by unfold BN;omega) (d7 (by decide));rw[dH,dN _ BN];omega
def x6(w:World)(a b:List (List UInt8))(e:Ending)(w':World):Prop:=
 if vl a=true∧vl b=true then RetPoly w (aW aV (dX (aU a) (aU b))) e w' else∃c,e= .returned (.tuple #[c,.int .i64 1])∧StrsAt w' c []∧Below w.1.size w w'
def dzU(a b:List (List UInt8))(va vb:Value)(w:World)(g:Glob w)(ha:StrsAt w va a)(al:StrsAt w vb b)(ax:a.length<=1073741824)(ay:b.length<=1073741824)(K:Nat)
  (an:a.length<=65->∀l∈a,l.length<=1073741824)(ao:b.length<=65->∀l∈b,l.length<=1073741824)(ac:a.length<=65->∀q∈aU a,RL K q)(ad:b.length<=65->∀q∈aU b,RL K q)(hK:K<=4194304):
  Calls prog 8 #[va,vb] w (x6 w a b):=by
 obtain⟨A,c,rfl,hc⟩:=ha.form;obtain⟨A',c',rfl,a1⟩:=al.form;go_enter func8,ntmps8;go_wp2_with fail;refine(T1 a _ _ g ha ax an K (1+65*K) ac aE (by unfold aJ;omega)).mono ?_;rintro e1 o ⟨v1,a6,xs,D,rfl,i,f,ar,am⟩;obtain⟨A1,c1,rfl,a2⟩:=i.form;obtain⟨Q,G,O,J,rfl⟩:=f.form;go_wp2_with fail;have e:Below o.1.size o (o.alloc (.cells #[.bool Q,.slice G O J] 60)):=(aG _ _).alloc aE _;have X:=Bx.new o [.bool Q,.slice G O J] 60;replace i:=i.be e;replace f:=f.be e;have d:=aC am e;clear e;generalize a4:o.1.size=gx at *;generalize o.alloc (.cells #[.bool Q,.slice G O J] 60)=w2 at *;refine(T1 b _ _ (g.be d) (al.be d) ay ao K (1+65*K) ad aE (by unfold aJ;omega)).mono ?_;rintro e3 p ⟨v3,a7,ys,E,rfl,N,j,au,C⟩;obtain⟨A3,c3,rfl,a3⟩:=N.form;obtain⟨R,H,P,L,rfl⟩:=j.form;replace X:=X.be C;replace i:=i.be C;replace f:=f.be C;replace d:=aC d C;cases hva:vl a with
 |false=>
  have r:Hid (¬(vl a=true∧vl b=true)):=by unfold Hid;rw[hva];simp
  go_wp2;go_ret2;unfold x6;rw[if_neg r.out];exact⟨_,rfl,StrsAt.nil _ _ _,d.alloc d.size _⟩
 |true=>
  cases hvb:vl b with
  |false=>
   have r:Hid (¬(vl a=true∧vl b=true)):=by unfold Hid;rw[hvb];simp
   go_wp2;go_ret2;unfold x6;rw[if_neg r.out];exact⟨_,rfl,StrsAt.nil _ _ _,d.alloc d.size _⟩
  |true=>
   obtain⟨rfl,k⟩:=ar hva;obtain⟨rfl,m⟩:=au hvb;obtain⟨p1, -, -⟩:=pJ hva;obtain⟨p2, -, -⟩:=pJ hvb;have r:Hid (vl a=true∧vl b=true):=⟨hva,hvb⟩;have lx:(cC (aU a) D).length<=65:=by rw[oN];unfold aU;rw[cH];exact p1
   have ly:(cC (aU b) E).length<=65:=by rw[oN];unfold aU;rw[cH];exact p2
   have V:=sA _ D K _ (ac p1) k.nl_;have T:=sA _ E K _ (ad p2) m.nl_;have aj:=dzS (aU a) (aU b) D E k.pos m.pos k.dvd m.dvd;have I:=aB aj;have U:=dzT V T (by omega);have aw:=gT D E _ _ k.nl_ m.nl_;have bD:=k.nl_;have bE:=m.nl_;have ht:=fun W z B=>dzJ (cC (aU a) D) (cC (aU b) E) (.slice A1 (cC (aU a) D).length c1) (.slice A3 (cC (aU b) E).length c3) W z B (K+(1+65*K)) V T (by unfold aJ;omega) (by omega) (by omega);have hm:=fun W v u z B=>jB D E v u W z B (by omega);have aq:(sN (cC (aU a) D) (cC (aU b) E)).length<=130:=by
    unfold sN;split
    ·simp
    ·rw[cH,bxZ];omega
   have ap:=fun W v u g z B=>dzW (sN (cC (aU a) D) (cC (aU b) E)) (D*E) v u W g z B (2*(K+(1+65*K))+1) U (by omega) (by unfold aJ;omega) (by omega);rw[I.out] at ap;have ai:∀q∈dX (aU a) (aU b),RL (2*(K+(1+65*K))+1) q:=by
    rw[<-I.out];intro q hq;unfold tT at hq;obtain⟨n,hn,rfl⟩:=List.mem_map.1 hq;exact CA n (D*E) _ (U n hn) (by omega) (by omega)
   have az:(dX (aU a) (aU b)).length<=130:=by
    rw[<-I.out];unfold tT;rw[cH];exact aq
   have ag:=fun W v g h=>dxT (dX (aU a) (aU b)) v W g h (2*(K+(1+65*K))+1) ai (by omega) (by omega);unfold dW at hm;unfold RetPoly at ag;obtain⟨er,ah⟩:∃er,Hid ((if (aW aV (dX (aU a) (aU b))).length<=65 then (0:Int) else 2)=er):=⟨_,rfl⟩;rw[ah.out] at ag;generalize ak:dX (aU a) (aU b)=TR at *;have av:=aB ak;clear ak;generalize sN (cC (aU a) D) (cC (aU b) E)=TL at *;generalize cC (aU a) D=NA at *;generalize cC (aU b) E=NB at *;generalize D*E=DE at *;clear ar au hva hvb aj I k m V T U aw bD bE ai az aq p1 p2 ac ad an ao;have e:Below p.1.size p (p.alloc (.cells #[.bool R,.slice H P L] 60)):=(aG _ _).alloc aE _;go_wp2_with fail;have Y:=Bx.new p [.bool R,.slice H P L] 60;replace i:=(i.be e).drew;replace N:=(N.be e).drew;replace f:=(f.be e).drew;replace j:=(j.be e).drew;replace X:=(X.be e).drew;replace d:=(aC d e).drew;have a0:=C.size;clear e;generalize a5:p.1.size=gy at *;generalize p.alloc (.cells #[.bool R,.slice H P L] 60)=w4 at *;replace Y:=Y.drew;replace s:=X.cell 0 rfl;replace t:=X.cell 1 rfl;replace x:=Y.cell 0 rfl;replace y:=Y.cell 1 rfl
   go_region_held3 (fun S=>S.cell? ⟨gx,0,none⟩=some (.bool Q)∧S.cell? ⟨gx,1,none⟩=some (.slice G O J)∧S.cell? ⟨gy,0,none⟩=some (.bool R)∧S.cell? ⟨gy,1,none⟩=some (.slice H P L))
    (first|(with_reducible exact⟨s,t,x,y⟩))
    (first
     |(go_at_call 32;refine(ht _ i N).mono ?_;rintro e5 w5 ⟨v5,rfl,Z,F⟩;replace X:=X.be F;replace Y:=Y.be F;replace s:=X.cell 0 rfl;replace t:=X.cell 1 rfl;replace x:=Y.cell 0 rfl;replace y:=Y.cell 1 rfl;replace f:=f.be F;replace j:=j.be F;replace d:=aC d F)
     |(go_at_call 34;refine(hm _ _ _ f j).mono ?_;rintro e6 w6 ⟨v6,rfl,h6,M⟩;replace X:=X.be M;replace Y:=Y.be M;replace s:=X.cell 0 rfl;replace t:=X.cell 1 rfl;replace x:=Y.cell 0 rfl;replace y:=Y.cell 1 rfl;replace Z:=Z.be M;replace d:=aC d M)
     |(go_at_call 33;refine(ap _ _ _ (g.be d) Z h6).mono ?_;rintro e7 w7 ⟨v7,rfl,h7,ae⟩;replace X:=X.be ae;replace Y:=Y.be ae;replace s:=X.cell 0 rfl;replace t:=X.cell 1 rfl;replace x:=Y.cell 0 rfl;replace y:=Y.cell 1 rfl;replace d:=aC d ae)
     |(go_at_call 31;refine(ag _ _ (g.be d) h7).mono ?_;rintro e8 w8 ⟨v8,rfl,h8,af⟩;replace X:=X.be af;replace Y:=Y.be af;replace s:=X.cell 0 rfl;replace t:=X.cell 1 rfl;replace x:=Y.cell 0 rfl;replace y:=Y.cell 1 rfl;replace d:=aC d af))
   go_wp2;go_ret2;unfold x6;rw[if_pos r.out,av.out];unfold RetPoly;rw[ah.out];exact⟨_,rfl,h8,d⟩
end Go.Proofs.YtjgbleapffgbcaaGreatDoor
namespace Go.Proofs.YtjgbleapffgbcaaGreatDoor
open Sos Lib
variable{K:Nat}{q:Rat}
def iG(h:1<=K):RL K 0:=⟨by show nl 0<=K;rw[dO];omega,by show nl 1<=K;exact aH (cJ (by decide)) h⟩
def C7(h:RL K q):RL K (-q):=⟨by rw[show(-q).num= -q.num from rfl,azJ];exact h.1,h.2⟩
def bU{L:Nat}(h:RL K q)(a:K<=L):RL L q:=⟨aH h.1 a,aH h.2 a⟩
def JA{n k:Nat}(h:(decDigits n).length<=k)(d:k<=18):nl n<=1:=by
 refine cJ ?_;have a:=tI (oL n);rw[mQ] at a;have b:10^(decDigits n).length<=10^18:=cO (by decide) (by omega);have c:10^18<BN^1:=by decide
 omega
def lS{t:List UInt8}(h:cL t=some q)(c:t.length<=18):RL 1 q:=by
 have e:=tL h;have a:(cW q).length<=18:=by rw[e];exact c
 unfold cW at a;rw[dA,dA] at a;refine⟨JA (k:=18) (by omega) (by decide),?_⟩;by_cases b:q.den=1
 ·rw[b];exact cJ (by decide)
 ·rw[if_neg b,eG] at a;exact JA (k:=18) (by omega) (by decide)
def pI{a:List (List UInt8)}(h:∀l∈a,l.length<=18):∀q∈aU a,RL 1 q:=fun q c=>by
 obtain⟨l,b,rfl⟩:=List.mem_map.1 c;cases hr:cL l with
 |none=>exact iG (mC 1)
 |some q=>exact lS hr (h l b)
def cx1(h:RL K q):(cW q).length<=40*K+4:=by
 have a:=wR q.num.natAbs K h.1;have b:=wR q.den K h.2;unfold cW;rw[dA,dA];have c:(if q.num<0 then [(45:UInt8)] else []).length<=1:=by split<;>simp
 have d:(if q.den=1 then [] else (47:UInt8) :: decDigits q.den).length<=(decDigits q.den).length+1:=by split<;>simp
 omega
def gH(Q:List Rat):aU (Q.map cW)=Q:=by
 unfold aU;rw[List.map_map];have:((fun l=>(cL l).getD 0) ∘ cW)=id:=funext (fun q=>by show(cL (cW q)).getD 0=q;rw[SU];rfl);rw[this,List.map_id]
def dzQ(Q:List Rat):(Q.map cW).all rd=true:=by
 rw[List.all_eq_true];intro l a;obtain⟨q,_,rfl⟩:=List.mem_map.1 a;unfold rd;rw[SU];rfl
def dzR{Q:List Rat}(h:Q.length<=65)(a:aN Q):vl (Q.map cW)=true:=by
 unfold vl;rw[iQ,gH,cH];exact⟨h,dzQ Q,(JB Q).1 a⟩
end Go.Proofs.YtjgbleapffgbcaaGreatDoor
namespace Go.Proofs.YtjgbleapffgbcaaGreatDoor
open Go.RowKit Sos Tryz
def bqZ(x:Rat)(y:Value)(w:World)(k:RatAt w y x)(A:nl x.num.natAbs<=17592186044416):Calls prog 111 #[y] w (iF w (-x)):=by
 obtain⟨t,l,r,n,i,d,h,e,rfl⟩:=k.form;obtain⟨W,p,a,X,R⟩:=eL w [.bool t,.slice l r n,.bool i,.slice d h e] 76 [.bool false,.slice none 0 0,.bool false,.slice none 0 0] 76;have j:=aa X.g4 R.g4;go_enter func111,ntmps111;go_wp2_with fail;(try rw[p]);clear p;have hn:=(k.be a).num;have b:=(k.be a).den;replace hn:=hn.drew;replace b:=b.drew;replace X:=X.drew;replace R:=R.drew;replace a:=a.drew;replace j:=aa X.k4 R.g4;have B:w.1.size+1≠w.1.size:=by omega
 go_region_held3 (fun C=>C4 C w.1.size (.bool t) (.slice l r n) (.bool i) (.slice d h e))
  (first|(with_reducible exact X.k4)|((repeat (first|with_reducible exact X.k4|with_reducible refine kK B ?_))))
  (first
   |(go_at_call 88;refine(sQ _ _ _ hn A).mono ?_;rintro E G ⟨F,rfl,f,g⟩;obtain⟨u,m,s,o,rfl⟩:=f.form;replace X:=X.be g;replace R:=R.be g;replace j:=aa X.k4 R.g4;replace c:=Keep.be g;replace hn:=hn.ke c;replace b:=b.ke c;replace a:=aC a g))
 all_goals (
  go_wp2_with fail;obtain⟨D,q,R,a,c,z⟩:=R.put4 a (by omega) (.bool u) (.slice m s o) (.bool i) (.slice d h e) rfl rfl;replace X:=z X (by omega);replace f:=f.ke c;replace b:=b.ke c;rw[q];clear q;replace j:=aa X.k4 R.k4;exact aM (v:= .agg #[.bool u,.slice m s o,.bool i,.slice d h e]) (by simp[results,results111,go_sem,R.k4]) rfl ⟨_,rfl,RatAt.of f b rfl rfl,a⟩
 )
def cx0(x y:Rat)(V Z:Value)(w:World)(k:Glob w)(b:RatAt w V x)(c:RatAt w Z y)(K:Nat)(bx:RL K x)(r:RL K y)(G:20*K+60<=aJ):
  Calls prog 65 #[V,Z] w (iF w (x-y)):=by
 obtain⟨O,l,H,s,P,m,I,t,rfl⟩:=b.form;obtain⟨Q,n,J,z,S,o,L,A,rfl⟩:=c.form;rw[Rat.sub_eq_add_neg];have ad:=fun W u h=>bqZ y u W h (by have:=r.1;unfold aJ at G;omega);have ac:=fun W u v k h1 h2=>UW x (-y) u v W k h1 h2 K bx (C7 r) G;obtain⟨W,D,a,X,Y,R⟩:=gE w [.bool O,.slice l H s,.bool P,.slice m I t] 76 [.bool Q,.slice n J z,.bool S,.slice o L A] 76 [.bool false,.slice none 0 0,.bool false,.slice none 0 0] 76;have i:=aa X.g4 (aa Y.g4 R.g4);go_enter func65,ntmps65;go_wp2_with fail;(try rw[D]);clear D;replace b:=b.be a;replace c:=c.be a;replace b:=b.drew;replace c:=c.drew;replace X:=X.drew;replace Y:=Y.drew;replace R:=R.drew;replace a:=a.drew;replace i:=aa X.k4 (aa Y.k4 R.g4);have ae:w.1.size+1+1≠w.1.size:=by omega
 have af:w.1.size+1+1≠w.1.size+1:=by omega
 go_region_held3 (fun w'=>C4 w' w.1.size (.bool O) (.slice l H s) (.bool P) (.slice m I t)∧C4 w' (w.1.size+1) (.bool Q) (.slice n J z) (.bool S) (.slice o L A))
  (first|(with_reducible exact⟨X.k4,Y.k4⟩)|(refine⟨?_,?_⟩<;>(repeat (first|with_reducible exact X.k4|with_reducible exact Y.k4|with_reducible refine kK ae ?_|with_reducible refine kK af ?_))))
  (first
   |(go_at_call 111;refine(ad _ _ c).mono ?_;rintro e5 w5 ⟨v5,rfl,j,f⟩;obtain⟨s5,A5,k5,c5,s6,A6,k6,c6,rfl⟩:=j.form;replace X:=X.be f;replace Y:=Y.be f;replace R:=R.be f;replace i:=aa X.k4 (aa Y.k4 R.g4);replace d:=Keep.be f;replace b:=b.ke d;replace c:=c.ke d;(try replace e:=e.ke d);replace a:=aC a f)
   |(go_at_call 63;refine(ac _ _ _ (k.be a) b j).mono ?_;rintro e7 w7 ⟨v7,rfl,e,g⟩;obtain⟨T,p,M,B,U,q,N,C,rfl⟩:=e.form;replace X:=X.be g;replace Y:=Y.be g;replace R:=R.be g;replace i:=aa X.k4 (aa Y.k4 R.g4);replace d:=Keep.be g;replace b:=b.ke d;replace c:=c.ke d;(try replace j:=j.ke d);replace a:=aC a g))
 all_goals (
  go_wp2_with fail;obtain⟨W6,E,R,a,d,F⟩:=R.put4 a (by omega) (.bool T) (.slice p M B) (.bool U) (.slice q N C) rfl rfl;replace X:=F X (by omega);replace Y:=F Y (by omega);replace e:=e.ke d;rw[E];clear E;replace i:=aa X.k4 (aa Y.k4 R.k4);exact aM (v:= .agg #[.bool T,.slice p M B,.bool U,.slice q N C]) (by simp[results,results65,go_sem,R.k4]) rfl ⟨_,rfl,e,a⟩
 )
def UR(x y:Rat)(g h:Nat)(a:g=Nat.gcd x.num.natAbs y.den)(b:h=Nat.gcd y.num.natAbs x.den):
  (x*y).num=x.num.tdiv (g:Int)*y.num.tdiv (h:Int)∧((x*y).den:Int)=(x.den:Int).tdiv (h:Int)*(y.den:Int).tdiv (g:Int):=by
 subst a b;show(Rat.mul x y).num=_∧((Rat.mul x y).den:Int)=_
 unfold Rat.mul;refine⟨?_,?_⟩
 ·simp only[Int.divExact_eq_tdiv]
 ·simp only[Nat.divExact_eq_div];rw[<-Int.ofNat_tdiv,<-Int.ofNat_tdiv];simp
def US(w:World)(a b:Int)(e:Ending)(w':World):Prop:=∃v u,e= .returned (.tuple #[v,u])∧IntAt w' v a∧IntAt w' u b∧Below w.1.size w w'
def J6(n d:Int)(vn vd:Value)(w:World)(hG:Glob w)(hn:IntAt w vn n)(c:IntAt w vd d)(av:n≠0)(g:Nat)(A:g=Nat.gcd n.natAbs d.natAbs)(K:Nat)(U:nl n.natAbs<=K)(bd:nl d.natAbs<=K)(hK:10*K+10<=aJ):
  Calls prog 99 #[vn,vd] w (US w (n.tdiv g) (d.tdiv g)):=by
 obtain⟨D,r,B,t,rfl⟩:=hn.form;obtain⟨E,s,C,u,rfl⟩:=c.form;have N:(g:Int)≠0:=by
  have:=bzV d.natAbs (show 0<n.natAbs by omega);omega
 have au:nl g<=K:=by rw[A];exact wQ _ _ _ (by omega) U
 unfold aJ at hK;obtain⟨W,eW,a,X,Y,R,S⟩:=BL w [.bool D,.slice r B t] 60 [.bool E,.slice s C u] 60 [.bool false,.slice none 0 0] 60 [.bool false,.slice none 0 0] 60;have i:=aa X.g2 (aa Y.g2 (aa R.g2 S.g2));go_enter func99,ntmps99;go_wp2_with fail;(try rw[eW]);clear eW;replace hn:=hn.be a;replace c:=c.be a;refine(n6 d _ _ c (by omega)).mono ?_;rintro e3 w3 ⟨rfl,p⟩;replace X:=X.be p;replace Y:=Y.be p;replace R:=R.be p;replace S:=S.be p;replace i:=aa X.k2 (aa Y.k2 (aa R.g2 S.g2));replace b:=Keep.be p;replace hn:=hn.ke b;replace c:=c.ke b;replace a:=aC a p;by_cases h:d=1
 ·have z:decide (d=1)=true:=decide_eq_true h;have ad:g=1:=by rw[A,h];simp
  have T:Hid (n.tdiv g=n∧d.tdiv g=d):=by unfold Hid;rw[ad];exact⟨Int.tdiv_one n,Int.tdiv_one d⟩
  rw[z];clear z ad A N h;go_wp2_with fail;go_region
  all_goals (
   go_wp2_with fail;obtain⟨U0,x,R,a,b,e⟩:=R.put2 a (by omega) (.bool D) (.slice r B t) rfl rfl;replace X:=e X (by omega);replace Y:=e Y (by omega);replace S:=e S (by omega);replace hn:=hn.ke b;replace c:=c.ke b;obtain⟨W6,y,S,a,b,e⟩:=S.put2 a (by omega) (.bool E) (.slice s C u) rfl rfl;replace X:=e X (by omega);replace Y:=e Y (by omega);replace R:=e R (by omega);replace hn:=hn.ke b;replace c:=c.ke b;rw[x,y];clear x y;replace i:=aa X.k2 (aa Y.k2 (aa R.k2 S.k2));exact aM (v:= .tuple #[.agg #[.bool D,.slice r B t],.agg #[.bool E,.slice s C u]]) (by simp[results,results99,go_sem,R.k2,S.k2]) rfl ⟨_,_,rfl,by rw[T.out.1];exact hn,by rw[T.out.2];exact c,a.drew⟩
  )
 ·have z:decide (d=1)=false:=decide_eq_false h;rw[z];clear z h;go_wp2_with fail;refine(qF n d _ _ _ (hG.be a) hn c K U bd (by unfold aJ;omega)).mono ?_;rintro e4 L ⟨v4,rfl,f,q⟩;obtain⟨J,F,I,H,rfl⟩:=f.form;replace X:=X.be q;replace Y:=Y.be q;replace R:=R.be q;replace S:=S.be q;replace i:=aa X.k2 (aa Y.k2 (aa R.g2 S.g2));replace b:=Keep.be q;replace hn:=hn.ke b;replace c:=c.ke b;replace a:=aC a q;rw[<-A] at f;clear A;go_wp2_with fail;have ag:=X.lt;have ah:=Y.lt;have ae:=R.lt;have af:=S.lt;have ak:=a.size;obtain⟨w5,ac,o,G⟩:=bI L [.bool J,.slice F I H] 60;replace X:=X.be o;replace Y:=Y.be o;replace R:=R.be o;replace S:=S.be o;replace b:=Keep.be o;replace a:=aC a o;replace f:=f.ke b;replace hn:=hn.ke b;replace c:=c.ke b;rw[ac];clear ac;replace i:=aa X.k2 (aa Y.k2 (aa R.g2 (aa S.g2 G.k2)));have ai:=fun W h M=>mZ n g (.agg #[.bool D,.slice r B t]) (.agg #[.bool J,.slice F I H]) W h M N (by show nl n.natAbs+4*nl g+4<=_;omega);have aj:=fun W h M=>mZ d g (.agg #[.bool E,.slice s C u]) (.agg #[.bool J,.slice F I H]) W h M N (by show nl d.natAbs+4*nl g+4<=_;omega);replace hn:=hn.drew;replace c:=c.drew;replace f:=f.drew;replace X:=X.drew;replace Y:=Y.drew;replace R:=R.drew;replace S:=S.drew;replace G:=G.drew;replace a:=a.drew;replace i:=aa X.k2 (aa Y.k2 (aa R.g2 (aa S.g2 G.k2)));have am:w.1.size+1+1≠w.1.size:=by omega
  have an:w.1.size+1+1≠w.1.size+1:=by omega
  have al:w.1.size+1+1≠L.1.size:=by omega
  have ap:w.1.size+1+1+1≠w.1.size:=by omega
  have aq:w.1.size+1+1+1≠w.1.size+1:=by omega
  have ao:w.1.size+1+1+1≠L.1.size:=by omega
  go_region_held3 (fun O=>C2 O w.1.size (.bool D) (.slice r B t)∧C2 O (w.1.size+1) (.bool E) (.slice s C u)∧C2 O L.1.size (.bool J) (.slice F I H))
   (first|(with_reducible exact⟨X.k2,Y.k2,G.k2⟩)|(refine⟨?_,?_,?_⟩<;>(repeat (first|with_reducible exact X.k2|with_reducible exact Y.k2|with_reducible exact G.k2|with_reducible refine fQ am ?_|with_reducible refine fQ an ?_|with_reducible refine fQ al ?_|with_reducible refine fQ ap ?_|with_reducible refine fQ aq ?_|with_reducible refine fQ ao ?_))))
   (first
    |(go_at_call 89;(with_reducible refine(ai _ hn f).mono ?_);rintro e7 w7 ⟨v7,rfl,j,l⟩;obtain⟨s7,P,k7,V,rfl⟩:=j.form;replace X:=X.be l;replace Y:=Y.be l;replace R:=R.be l;replace S:=S.be l;replace G:=G.be l;replace i:=aa X.k2 (aa Y.k2 (aa R.g2 (aa S.g2 G.k2)));replace b:=Keep.be l;replace hn:=hn.ke b;replace c:=c.ke b;replace f:=f.ke b;(try replace k:=k.ke b);replace a:=aC a l)
    |(go_at_call 89;(with_reducible refine(aj _ c f).mono ?_);rintro e8 w8 ⟨v8,rfl,k,m⟩;obtain⟨s8,Q,k8,Z,rfl⟩:=k.form;replace X:=X.be m;replace Y:=Y.be m;replace R:=R.be m;replace S:=S.be m;replace G:=G.be m;replace i:=aa X.k2 (aa Y.k2 (aa R.g2 (aa S.g2 G.k2)));replace b:=Keep.be m;replace hn:=hn.ke b;replace c:=c.ke b;replace f:=f.ke b;(try replace j:=j.ke b);replace a:=aC a m))
  all_goals (
   go_wp2_with fail;have ag:=X.lt;have ah:=Y.lt;have ae:=R.lt;have af:=S.lt;have ar:=G.lt;have ak:=a.size;obtain⟨U0,x,R,a,b,e⟩:=R.put2 a (by omega) (.bool s7) (.slice P k7 V) rfl rfl;replace X:=e X (by omega);replace Y:=e Y (by omega);replace S:=e S (by omega);replace G:=e G (by omega);replace j:=j.ke b;replace k:=k.ke b;obtain⟨W6,y,S,a,b,e⟩:=S.put2 a (by omega) (.bool s8) (.slice Q k8 Z) rfl rfl;replace X:=e X (by omega);replace Y:=e Y (by omega);replace R:=e R (by omega);replace G:=e G (by omega);replace j:=j.ke b;replace k:=k.ke b;rw[x,y];clear x y;replace i:=aa X.k2 (aa Y.k2 (aa R.k2 (aa S.k2 G.k2)));exact aM (v:= .tuple #[.agg #[.bool s7,.slice P k7 V],.agg #[.bool s8,.slice Q k8 Z]]) (by simp[results,results99,go_sem,R.k2,S.k2]) rfl ⟨_,_,rfl,j,k,a⟩
  )
def UT(x y:Rat)(vx vy:Value)(w:World)(hG:Glob w)(hx:RatAt w vx x)(hy:RatAt w vy y)(j:¬(x.den=1∧y.den=1))(ap:y.num≠0)(K:Nat)(bx:RL K x)(bY:RL K y)(hK:10*K+20<=aJ):
  Calls prog 45 #[vx,vy] w (iF w (x*y)):=by
 obtain⟨P,B,N,F,s2,U,k2,c2,rfl⟩:=hx.form;obtain⟨Q,C,O,G,s4,V,k4,c4,rfl⟩:=hy.form;unfold aJ at hK;obtain⟨g,hg⟩:∃g,g=Nat.gcd x.num.natAbs y.den:=⟨_,rfl⟩;obtain⟨h,hh⟩:∃h,h=Nat.gcd y.num.natAbs x.den:=⟨_,rfl⟩;have HP:=aB (UR x y g h hg hh);have⟨ar,au⟩:=bx;have⟨av,aw⟩:=bY;have a8:=fun W h=>pD x (.agg #[.bool P,.slice B N F,.bool s2,.slice U k2 c2]) W h (by omega);have a9:=fun W h=>pD y (.agg #[.bool Q,.slice C O G,.bool s4,.slice V k4 c4]) W h (by omega);have a6:=fun W u hG j n an=>J6 x.num y.den (.agg #[.bool P,.slice B N F]) u W hG j n an g hg K ar aw (by unfold aJ;omega);have a7:=fun W u hG j n an=>J6 y.num x.den (.agg #[.bool Q,.slice C O G]) u W hG j n an h hh K av au (by unfold aJ;omega);have cm:=jN x.num g K ar;have cn:=jN y.num h K av;have bm:=jN (y.den:Int) g K aw;have bn:=jN (x.den:Int) h K au;have cq:=mY x;have cr:=mY y;have aj:bS x=0->bS y≠0:=fun e1 e2=>j ⟨fV.1 e1,fV.1 e2⟩;have bf:x.num=0->x*y=0:=fun h=>by rw[Rat.num_eq_zero.1 h,aqQ]
 have HZ:=aB bf;clear bf j hg hh;obtain⟨W,eW,c,X,Y,R⟩:=gE w [.bool P,.slice B N F,.bool s2,.slice U k2 c2] 76 [.bool Q,.slice C O G,.bool s4,.slice V k4 c4] 76 [.bool false,.slice none 0 0,.bool false,.slice none 0 0] 76;have l:=aa X.g4 (aa Y.g4 R.g4);go_enter func45,ntmps45;go_wp2_with fail;(try rw[eW]);clear eW;have o:=(hx.be c).num;have p:=(hy.be c).num;generalize x.num.tdiv g=a1 at *;generalize y.num.tdiv h=a2 at *;generalize (y.den:Int).tdiv g=b1 at *;generalize (x.den:Int).tdiv h=b2 at *;refine(g9 x.num _ _ o (by omega)).mono ?_;rintro e5 w5 ⟨rfl,ae⟩;replace X:=X.be ae;replace Y:=Y.be ae;replace R:=R.be ae;replace l:=aa X.k4 (aa Y.k4 R.g4);replace f:=Keep.be ae;replace o:=o.ke f;replace p:=p.ke f;replace c:=aC c ae;by_cases J:x.num=0
 ·have HQ:=aB (HZ.out J);rw[show decide (x.num=0)=true from decide_eq_true J];clear J;go_wp2_with fail;obtain⟨W6,ad,R,c,f,ff⟩:=R.put4 c (by omega) (.bool false) (.slice none 0 0) (.bool false) (.slice none 0 0) rfl rfl;replace X:=ff X (by omega);replace Y:=ff Y (by omega);rw[ad];clear ad;replace l:=aa X.k4 (aa Y.k4 R.k4);exact aM (v:= .agg #[.bool false,.slice none 0 0,.bool false,.slice none 0 0]) (by simp[results,results45,go_sem,R.k4]) rfl ⟨_,rfl,RatAt.of (IntAt.zero _) (IntAt.zero _) (by rw[HQ.out];rfl) (by rw[HQ.out];rfl),c⟩
 ·rw[show decide (x.num=0)=false from decide_eq_false J];go_wp2_with fail;refine(g9 y.num _ _ p (by omega)).mono ?_;rintro e6 w6 ⟨rfl,af⟩;replace X:=X.be af;replace Y:=Y.be af;replace R:=R.be af;replace l:=aa X.k4 (aa Y.k4 R.g4);replace f:=Keep.be af;replace o:=o.ke f;replace p:=p.ke f;replace c:=aC c af;rw[show decide (y.num=0)=false from decide_eq_false ap];have bj:Hid (x.num≠0):=J;have bk:Hid (y.num≠0):=ap;have L:=(hx.be c).den;have M:=(hy.be c).den;clear J ap o p;generalize bS x=dx at *;generalize bS y=dy at *;go_upto_region 3 with fail;go_cut [25] (fun b7 k=>b7= .bool false∧Bx k w.1.size [.bool P,.slice B N F,.bool s2,.slice U k2 c2] 76∧Bx k (w.1.size+1) [.bool Q,.slice C O G,.bool s4,.slice V k4 c4] 76∧Bx k (w.1.size+1+1) [.bool false,.slice none 0 0,.bool false,.slice none 0 0] 76∧Below w.1.size w k)
  case first=>
   go_wp2_with fail;refine(g9 dx _ _ L (by omega)).mono ?_;rintro e7 w7 ⟨rfl,ag⟩;replace X:=X.be ag;replace Y:=Y.be ag;replace R:=R.be ag;replace l:=aa X.k4 (aa Y.k4 R.g4);replace f:=Keep.be ag;replace L:=L.ke f;replace M:=M.ke f;replace c:=aC c ag;by_cases e:dx=0
   ·rw[show decide (dx=0)=true from decide_eq_true e];have bb:=aj e;clear e aj;go_wp2_with fail;refine(g9 dy _ _ M (by omega)).mono ?_;rintro e8 w8 ⟨rfl,ah⟩;replace X:=X.be ah;replace Y:=Y.be ah;replace R:=R.be ah;replace l:=aa X.k4 (aa Y.k4 R.g4);replace f:=Keep.be ah;replace L:=L.ke f;replace M:=M.ke f;replace c:=aC c ah;rw[show decide (dy=0)=false from decide_eq_false bb];clear bb;go_wp2;go_meet;exact⟨rfl,X,Y,R,c⟩
   ·rw[show decide (dx=0)=false from decide_eq_false e];clear e aj;go_wp2;go_meet;exact⟨rfl,X,Y,R,c⟩
  case rest=>
   clear X Y R c L M aj l;obtain⟨rfl,X,Y,R,c⟩:=hcut;generalize wc=q at *;have ao:=hx.be c;have aq:=hy.be c;have am:=hG.be c;have o:=ao.num;have p:=aq.num;have l:=True.intro;replace l:=aa X.k4 (aa Y.k4 R.g4);go_wp2_with fail;have ci:=X.lt;have ck:=Y.lt;go_cut [5,6] (fun s5 s6 k=>∃s t,s5= .pointer (some ⟨s,0,none⟩)∧s6= .pointer (some ⟨t,0,none⟩)∧q.1.size<=s∧q.1.size<=t∧s≠t∧IntBx k s (a1)∧IntBx k t (b1)∧Below q.1.size q k)
   case first=>
    go_region_held3 (fun m=>C4 m w.1.size (.bool P) (.slice B N F) (.bool s2) (.slice U k2 c2)∧C4 m (w.1.size+1) (.bool Q) (.slice C O G) (.bool s4) (.slice V k4 c4))
     (with_reducible exact⟨X.up.k4,Y.up.k4⟩)
     (first
      |(go_at_call 54;refine(a9 _ aq.up).mono ?_;rintro cy bg ⟨ea,rfl,ak,a0⟩;have b3:=a0.size;(try simp at b3);have:=St.mk a0;obtain⟨d4,b8,dt,cs,rfl⟩:=ak.form)
      |(go_at_call 99;refine(a6 _ _ am.up o.up ak.up bj.out).mono ?_;rintro cz S ⟨eb,u14,rfl,i,H,a3⟩;have b4:=a3.size;(try simp at b4);have:=St.mk a3;have D:=Up.out (a:=q) (b:=S);have d2:=D.size;have de:=ak.up (b:=S);(try have⟨_,_,_,_,_⟩:=nG q S);(try have⟨_,_,_,_,_⟩:=pH q S);(try have⟨_,_,_,_,_⟩:=nG bg S);(try have⟨_,_,_,_,_⟩:=pH bg S);obtain⟨sp,Ap,kp,cp,rfl⟩:=i.form;obtain⟨d5,b9,du,ct,rfl⟩:=H.form))
    all_goals (
     go_wp2;go_meet;refine⟨_,_,rfl,rfl,by omega,by omega,by omega,?_⟩
     first
      |(with_reducible exact tR i H D)
      |(with_reducible exact xF i H D)
      |(with_reducible exact xG i H (zb ‹_›) D (by omega))
      |(with_reducible exact xH (zb ‹_›) i H D (by omega))
      |(with_reducible exact x3 (zb ‹_›) (zb ‹_›) i H (by omega) D (by omega) (by omega)))
   case rest=>
    obtain⟨s,t,rfl,rfl,dh,di,dm,I5,I6,d⟩:=hcut;generalize wc=r at *;have X8:=X.be d;have Y8:=Y.be d;have R8:=R.be d;have ba:=ao.be d;have az:=am.be d;have bc:=p.be d;replace c:=aC c d;have ds:=d.size;have dq:=X.lt;have dr:=Y.lt;have dp:=R.lt;obtain⟨s5,A5,k5,c5,Z,i5⟩:=I5;obtain⟨s6,A6,k6,c6,P6,i6⟩:=I6;clear X Y R ao aq am o p d a6 a9 l;go_wp2_with fail;have cj:=Y8.lt;have ch:=X8.lt;go_cut [7,8] (fun s7 s8 k=>∃z A,s7= .pointer (some ⟨z,0,none⟩)∧s8= .pointer (some ⟨A,0,none⟩)∧r.1.size<=z∧r.1.size<=A∧z≠A∧IntBx k z (a2)∧IntBx k A (b2)∧Below r.1.size r k)
    case first=>
     go_region_held3 (fun m=>C4 m (w.1.size+1) (.bool Q) (.slice C O G) (.bool s4) (.slice V k4 c4)∧C4 m w.1.size (.bool P) (.slice B N F) (.bool s2) (.slice U k2 c2))
      (with_reducible exact⟨Y8.up.k4,X8.up.k4⟩)
      (first
       |(go_at_call 54;refine(a8 _ ba.up).mono ?_;rintro c0 bh ⟨ec,rfl,al,a4⟩;have b5:=a4.size;(try simp at b5);have:=St.mk a4;obtain⟨d6,cc,dv,cu,rfl⟩:=al.form)
       |(go_at_call 99;refine(a7 _ _ az.up bc.up al.up bk.out).mono ?_;rintro c9 T ⟨ed,u16,rfl,i,I,a5⟩;have b6:=a5.size;(try simp at b6);have:=St.mk a5;have E:=Up.out (a:=r) (b:=T);have d3:=E.size;have df:=al.up (b:=T);(try have⟨_,_,_,_,_⟩:=nG r T);(try have⟨_,_,_,_,_⟩:=pH r T);(try have⟨_,_,_,_,_⟩:=nG bh T);(try have⟨_,_,_,_,_⟩:=pH bh T);obtain⟨sp,Ap,kp,cp,rfl⟩:=i.form;obtain⟨d7,cd,dw,cv,rfl⟩:=I.form))
     all_goals (
      go_wp2;go_meet;refine⟨_,_,rfl,rfl,by omega,by omega,by omega,?_⟩
      first
       |(with_reducible exact tR i I E)
       |(with_reducible exact xF i I E)
       |(with_reducible exact xG i I (zb ‹_›) E (by omega))
       |(with_reducible exact xH (zb ‹_›) i I E (by omega))
       |(with_reducible exact x3 (zb ‹_›) (zb ‹_›) i I (by omega) E (by omega) (by omega)))
    case rest=>
     obtain⟨z,A,rfl,rfl,dj,dk,dn,I7,I8,d⟩:=hcut;generalize wc=W9 at *;replace Z:=Z.be d;replace P6:=P6.be d;have R9:=R8.be d;replace i5:=i5.be d;replace i6:=i6.be d;have dl:=Z.lt;replace c:=aC c d;obtain⟨s7,A7,k7,c7,P7,i7⟩:=I7;obtain⟨s8,A8,k8,c8,P8,i8⟩:=I8;clear X8 Y8 R8 ba az bc a7 a8 d;have bz:=fun W j n=>jB a1 a2 (.agg #[.bool s5,.slice A5 k5 c5]) (.agg #[.bool s7,.slice A7 k7 c7]) W j n (by omega);have b0:=fun W j n=>jB b2 b1 (.agg #[.bool s8,.slice A8 k8 c8]) (.agg #[.bool s6,.slice A6 k6 c6]) W j n (by omega);have co:=gT b2 b1 K K bn bm;have bw:=fun W u v j n=>vK (x*y) (a1*a2) (b2*b1) u v W j n HP.out.1 HP.out.2 (by omega);go_wp2_with fail;have bo:w.1.size+1+1≠s:=by omega
     have bp:w.1.size+1+1≠t:=by omega
     have bq:w.1.size+1+1≠z:=by omega
     have br:w.1.size+1+1≠A:=by omega
     go_region_held3 (fun m=>C2 m s (.bool s5) (.slice A5 k5 c5)∧C2 m t (.bool s6) (.slice A6 k6 c6)∧C2 m z (.bool s7) (.slice A7 k7 c7)∧C2 m A (.bool s8) (.slice A8 k8 c8))
      (first|(with_reducible exact⟨Z.up.k2,P6.up.k2,P7.up.k2,P8.up.k2⟩)|(with_reducible exact⟨(Z.up.far4 bo).k2,(P6.up.far4 bp).k2,(P7.up.far4 bq).k2,(P8.up.far4 br).k2⟩))
      (first
       |(go_at_call 34;(with_reducible refine(bz _ i5.up i7.up).mono ?_);rintro da eh ⟨ee,rfl,ax,bt⟩;have:=St.mk bt;obtain⟨d8,ce,d0,cw,rfl⟩:=ax.form)
       |(go_at_call 34;(with_reducible refine(b0 _ i8.up i6.up).mono ?_);rintro db ei ⟨ef,rfl,ay,bu⟩;have:=St.mk bu;obtain⟨d9,cg,d1,cx,rfl⟩:=ay.form)
       |(go_at_call 90;refine(bw _ _ _ ax.up ay.up).mono ?_;rintro dc bi ⟨eg,rfl,ai,bv⟩;have:=St.mk bv;have bs:=Up.out (a:=W9) (b:=bi);have ac:=R9.up (b:=bi);have cl:=ac.g4;obtain⟨sa,Aa,ka,ca,sb,Ab,kb,cb,rfl⟩:=ai.form))
     all_goals (
      go_wp2_with fail;replace c:=aC c bs;obtain⟨W6,ad,ac,c,f,ff⟩:=ac.put4 c (by omega) (.bool sa) (.slice Aa ka ca) (.bool sb) (.slice Ab kb cb) rfl rfl;replace ai:=ai.ke f;rw[ad];clear ad;replace l:=ac.k4;exact aM (v:= .agg #[.bool sa,.slice Aa ka ca,.bool sb,.slice Ab kb cb]) (by simp[results,results45,go_sem,ac.k4]) rfl ⟨_,rfl,ai,c⟩
     )
end Go.Proofs.YtjgbleapffgbcaaGreatDoor
namespace Go.Proofs.YtjgbleapffgbcaaGreatDoor
open Sos
def pK{x:Rat}(h:0<x):0<x.num:=by
 have a:=Rat.num_nonneg.2 (az6 h);have b:x.num≠0:=fun e=>by rw[Rat.num_eq_zero.1 e] at h;exact absurd h (by decide)
 omega
def iY(x:Rat):x<0∨x=0∨0<x:=by
 by_cases a:x=0
 ·exact .inr (.inl a)
 ·by_cases b:0<x
  ·exact .inr (.inr b)
  ·exact .inl (by grind)
def fS(x:Rat):(0<x->x.num.sign=1)∧(x<0->x.num.sign= -1):=⟨fun h=>aqI (pK h),fun h=>aqT (by have:=pK (show 0< -x by grind);rw[Rat.neg_num] at this;omega)⟩
def tU{f:Rat}(a:0<f)(x:Rat):(f*x).num.sign=x.num.sign:=by
 rcases iY x with h|h|h
 ·have:f*x<0:=by have:=azA a (show 0< -x by grind);grind
  rw[(fS _).2 this,(fS _).2 h]
 ·rw[h,dU]
 ·rw[(fS _).1 (azA a h),(fS _).1 h]
def xJ(n:Int):((n:Rat)).num.sign=n.sign:=by rw[Rat.num_intCast]
end Go.Proofs.YtjgbleapffgbcaaGreatDoor
namespace Go.Proofs.YtjgbleapffgbcaaGreatDoor
open Go.RowKit Sos Tryz
variable{E F n:Int}{x y:Rat}{ns:List Int}{a b:List (List UInt8)}{t:List UInt8}
def IntAt.abs{w:World}{s:Bool}{u:Value}(h:IntAt w (.agg #[.bool s,u]) n):IntAt w (.agg #[.bool false,u]) (n.natAbs:Int):=by
 obtain⟨b,e,h⟩:=h;injection e with e;have a:=congrArg Array.toList e;simp only[List.cons.injEq] at a;obtain⟨-,rfl, -⟩:=a;exact⟨u,by rw[show decide (((n.natAbs:Nat):Int)<0)=false by simp],by rw[dD];exact h⟩
def J3(x:Int)(i:Value)(w:World)(h:IntAt w i x):Calls prog 38 #[i] w (dW w (x.natAbs:Int)):=by
 obtain⟨m,c,e,d,rfl⟩:=h.form;have a:=h.abs;obtain⟨W,f,b,X,R⟩:=eL w [.bool m,.slice c e d] 60 [.bool false,.slice none 0 0] 60;have j:=aa X.g2 R.g2;go_enter func38,ntmps38;go_wp2_with fail;(try rw[f]);clear f;replace a:=a.be b;obtain⟨n,g,R,b,l,k⟩:=R.put2 b (by omega) (.bool false) (.slice c e d) rfl rfl;replace X:=k X (by omega);replace a:=a.ke l;rw[g];clear g;replace j:=aa X.k2 R.k2;exact aM (v:= .agg #[.bool false,.slice c e d]) (by simp[results,results38,go_sem,R.k2]) rfl ⟨_,rfl,a,b⟩
def UN(x y:Int):(x<0->y<0->bZ (y.natAbs:Int) (x.natAbs:Int)=bZ x y)∧(x<0->¬y<0->bZ x y= -1)∧(¬x<0->y<0->bZ x y=1)∧(¬x<0->¬y<0->bZ (x.natAbs:Int) (y.natAbs:Int)=bZ x y):=by
 refine⟨fun h k=> ?_,fun h k=>jL (by omega),fun h k=>mO (by omega),fun h k=> ?_⟩
 ·have a:=kJ (y.natAbs:Int) (x.natAbs:Int);have b:=kJ x y;omega
 ·rw[show((x.natAbs:Nat):Int)=x by omega,show((y.natAbs:Nat):Int)=y by omega]
def BX(x y:Int)(D E:Value)(w:World)(G:IntAt w D x)(H:IntAt w E y)(B:nl x.natAbs<=17592186044416)(A:nl y.natAbs<=17592186044416):
  Calls prog 96 #[D,E] w (eO w (bZ x y)):=by
 obtain⟨K,rfl,v⟩:=G;obtain⟨L,rfl,z⟩:=H;obtain⟨l,p2,m,n⟩:=UN x y;obtain⟨I,f⟩:∃s,decide (x<0)=s:=⟨_,rfl⟩;obtain⟨C,d⟩:∃s,decide (y<0)=s:=⟨_,rfl⟩;rw[f,d];obtain⟨g,j,rfl, -⟩:=id v;obtain⟨i,k,rfl, -⟩:=id z;obtain⟨R,o⟩:∃R,bZ x y=R:=⟨_,rfl⟩;rw[o] at l p2 m n⊢;have p:=fun W h t=>hO y.natAbs x.natAbs (.slice i (nl y.natAbs) k) (.slice g (nl x.natAbs) j) W h t A B;have q:=fun W h t=>hO x.natAbs y.natAbs (.slice g (nl x.natAbs) j) (.slice i (nl y.natAbs) k) W h t B A;cases I with
 |true=>
  have e:x<0:=of_decide_eq_true f;cases C with
  |true=>
   have c:y<0:=of_decide_eq_true d;rw[l e c] at p;clear l p2 m n q f d o e c;obtain⟨W,b,a,X,Y⟩:=eL w [.bool true,.slice g (nl x.natAbs) j] 60 [.bool true,.slice i (nl y.natAbs) k] 60;have r:=aa X.g2 Y.g2;go_enter func96,ntmps96;go_wp2_with fail;(try rw[b]);clear b;refine(p _ (z.be a) (v.be a)).mono ?_;rintro F J ⟨rfl,u⟩;go_wp2;go_ret;exact⟨rfl,aC a u⟩
  |false=>
   have c:¬y<0:=of_decide_eq_false d;obtain rfl:=p2 e c;clear l p2 m n p q f d o e c;obtain⟨W,b,a,X,Y⟩:=eL w [.bool true,.slice g (nl x.natAbs) j] 60 [.bool false,.slice i (nl y.natAbs) k] 60;have r:=aa X.g2 Y.g2;go_enter func96,ntmps96;go_wp2_with fail;(try rw[b]);clear b;go_ret;exact⟨rfl,a⟩
 |false=>
  have e:¬x<0:=of_decide_eq_false f;cases C with
  |true=>
   have c:y<0:=of_decide_eq_true d;obtain rfl:=m e c;clear l p2 m n p q f d o e c;obtain⟨W,b,a,X,Y⟩:=eL w [.bool false,.slice g (nl x.natAbs) j] 60 [.bool true,.slice i (nl y.natAbs) k] 60;have r:=aa X.g2 Y.g2;go_enter func96,ntmps96;go_wp2_with fail;(try rw[b]);clear b;go_ret;exact⟨rfl,a⟩
  |false=>
   have c:¬y<0:=of_decide_eq_false d;rw[n e c] at q;clear l p2 m n p f d o e c;obtain⟨W,b,a,X,Y⟩:=eL w [.bool false,.slice g (nl x.natAbs) j] 60 [.bool false,.slice i (nl y.natAbs) k] 60;have r:=aa X.g2 Y.g2;go_enter func96,ntmps96;go_wp2_with fail;(try rw[b]);clear b;refine(q _ (v.be a) (z.be a)).mono ?_;rintro F J ⟨rfl,u⟩;go_wp2;go_ret;exact⟨rfl,aC a u⟩
def J4(x:Rat)(d:Value)(w:World)(c:RatAt w d x)(g:nl x.num.natAbs<=17592186044416):
  Calls prog 101 #[d] w (eO w x.num.sign):=by
 obtain⟨m,e,k,h,n,f,l,i,rfl⟩:=c.form;obtain⟨W,b,a,X⟩:=bI w [.bool m,.slice e k h,.bool n,.slice f l i] 76;have o:=X.g4;go_enter func101,ntmps101;go_wp2_with fail;(try rw[b]);clear b;have hn:=(c.be a).num;refine(qG _ _ _ hn g).mono ?_;rintro p q ⟨rfl,j⟩;go_wp2;go_ret;exact⟨rfl,aC a j⟩
def J5(x y:Rat):bZ (x.num*y.den) (y.num*x.den)=(x-y).num.sign:=by
 rcases iY (x-y) with h|h|h
 ·have:x<y:=by grind
  rw[(fS _).2 h,jL ((Rat.lt_iff x y).1 this)]
 ·have:x=y:=by grind
  rw[h,this,wE];rfl
 ·have:y<x:=by grind
  rw[(fS _).1 h,mO ((Rat.lt_iff y x).1 this)]
def UO(a:x.den=1)(b:y.den=1):bZ x.num y.num=(x-y).num.sign:=by
 have:=J5 x y;rwa [a,b,show((1:Nat):Int)=1 from rfl,bx7,bx7] at this
def xB(h:x<0):x.num<0:=by have:=pK (show 0< -x by grind);rw[Rat.neg_num] at this;omega
def UP(h:x.num.sign≠y.num.sign):bZ x.num y.num=(x-y).num.sign:=by
 rcases iY x with a|a|a<;>rcases iY y with b|b|b
 ·rw[(fS x).2 a,(fS y).2 b] at h;exact absurd rfl h
 ·rw[b] at *;rw[show Rat.num 0=0 from rfl];rw[(fS _).2 (show x-0<0 by grind),jL (xB a)]
 ·have:=xB a;have:=pK b
  rw[(fS _).2 (show x-y<0 by grind),jL (by omega)]
 ·rw[a] at *;rw[show Rat.num 0=0 from rfl];rw[(fS _).1 (show 0<0-y by grind),mO (xB b)]
 ·rw[a,b] at h;exact absurd rfl h
 ·rw[a] at *;rw[show Rat.num 0=0 from rfl];rw[(fS _).2 (show 0-y<0 by grind),jL (pK b)]
 ·have:=pK a;have:=xB b
  rw[(fS _).1 (show 0<x-y by grind),mO (by omega)]
 ·rw[b] at *;rw[show Rat.num 0=0 from rfl];rw[(fS _).1 (show 0<x-0 by grind),mO (pK a)]
 ·rw[(fS x).1 a,(fS y).1 b] at h;exact absurd rfl h
def BY(x y:Rat)(vx vy:Value)(w:World)(d:RatAt w vx x)(e:RatAt w vy y)(K:Nat)(bx:RL K x)(bY:RL K y)(hK:4*K+8<=17592186044416):
  Calls prog 48 #[vx,vy] w (eO w (x-y).num.sign):=by
 obtain⟨I,l,G,n,Z,L,S,N,rfl⟩:=d.form;obtain⟨J,m,H,o,s4,M,T,O,rfl⟩:=e.form;have⟨ap,aq⟩:=bx;have⟨ar,au⟩:=bY;have C:=d.den;have E:=e.den;have D:=d.num;have F:=e.num;have av:=mY x;have aw:=mY y;have m1:=gT x.num (y.den:Int) _ _ ap (show nl (y.den:Int).natAbs<=K from au);have m2:=gT y.num (x.den:Int) _ _ ar (show nl (x.den:Int).natAbs<=K from aq);have zx:=fun W h=>g9 (bS x) (.agg #[.bool Z,.slice L S N]) W h (by omega);have k:=fun W h=>g9 (bS y) (.agg #[.bool s4,.slice M T O]) W h (by omega);have t:=fun W h=>J4 x (.agg #[.bool I,.slice l G n,.bool Z,.slice L S N]) W h (by omega);have z:=fun W h=>J4 y (.agg #[.bool J,.slice m H o,.bool s4,.slice M T O]) W h (by omega);have P:=fun W h=>pD x (.agg #[.bool I,.slice l G n,.bool Z,.slice L S N]) W h (by omega);have Q:=fun W h=>pD y (.agg #[.bool J,.slice m H o,.bool s4,.slice M T O]) W h (by omega);have U:=fun W u h A=>jB x.num (y.den:Int) (.agg #[.bool I,.slice l G n]) u W h A (by show nl x.num.natAbs+nl y.den<=_;omega);have V:=fun W u h A=>jB y.num (x.den:Int) (.agg #[.bool J,.slice m H o]) u W h A (by show nl y.num.natAbs+nl x.den<=_;omega);have s:=fun W u v h A=>BX (x.num*y.den) (y.num*x.den) u v W h A (by omega) (by omega);have g:=fun W h A=>BX x.num y.num (.agg #[.bool I,.slice l G n]) (.agg #[.bool J,.slice m H o]) W h A (by omega) (by omega);rw[J5] at s;obtain⟨p,hp⟩:∃p,decide (bS x=0)=p:=⟨_,rfl⟩;obtain⟨q,hq⟩:∃q,decide (bS y=0)=q:=⟨_,rfl⟩;rw[hp] at zx;rw[hq] at k;have hI:p=true->q=true->bZ x.num y.num=(x-y).num.sign:=fun h1 h2=>UO (fV.1 (of_decide_eq_true (hp.trans h1))) (fV.1 (of_decide_eq_true (hq.trans h2)));have hS:x.num.sign≠y.num.sign->bZ x.num y.num=(x-y).num.sign:=UP;obtain⟨r,hr⟩:∃r,(x.num.sign != y.num.sign)=r:=⟨_,rfl⟩;have B:r=true->bZ x.num y.num=(x-y).num.sign:=fun h=>hS (by rw[h] at hr;simpa using hr);unfold dW at P Q U V;unfold eO at t z s g;generalize (x-y).num.sign=R at *;generalize x.num.sign=sx at *;generalize y.num.sign=sy at *;clear hS bx bY ap aq ar au av aw m1 m2 hp hq;obtain⟨W,eW,f,X,Y⟩:=eL w [.bool I,.slice l G n,.bool Z,.slice L S N] 76 [.bool J,.slice m H o,.bool s4,.slice M T O] 76;have cM:=aa X.g4 Y.g4;go_enter func48,ntmps48;go_wp2_with fail;(try rw[eW]);clear eW;replace d:=d.be f;replace e:=e.be f;replace C:=C.be f;replace E:=E.be f;replace D:=D.be f;replace F:=F.be f;cases p with
 |false=>
  clear hI;cases r with
  |true=>
   rw[B rfl] at g;clear B k P Q U V s;have cX:=X.k4;have cY:=Y.k4
   first
    |(go_region_with (first
      |(go_at_call 50;(first|(with_reducible refine(zx _ C.up).mono ?_)|(with_reducible refine(k _ E.up).mono ?_));rintro e5 a ⟨rfl,i⟩;have:=St.mk i;have ad:=(X.up (b:=a)).k4;have af:=(Y.up (b:=a)).k4)
      |(go_at_call 101;(first|(with_reducible refine(t _ d.up).mono ?_)|(with_reducible refine(z _ e.up).mono ?_));rintro e6 c ⟨rfl,j⟩;have:=St.mk j;have ae:=(X.up (b:=c)).k4;have ag:=(Y.up (b:=c)).k4)))
    |fail
   all_goals (
    go_wp2_with fail;refine(g _ D.up F.up).mono ?_;rintro e7 w7 ⟨rfl,ac⟩;have:=St.mk ac;go_wp2;go_ret;exact⟨rfl,bJ (b:=w7) f⟩)
  |false=>
   clear B k g;have cX:=X.k4;have cY:=Y.k4
   first
    |(go_region_with (first
      |(go_at_call 50;(first|(with_reducible refine(zx _ C.up).mono ?_)|(with_reducible refine(k _ E.up).mono ?_));rintro e5 a ⟨rfl,i⟩;have:=St.mk i;have ad:=(X.up (b:=a)).k4;have af:=(Y.up (b:=a)).k4)
      |(go_at_call 101;(first|(with_reducible refine(t _ d.up).mono ?_)|(with_reducible refine(z _ e.up).mono ?_));rintro e6 c ⟨rfl,j⟩;have:=St.mk j;have ae:=(X.up (b:=c)).k4;have ag:=(Y.up (b:=c)).k4)))
    |fail
   all_goals (
    go_wp2_with fail
    go_region_held3 (fun w'=>C4 w' w.1.size (.bool I) (.slice l G n) (.bool Z) (.slice L S N)∧C4 w' (w.1.size+1) (.bool J) (.slice m H o) (.bool s4) (.slice M T O)) (with_reducible exact⟨X.up.k4,Y.up.k4⟩)
     (first
      |(go_at_call 54;first|(with_reducible refine(Q _ e.up).mono ?_;rintro e8 w8 ⟨v8,rfl,h8,am⟩;have:=St.mk am)|(with_reducible refine(P _ d.up).mono ?_;rintro e9 w9 ⟨v9,rfl,h9,an⟩;have:=St.mk an))
      |(go_at_call 34;first|(with_reducible refine(U _ _ D.up h8.up).mono ?_;rintro ax a2 ⟨a0,rfl,ah,aj⟩;have:=St.mk aj)|(with_reducible refine(V _ _ F.up h9.up).mono ?_;rintro ay a3 ⟨a1,rfl,ai,ak⟩;have:=St.mk ak))
      |(go_at_call 96;refine(s _ _ _ ah.up ai.up).mono ?_;rintro az ao ⟨rfl,al⟩;have:=St.mk al))
    all_goals (
     go_wp2;go_ret;exact⟨rfl,bJ (b:=ao) f⟩))
 |true=>
  cases q with
  |false=>
   clear hI;cases r with
   |true=>
    rw[B rfl] at g;clear B P Q U V s;have cX:=X.k4;have cY:=Y.k4
    first
     |(go_region_with (first
       |(go_at_call 50;(first|(with_reducible refine(zx _ C.up).mono ?_)|(with_reducible refine(k _ E.up).mono ?_));rintro e5 a ⟨rfl,i⟩;have:=St.mk i;have ad:=(X.up (b:=a)).k4;have af:=(Y.up (b:=a)).k4)
       |(go_at_call 101;(first|(with_reducible refine(t _ d.up).mono ?_)|(with_reducible refine(z _ e.up).mono ?_));rintro e6 c ⟨rfl,j⟩;have:=St.mk j;have ae:=(X.up (b:=c)).k4;have ag:=(Y.up (b:=c)).k4)))
     |fail
    all_goals (
     go_wp2_with fail;refine(g _ D.up F.up).mono ?_;rintro e7 w7 ⟨rfl,ac⟩;have:=St.mk ac;go_wp2;go_ret;exact⟨rfl,bJ (b:=w7) f⟩)
   |false=>
    clear B g;have cX:=X.k4;have cY:=Y.k4
    first
     |(go_region_with (first
       |(go_at_call 50;(first|(with_reducible refine(zx _ C.up).mono ?_)|(with_reducible refine(k _ E.up).mono ?_));rintro e5 a ⟨rfl,i⟩;have:=St.mk i;have ad:=(X.up (b:=a)).k4;have af:=(Y.up (b:=a)).k4)
       |(go_at_call 101;(first|(with_reducible refine(t _ d.up).mono ?_)|(with_reducible refine(z _ e.up).mono ?_));rintro e6 c ⟨rfl,j⟩;have:=St.mk j;have ae:=(X.up (b:=c)).k4;have ag:=(Y.up (b:=c)).k4)))
     |fail
    all_goals (
     go_wp2_with fail
     go_region_held3 (fun w'=>C4 w' w.1.size (.bool I) (.slice l G n) (.bool Z) (.slice L S N)∧C4 w' (w.1.size+1) (.bool J) (.slice m H o) (.bool s4) (.slice M T O)) (with_reducible exact⟨X.up.k4,Y.up.k4⟩)
      (first
       |(go_at_call 54;first|(with_reducible refine(Q _ e.up).mono ?_;rintro e8 w8 ⟨v8,rfl,h8,am⟩;have:=St.mk am)|(with_reducible refine(P _ d.up).mono ?_;rintro e9 w9 ⟨v9,rfl,h9,an⟩;have:=St.mk an))
       |(go_at_call 34;first|(with_reducible refine(U _ _ D.up h8.up).mono ?_;rintro ax a2 ⟨a0,rfl,ah,aj⟩;have:=St.mk aj)|(with_reducible refine(V _ _ F.up h9.up).mono ?_;rintro ay a3 ⟨a1,rfl,ai,ak⟩;have:=St.mk ak))
       |(go_at_call 96;refine(s _ _ _ ah.up ai.up).mono ?_;rintro az ao ⟨rfl,al⟩;have:=St.mk al))
     all_goals (
      go_wp2;go_ret;exact⟨rfl,bJ (b:=ao) f⟩))
  |true=>
   rw[hI rfl rfl] at g;clear B hI P Q U V s t z;have cX:=X.k4;have cY:=Y.k4
   first
    |(go_region_with (first
      |(go_at_call 50;(first|(with_reducible refine(zx _ C.up).mono ?_)|(with_reducible refine(k _ E.up).mono ?_));rintro e5 a ⟨rfl,i⟩;have:=St.mk i;have ad:=(X.up (b:=a)).k4;have af:=(Y.up (b:=a)).k4)
      |(go_at_call 101;(first|(with_reducible refine(t _ d.up).mono ?_)|(with_reducible refine(z _ e.up).mono ?_));rintro e6 c ⟨rfl,j⟩;have:=St.mk j;have ae:=(X.up (b:=c)).k4;have ag:=(Y.up (b:=c)).k4)))
    |fail
   all_goals (
    go_wp2_with fail;refine(g _ D.up F.up).mono ?_;rintro e7 w7 ⟨rfl,ac⟩;have:=St.mk ac;go_wp2;go_ret;exact⟨rfl,bJ (b:=w7) f⟩)
def UQ(n:Int)(w:World)(k: -9223372036854775808<=n)(a:n<=9223372036854775807):Calls prog 97 #[.int .i64 n] w (iF w (n:Rat)):=by
 obtain⟨W,f,b,R⟩:=bI w [.bool false,.slice none 0 0,.bool false,.slice none 0 0] 76;have e:=R.g4;go_enter func97,ntmps97;go_wp2_with fail;(try rw[f]);clear f;refine(lL n _ k a).mono ?_;rintro o r ⟨q,rfl,a,h⟩;obtain⟨j,c,i,d,rfl⟩:=a.form;replace R:=R.be h;replace b:=aC b h;have e:=R.g4;go_wp2_with fail;obtain⟨m,g,R,b,l,p⟩:=R.put4 b (by omega) (.bool j) (.slice c i d) (.bool false) (.slice none 0 0) rfl rfl;replace a:=a.ke l;rw[g];clear g;replace e:=R.k4;exact aM (v:= .agg #[.bool j,.slice c i d,.bool false,.slice none 0 0]) (by simp[results,results97,go_sem,R.k4]) rfl ⟨_,rfl,RatAt.int a (IntAt.zero _),b⟩
structure DivRes(A B Q R:List Rat)(K:Nat):Prop where
 id_:∀i,conv (cf Q) (cf B) i+cf R i=cf A i
 q_trim:aN Q
 r_trim:aN R
 r_lt:R.length<B.length
 q_len:Q.length<=A.length
 bq:∀q∈Q,RL K q
 br:∀q∈R,RL K q
def VN(hF:F≠0)(h:aN ns):aN (tT ns F):=by
 intro a b e;unfold tT at b;rw[List.getLast?_map] at b;cases hq:ns.getLast? with
 |none=>rw[hq] at b;simp at b
 |some n=>
  rw[hq] at b;simp only[bzX,Option.some.injEq] at b;rw[e] at b;have c:(n:Rat)≠0:=fun e=>h n hq (Rat.intCast_inj.1 e);have d:(F:Rat)≠0:=fun e=>hF (Rat.intCast_inj.1 e);grind
def xM(d:E≠0)(h:aN ns):aN (ns.map (·*E)):=by
 intro a b e;rw[List.getLast?_map] at b;cases hq:ns.getLast? with
 |none=>rw[hq] at b;simp at b
 |some n=>
  rw[hq] at b;simp only[bzX,Option.some.injEq] at b;rw[e] at b;rcases Int.mul_eq_zero.1 b with c|c
  ·exact h n hq c
  ·exact d c
def xN(ns:List Int)(F:Int)(i:Nat):cf (tT ns F) i=((cf ns i:Int):Rat)/F:=mG (fun n:Int=>(n:Rat)/(F:Rat)) (F7 F) ns i
def CC(ns:List Int)(E:Int)(i:Nat):cf (ns.map (·*E)) i=cf ns i*E:=mG (·*E) (bxB E) ns i
def dxU:cL [48]=some 0:=by decide
def dxV:cW 0=[48]:=tL dxU
def dxW(h:a.getLast?=some t):(aU a).getLast?=some ((cL t).getD 0):=by
 unfold aU;rw[List.getLast?_map,h];rfl
def VR(h:¬a.length<=65):vl a=false:=by unfold vl;rw[jA];exact fun b=>h b.1
def dzX(h:a.getLast?=some [48]):vl a=false:=by
 unfold vl;rw[jA,dxW h,dxU];exact fun b=>b.2.2 rfl
def dzY(d:b.length<=65)(h:b.getLast?=some t)(g:t≠[48]):vl b=b.all rd:=by
 unfold vl;rw[bxH,iQ,dxW h];refine⟨fun a=>a.2.1,fun a=>⟨d,a,fun e=>g ?_⟩⟩;injection e with e;have f:rd t=true:=List.all_eq_true.1 a t (List.mem_of_getLast? h);obtain⟨q,c⟩:=Option.isSome_iff_exists.1 f;rw[c] at e;have e:q=0:=e;rw[<-tL c,e,dxV]
def dzZ:vl []=true:=by decide
def VS(a:List (List UInt8)):(aU a).length=a.length:=cH _
def x7(w:World)(a:List (List UInt8))(e:Ending)(w':World):Prop:=
 ∃b,e= .returned (.tuple #[b,.bool (vl a)])∧(vl a=true->∃g,b= .slice (some ⟨g,0,none⟩) a.length a.length∧w.1.size<=g∧OwnR w' g (aU a))∧Below w.1.size w w'
def TT(a:List (List UInt8))(v:Value)(w:World)(x:Glob w)(hv:StrsAt w v a)(r:a.length<=1073741824)(y:a.length<=65->∀l∈a,l.length<=1073741824):
  Calls prog 61 #[v] w (x7 w a):=by
 obtain⟨A,c,rfl,H⟩:=hv.form;go_enter func61,ntmps61;go_wp2_with fail;refine(VA a.length c A _ r).mono ?_;rintro E B ⟨rfl,rfl⟩;by_cases e:a.length<=65
 ·have f:decide (a.length<=65)=true:=decide_eq_true e;rw[f];clear f;have q:=SZ a (.slice A a.length c) B x hv r (y e);by_cases i:a.length=0
  ·have hn:a=[]:=bX i;have d:Hid (vl a=a.all rd):=by unfold Hid;rw[hn,dzZ];rfl
   have u:¬0<a.length:=by omega
   clear hn i;go_wp2_with fail;refine q.mono ?_;rintro s C ⟨z,rfl,n,o⟩;go_wp2;go_ret2;unfold x7;rw[d.out];exact⟨_,rfl,n,o⟩
  ·obtain⟨m,p⟩:∃m,a.length=m+1:=⟨a.length-1,by omega⟩;have u:0<a.length:=by omega
   have D:(a.length:Int)-1=(m:Int):=by omega
   have J:(0:Int)<=(m:Int):=by omega
   have K:(m:Int)<(a.length:Int):=by omega
   obtain⟨t,k⟩:∃t,a[m]? =some t:=⟨_,aR (by omega)⟩;obtain⟨b,L,rfl,G,F⟩:=hv.at_ k;have j:a.getLast?=some t:=by rw[byO,p];exact k
   by_cases g:t=[48]
   ·have d:Hid (vl a=false):=dzX (by rw[j,g]);subst g;clear q j k p i;go_wp2;go_ret2;unfold x7;rw[d.out];exact⟨_,rfl,(fun h=>by cases h),aG _ _⟩
   ·have d:Hid (vl a=a.all rd):=dzY e j g;have I:(t==[48])=false:=beq_eq_false_iff_ne.2 g;clear j k p i g;go_wp2_with fail;refine q.mono ?_;rintro s C ⟨z,rfl,n,o⟩;go_wp2;go_ret2;unfold x7;rw[d.out];exact⟨_,rfl,n,o⟩
 ·have f:decide (a.length<=65)=false:=decide_eq_false e;have d:Hid (vl a=false):=VR e;rw[f];clear f;go_wp2;go_ret2;unfold x7;rw[d.out];exact⟨_,rfl,(fun h=>by cases h),aG _ _⟩
def dq0(a:List (List UInt8))(v:Value)(w:World)(b:Glob w)(hv:StrsAt w v a)(f:a.length<=1073741824)(g:a.length<=65->∀l∈a,l.length<=1073741824):
  Calls prog 16 #[v] w fun e w'=>e= .returned (.bool (vl a))∧Below w.1.size w w':=by
 obtain⟨A,c,rfl,i⟩:=hv.form;go_enter func16,ntmps16;go_wp2_with fail;refine(TT a _ _ b hv f g).mono ?_;rintro h k ⟨j,rfl, -,d⟩;go_wp2;go_ret;exact⟨rfl,d⟩
end Go.Proofs.YtjgbleapffgbcaaGreatDoor
namespace Go.Proofs.YtjgbleapffgbcaaGreatDoor
variable{l:List Nat}
def aD:Nat:=4294967296
def mV:0<aD:=by decide
def nv:List Nat->Nat
 |[]=>0
 |d :: l=>d+aD*nv l
def Dg(l:List Nat):Prop:=∀d∈l,d<aD
def rB:nv []=0:=rfl
def mF(l m:List Nat):nv (l++m)=nv l+aD^l.length*nv m:=by
 induction l with
 |nil=>simp[nv]
 |cons d l a=>
  rw[List.cons_append,nv,nv,a,List.length_cons,Nat.pow_succ,Nat.mul_add,Nat.mul_comm (aD^l.length) aD,Nat.mul_assoc];omega
def Dg.set(h:Dg l)(i:Nat){x:Nat}(c:x<aD):Dg (l.set i x):=fun d b=>by
 rcases List.mem_or_eq_of_mem_set b with a|a
 ·exact h d a
 ·rw[a];exact c
def Dg.zeros(n:Nat):Dg (List.replicate n 0):=fun d a=>by rw[(List.mem_replicate.1 a).2];exact mV
def Dg.take(h:Dg l)(n:Nat):Dg (l.take n):=fun d a=>h d (List.mem_of_mem_take a)
def Dg.get(h:Dg l){i d:Nat}(hi:l[i]? =some d):d<aD:=h d (List.mem_of_getElem? hi)
def Dg.trim(h:Dg l):Dg (aW aV l):=fun d a=>h d (rC a)
def zN(b:aN l)(a:l≠[]):aD^(l.length-1)<=nv l:=by
 obtain⟨m,d,rfl⟩:∃m d,l=m++[d]:=⟨l.dropLast,l.getLast a,(List.dropLast_concat_getLast a).symm⟩;have c:d≠0:=b d (by simp);rw[mF,nv,rB,Nat.mul_zero,Nat.add_zero,List.length_append,List.length_singleton,Nat.add_sub_cancel];have:aD^m.length*1<=aD^m.length*d:=Nat.mul_le_mul_left _ (by omega);omega
def NX(b:aN l)(h:nv l=0):l=[]:=by
 by_cases a:l=[]
 ·exact a
 ·have:=zN b a;have c:0<aD^(l.length-1):=Nat.pow_pos mV;omega
