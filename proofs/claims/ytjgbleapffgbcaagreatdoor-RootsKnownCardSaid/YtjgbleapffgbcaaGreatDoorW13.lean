/- Laws. -/
import Derived.Test.YtjgbleapffgbcaaGreatDoorW10
import Derived.Test.YtjgbleapffgbcaaGreatDoorW11
import Derived.Test.YtjgbleapffgbcaaGreatDoorW12
set_option linter.all false
set_option maxHeartbeats 8000000
set_option maxRecDepth 99999
namespace Go.Proofs.YtjgbleapffgbcaaGreatDoor
open Go.RowKit Sos Tryz
def VF(q:Rat):q=(q.num:Rat)/(q.den:Rat):=by
 conv=>lhs;rw[<-byC q,Rat.mkRat_eq_div]
def VG(q:Rat):(q.den:Rat)≠0:=fun e=>q.den_nz (by exact_mod_cast e)
def xI(q:Rat)(D:Int)(h:(q.den:Int)∣D):((q.num*D.tdiv (q.den:Int):Int):Rat)=q*D:=by
 obtain⟨t,rfl⟩:=h;have a:(q.den:Int)≠0:=by have:=q.den_nz;omega
 rw[Int.mul_tdiv_cancel_left _ a,eJ,eJ,aq3];have b:=VF q;have c:=VG q;generalize (q.num:Rat)=n at *;generalize (q.den:Rat)=d at *;rw[b];grind
def VH(q:Rat)(D:Int)(h:q.den=1):((q.num*D:Int):Rat)=q*D:=by
 rw[eJ];congr 1;exact Rat.ext rfl h.symm
def VI(w:World)(q:Rat)(D:Int)(B:Nat)(e:Ending)(w':World):Prop:=∃v n,e= .returned v∧IntAt w' v n∧(n:Rat)=q*D∧nl n.natAbs<=B∧Below w.1.size w w'
def VJ(q:Rat)(D:Int)(v u:Value)(w:World)(J:RatAt w v q)(g:IntAt w u D)(af:(q.den:Int)∣D)(K H:Nat)(hK:RL K q)(Y:nl D.natAbs<=H)(ad:5*K+H+8<=aJ):
  Calls prog 127 #[v,u] w (VI w q D (K+H)):=by
 unfold aJ at ad;obtain⟨s,A,k,c,s',M,k',Q,rfl⟩:=J.form;obtain⟨sD,P,kD,U,rfl⟩:=g.form;obtain⟨X,ai⟩:=hK;have aj:=mY q;obtain⟨W,V,d,a,b,R⟩:=gE w [.bool s,.slice A k c,.bool s',.slice M k' Q] 76 [.bool sD,.slice P kD U] 60 [.bool false,.slice none 0 0] 60;have l:=aa a.g4 (aa b.g2 R.g2);go_enter func127,ntmps127;go_wp2_with fail;(try rw[V]);clear V;have hn:=(J.be d).num;have j:=(J.be d).den;replace g:=g.be d;refine(g9 _ _ _ j (by omega)).mono ?_;rintro e1 w1 ⟨rfl,y⟩;replace a:=a.be y;replace b:=b.be y;replace R:=R.be y;replace l:=aa a.k4 (aa b.k2 R.g2);replace f:=Keep.be y;replace hn:=hn.ke f;replace j:=j.ke f;replace g:=g.ke f;replace d:=aC d y;by_cases h:bS q=0
 ·have C:decide (bS q=0)=true:=by simpa using h
  rw[C];have p:=VH q D (fV.1 h);have I:=gT q.num D _ _ X Y;have m:=fun W v u h i=>jB q.num D v u W h i (by omega);unfold dW at m;generalize q.num*D=n at *;have G:=aB p;clear C h p;go_wp2_with fail;refine(m _ _ _ hn g).mono ?_;rintro e2 w2 ⟨v2,rfl,i,F⟩;obtain⟨s2,N,k2,S,rfl⟩:=i.form;replace a:=a.be F;replace b:=b.be F;replace R:=R.be F;replace l:=aa a.k4 (aa b.k2 R.g2);replace d:=aC d F;clear m;go_wp2_with fail;obtain⟨W6,r,R,d,f,x⟩:=R.put2 d (by omega) (.bool s2) (.slice N k2 S) rfl rfl;replace a:=x a (by omega);replace b:=x b (by omega);replace i:=i.ke f;rw[r];clear r;replace l:=aa a.k4 (aa b.k2 R.k2);exact aM (v:= .agg #[.bool s2,.slice N k2 S]) (by simp[results,results127,go_sem,R.k2]) rfl ⟨_,n,rfl,i,G.out,I,d⟩
 ·have C:decide (bS q=0)=false:=by simpa using h
  have Z:bS q=q.den:=mI (fun e=>h (fV.2 e));rw[C];have p:=xI q D af;rw[<-Z] at p;have ae:=jN D (bS q) _ Y;have I:=gT q.num (D.tdiv (bS q)) _ _ X ae;have L:=fun W v u ac i=>mZ D (bS q) v u W ac i h (by omega);have m:=fun W v u h i=>jB q.num (D.tdiv (bS q)) v u W h i (by omega);unfold dW at m L;generalize q.num*D.tdiv (bS q)=n at *;generalize D.tdiv (bS q)=t at *;have G:=aB p;clear C h p Z;go_wp2_with fail;replace hn:=hn.drew;replace j:=j.drew;replace g:=g.drew;replace a:=a.drew;replace b:=b.drew;replace R:=R.drew;replace d:=d.drew;replace l:=aa a.k4 (aa b.k2 R.g2);have ag:w.1.size+1+1≠w.1.size:=by omega
  have ah:w.1.size+1+1≠w.1.size+1:=by omega
  go_region_held3 (fun w'=>C4 w' w.1.size (.bool s) (.slice A k c) (.bool s') (.slice M k' Q)∧C2 w' (w.1.size+1) (.bool sD) (.slice P kD U))
   (first|(with_reducible exact⟨a.k4,b.k2⟩)|(refine⟨?_,?_⟩<;>(repeat (first|with_reducible exact a.k4|with_reducible exact b.k2|with_reducible refine kK ag ?_|with_reducible refine fQ ah ?_))))
   (first
    |(go_at_call 89;refine(L _ _ _ g j).mono ?_;rintro e4 w4 ⟨v4,rfl,E,z⟩;obtain⟨s4,A4,k4,c4,rfl⟩:=E.form;replace a:=a.be z;replace b:=b.be z;replace R:=R.be z;replace l:=aa a.k4 (aa b.k2 R.g2);replace f:=Keep.be z;replace hn:=hn.ke f;replace j:=j.ke f;replace g:=g.ke f;(try replace o:=o.ke f);replace d:=aC d z)
    |(go_at_call 34;refine(m _ _ _ hn E).mono ?_;rintro e5 w5 ⟨v5,rfl,o,B⟩;obtain⟨s5,O,k5,T,rfl⟩:=o.form;replace a:=a.be B;replace b:=b.be B;replace R:=R.be B;replace l:=aa a.k4 (aa b.k2 R.g2);replace f:=Keep.be B;replace hn:=hn.ke f;replace j:=j.ke f;replace g:=g.ke f;(try replace E:=E.ke f);replace d:=aC d B))
  clear L m;go_wp2_with fail;obtain⟨W6,r,R,d,f,x⟩:=R.put2 d (by omega) (.bool s5) (.slice O k5 T) rfl rfl;replace a:=x a (by omega);replace b:=x b (by omega);replace o:=o.ke f;rw[r];clear r;replace l:=aa a.k4 (aa b.k2 R.k2);exact aM (v:= .agg #[.bool s5,.slice O k5 T]) (by simp[results,results127,go_sem,R.k2]) rfl ⟨_,n,rfl,o,G.out,I,d⟩
def tT(ns:List Int)(d:Int):List Rat:=ns.map (fun n:Int=>(n:Rat)/(d:Rat))
def CA(n d:Int)(K:Nat)(hn:nl n.natAbs<=K)(b:nl d.natAbs<=K)(a:1<=K):RL K ((n:Rat)/d):=by
 rw[<-Rat.divInt_eq_div];unfold RL;rw[Rat.num_divInt,Rat.den_divInt];constructor
 ·refine aH (cK ?_) hn;rw[Int.natAbs_ediv_of_dvd]
  ·refine aH (azK _ _) ?_;rw[fL];have:d.sign.natAbs<=1:=by
    rcases aqL d 0 with h|h|h
    ·rw[aqT h];decide
    ·rw[h];decide
    ·rw[aqI h];decide
   calc d.sign.natAbs*n.natAbs<=1*n.natAbs:=dK _ this
    _=n.natAbs:=aqD _
  ·exact bxJ (Int.gcd_dvd_right ..)
 ·split
  ·rw[mJ (by decide) (by decide)];exact a
  ·exact aH (cK (azK _ _)) b
def dzV(ns:List Int)(x:Int)(v Y:Value)(w:World)(D:Glob w)(hv:WholeAt w v ns)(T:IntAt w Y x)(K:Nat)(hK:∀n∈ns,nl n.natAbs<=K)(ai:nl x.natAbs<=K)(ah:5*K+4<=aJ)(hl:ns.length<=1073741824):
  Calls prog 33 #[v,Y] w fun e w'=>∃g,e= .returned (.slice (some ⟨g,0,none⟩) ns.length ns.length)∧w.1.size<=g∧OwnR w' g (tT ns x)∧Below w.1.size w w':=by
 obtain⟨A,c,rfl,hc⟩:=hv.form;obtain⟨r,o,q,p,rfl⟩:=T.form;have V:(tT ns x).length=ns.length:=cH _;have C:=aB V;clear V;have f:Bx (w.alloc (.cells #[.bool r,.slice o q p] 60)) (w.1.size) [.bool r,.slice o q p] 60:=Bx.newAt w [.bool r,.slice o q p] 60 (w.1.size) (by simp);have a:Below w.1.size w (w.alloc (.cells #[.bool r,.slice o q p] 60)):=(aG _ _).alloc (by simp) _;go_enter func33,ntmps33;go_wp2_with (at_make;refine jT rfl rfl 76 _ 4 64 underlying68 OC rfl (by decide) ns.length rfl rfl rfl rfl (by omega) (by omega) ?_;intro w1 al Q E);have J:OwnR w1 (w.1.size+1) (List.replicate ns.length 0):=by
  have:=OwnR.made Q;rw[World.size_alloc] at this;exact this
 replace f:=f.be E;replace a:=aC a E;clear Q al E;go_loopg [13] ns.length (fun k i wr=>∃j,Hid (j+k=ns.length)∧i= .int .i64 j∧OwnR wr (w.1.size+1) ((tT ns x).take j++List.replicate k 0)∧Bx wr w.1.size [.bool r,.slice o q p] 60∧Below w.1.size w wr)
 case atStart=>exact⟨0,by unfold Hid;omega,rfl,by simpa using J,f,a⟩
 case round=>
  clear J f a;obtain⟨j,t,rfl,R,f,a⟩:=hrel;generalize wr=m at *;have aw:(0:Int)<=(j:Int):=by omega
  cases gk with
  |zero=>
   have hj:j=ns.length:=t.out;subst hj;rw[aq8,fH,cZ (by rw[C.out];exact aE)] at R;go_wp2;go_ret
   first
    |exact⟨_,rfl,Nat.le_succ _,R,a⟩
    |exact⟨R,a⟩
  |succ k=>
   obtain⟨n,hn⟩:∃n,ns[j]? =some n:=⟨_,aR (by have:=t.out;omega)⟩;obtain⟨b,s,B,l,d,rfl,av,g0,g1,H⟩:=(hv.be a).at_ hn;have ak:=hK n (dG hn);have ax:(j:Int)<(ns.length:Int):=by have:=t.out;omega
   have U:(tT ns x)[j]? =some ((n:Rat)/x):=by unfold tT;rw[iK,hn];rfl
   have L:=rI (ys:=tT ns x) (z:=(0:Rat)) (j:=j) (k:=k+1) (by rw[C.out];exact t.out);have M:=rH (z:=(0:Rat)) (k:=k) U;have N:j<((tT ns x).take j++List.replicate (k+1) 0).length:=by rw[L,C.out];have:=t.out;omega
   have ag:=aB M;clear U L M hn;have I:=T.be a;have G:=fun W D h1 u=>I3 n x (.agg #[.bool s,.slice B l d]) (.agg #[.bool r,.slice o q p]) W D h1 u K ak ai ah;unfold iF at G;generalize (n:Rat)/x=y at *;have ac:∀h:Obj,(m.alloc h).cell? ⟨w.1.size,0,none⟩=some (.bool r):=fun h=>(f.alloc h).cell 0 rfl;have ae:∀h:Obj,(m.alloc h).frozen? ⟨w.1.size,0,none⟩=false:=fun h=>(f.alloc h).free 0;have ad:∀h:Obj,(m.alloc h).cell? ⟨w.1.size,1,none⟩=some (.slice o q p):=fun h=>(f.alloc h).cell 1 rfl;have af:∀h:Obj,(m.alloc h).frozen? ⟨w.1.size,1,none⟩=false:=fun h=>(f.alloc h).free 1;go_wp2_with fail;replace R:=R.be ((aG m.1.size m).alloc aE (.cells #[.bool s,.slice B l d] 60));have ap:=f.lt;have ay:=a.size;replace f:=f.alloc (.cells #[.bool s,.slice B l d] 60);have X:=Bx.newAt m [.bool s,.slice B l d] 60 (m.1.size) (by simp);replace a:=a.alloc a.size (.cells #[.bool s,.slice B l d] 60);replace O:=Keep.alloc m (.cells #[.bool s,.slice B l d] 60);replace H:=H.ke O;replace I:=I.ke O;generalize m.alloc (.cells #[.bool s,.slice B l d] 60)=W1 at *;replace an:=f.cell 0 rfl;replace ao:=f.cell 1 rfl;replace aq:=X.cell 0 rfl;replace ar:=X.cell 1 rfl;clear ac ad ae af g0 g1;refine(G _ (D.be a) H I).mono ?_;rintro e2 w2 ⟨v2,rfl,u,F⟩;obtain⟨s2,A2,k2,c2,s3,A3,k3,c3,rfl⟩:=u.form;replace R:=R.be F;replace f:=f.be F;replace a:=aC a F;obtain⟨s',B',l',d',a0,am,az,au,q0,q1,q2,q3, -⟩:=R.at_ (aR N);have f0:=R.free (j*4);have f1:=R.free (j*4+1);have f2:=R.free (j*4+2);have f3:=R.free (j*4+3);clear G;go_wp2_with fail;obtain⟨P,S⟩:=R.stored N u;rw[ag.out] at P;have Z:Bx _ w.1.size [.bool r,.slice o q p] 60:=(S.2.1 w.1.size (by omega)).trans f;have aj:=jD a S (by omega);go_roundg k
   case rel=>exact⟨j+1,by have:=t.out;unfold Hid;omega,by go_num,P,Z,aj⟩
   case measure=>omega
def dzW(ns:List Int)(x:Int)(v a:Value)(w:World)(d:Glob w)(hv:WholeAt w v ns)(m:IntAt w a x)(K:Nat)(f:∀n∈ns,nl n.natAbs<=K)(j:nl x.natAbs<=K)(i:5*K+4<=aJ)(l:ns.length<=1073741824):
  Calls prog 33 #[v,a] w fun e w'=>∃c,e= .returned c∧RatsAt w' c (tT ns x)∧Below w.1.size w w':=by
 refine(dzV ns x v a w d hv m K f j i l).mono ?_;rintro e w' ⟨g,rfl, -,h,k⟩;have b:=h.rats ns.length (by unfold tT;rw[cH];exact aE);rw[show(tT ns x).length=ns.length by unfold tT;exact cH _] at b;exact⟨_,rfl,b,k⟩
end Go.Proofs.YtjgbleapffgbcaaGreatDoor
namespace Go.Proofs.YtjgbleapffgbcaaGreatDoor
open Sos Lib
def gI(s:List UInt8):List UInt8:=if s.head?==some 45 then s.tail else s
structure CutN(t:List UInt8)(k:Nat):Prop where
 le:k<=t.length
 head:t.takeWhile cyH=t.take k
 rest:t.dropWhile cyH=t.drop k
def CutN.stop{t:List UInt8}{k:Nat}(h:∀c∈t.take k,cyH c=true)(b:k<=t.length)(a:t.length<=k∨∃c,t[k]? =some c∧cyH c=false):CutN t k:=
 ⟨b,(wV h a).1,(wV h a).2⟩
structure Found(s:List UInt8)(q:Rat):Prop where
 ok:rd s=decide (cW q=s)
 val:∀r,cL s=some r->q=r
section
variable {s:List UInt8}{k:Nat}(h:CutN (gI s) k)
include h
end
end Go.Proofs.YtjgbleapffgbcaaGreatDoor
namespace Go.Proofs.YtjgbleapffgbcaaGreatDoor
open Go.RowKit Sos Tryz
variable{b c:List Rat}{D:Int}
def cC(a:List Rat)(D:Int):List Int:=a.map (fun q=>q.num*D.tdiv (q.den:Int))
def JC(a:List Rat)(D:Int)(h:∀q∈a,(q.den:Int)∣D)(i:Nat):((cf (cC a D) i:Int):Rat)=cf a i*D:=by
 unfold cC cf;rw[eE,eE,iK];cases hq:a[i]? with
 |none=>
  show((0:Int):Rat)=0*(D:Rat)
  rw[aq4];grind
 |some q=>exact xI q D (h q (dG hq))
def sA(a:List Rat)(D:Int)(K B:Nat)(c:∀q∈a,RL K q)(b:nl D.natAbs<=B):∀n∈cC a D,nl n.natAbs<=K+B:=by
 intro n hn;unfold cC at hn;obtain⟨q,d,rfl⟩:=List.mem_map.1 hn;exact gT _ _ _ _ (c q d).1 (jN _ _ _ b)
def VE(w:World)(a:List Rat)(B:Nat)(e:Ending)(w':World):Prop:=
 ∃b n c d D,e= .returned (.tuple #[.slice (some ⟨b,0,none⟩) n c,d])∧w.1.size<=b∧WholeAt w' (.slice (some ⟨b,0,none⟩) n c) (aW aV (cC a D))∧IntAt w' d D∧ComDen a D B∧Below w.1.size w w'
def JD(a:List Rat)(v:Value)(w:World)(hG:Glob w)(hv:RatsAt w v a)(K U:Nat)(hK:∀q∈a,RL K q)(hl:a.length<=1073741824)(a5:1+a.length*K<=U)(a6:K<=U)(a7:6*U+8<=aJ):
  Calls prog 77 #[v] w (VE w a (1+a.length*K)):=by
 obtain⟨A,c,rfl,hc⟩:=hv.form;have R:Bx (w.alloc (.cells #[.bool false,.slice none 0 0] 60)) (w.1.size) [.bool false,.slice none 0 0] 60:=Bx.newAt w [.bool false,.slice none 0 0] 60 (w.1.size) (by simp);have f:Below w.1.size w (w.alloc (.cells #[.bool false,.slice none 0 0] 60)):=(aG _ _).alloc (by simp) _;go_enter func77,ntmps77;go_wp2_with fail;generalize w.alloc (.cells #[.bool false,.slice none 0 0] 60)=W at *;refine(VM a _ _ (hG.be f) (hv.be f) K U hK hl a5 a6 (by omega)).mono ?_;rintro e1 g ⟨v1,D,rfl,h1,ai,ah⟩;obtain⟨s1,A1,k1,c1,rfl⟩:=h1.form;replace R:=R.be ah;replace V:=R.cell 0 rfl;replace af:=R.free 0;replace Y:=R.cell 1 rfl;replace ag:=R.free 1;replace hk:=Keep.be ah;replace f:=aC f ah;have am:=ai.nl_;have az:(cC a D).length=a.length:=cH _;have I:=aB az;have bb:=sA a D K _ hK am;clear az;go_wp2_with (at_make;refine jT rfl rfl 60 _ 2 32 underlying64 p6 rfl (by decide) a.length rfl rfl rfl rfl (by omega) (by omega) ?_;intro w2 bc aw p);have R0:OwnW w2 (g.1.size+1) (List.replicate a.length 0):=by
  have:=OwnW.made aw;rw[World.size_alloc] at this;exact this
 have br:=R.lt;have ac:Below g.1.size g w2:=((aG _ _).alloc aE _).trans (p.mono (by simp));have al:IntBx w2 g.1.size D:=⟨_,_,_,_,(Bx.new g [.bool s1,.slice A1 k1 c1] 60).be p,h1.be ac⟩;have an:=R.be ac;have ao:=aC f ac;clear aw bc p ac R h1 f V Y af ag hk;go_loopg [15] a.length (fun k i wr=>∃j,Hid (j+k=a.length)∧i= .int .i64 j∧OwnW wr (g.1.size+1) ((cC a D).take j++List.replicate k 0)∧IntBx wr g.1.size D∧Bx wr w.1.size [.bool false,.slice none 0 0] 60∧Below w.1.size w wr)
 case atStart=>exact⟨0,by unfold Hid;omega,rfl,by simpa using R0,al,an,ao⟩
 case round=>
  clear R0 al an ao;obtain⟨j,H,rfl,N,Z,R,f⟩:=hrel;generalize wr=F at *;have bp:(0:Int)<=(j:Int):=by omega
  obtain⟨P,J,O,L,C,o⟩:=id Z;cases gk with
  |zero=>
   have hj:j=a.length:=H.out;subst hj;rw[aq8,fH,cZ (by rw[I.out];exact aE)] at N;have hw:=N.whole a.length (by rw[I.out];exact aE);have aj:=fun W h=>sP (cC a D) (some ⟨g.1.size+1,0,none⟩) a.length W h (K+(1+a.length*K)) bb (by unfold aJ at a7;omega) (by rw[I.out];omega);rw[I.out] at aj hw;replace hw:=hw.drew;replace Z:=Z.be (aG _ _).drew;go_wp2_with fail;replace R:=R.drew;replace C:=C.drew;replace o:=o.drew;replace f:=f.drew;have ae:w.1.size≠g.1.size:=by omega
   replace V:=R.cell 0 rfl;replace af:=R.free 0;replace Y:=R.cell 1 rfl;replace ag:=R.free 1;replace Q:=C.cell 0 rfl;replace bf:=C.free 0;replace S:=C.cell 1 rfl;replace bg:=C.free 1;obtain⟨T,HT⟩:∃T,Hid (aW aV (cC a D)=T):=⟨_,rfl⟩;rw[HT.out] at aj
   go_region_held3 (fun w'=>w'.cell? ⟨g.1.size,0,none⟩=some (.bool P)∧w'.cell? ⟨g.1.size,1,none⟩=some (.slice J O L))
    (first|(with_reducible exact⟨Q,S⟩)|(with_reducible exact⟨(aL _ _ _ _ _ _ ae).trans ((aL _ _ _ _ _ _ ae).trans Q),(aL _ _ _ _ _ _ ae).trans ((aL _ _ _ _ _ _ ae).trans S)⟩))
    (first
     |(go_at_call 128;refine(aj _ hw).mono ?_;rintro e6 w6 ⟨rfl,h6,ad⟩;replace o:=o.be ad;replace R:=R.be ad;replace C:=C.be ad;replace Q:=C.cell 0 rfl;replace S:=C.cell 1 rfl;replace V:=R.cell 0 rfl;replace Y:=R.cell 1 rfl;replace af:=R.free 0;replace ag:=R.free 1;replace f:=aC f ad))
   go_wp2_with fail;obtain⟨-,x⟩:=IntBx.stored (w:=w6) (b:=w.1.size) (m:=0) ⟨_,_,_,_,R,IntAt.zero _⟩ o;have z6:=h6.step x (fun b e=>by injection e with e;injection e with e;omega);have zm:=o.ke x.1;have zb:=jD f x aE;obtain⟨z0,z1, -, -, -⟩:=jU (s:=P) (u:= .slice J O L) f aE R;clear x;generalize (w6.setCell ⟨w.1.size,0,none⟩ (.bool P)).setCell ⟨w.1.size,1,none⟩ (.slice J O L)=W6 at *;exact aM (v:= .tuple #[.slice (some ⟨g.1.size+1,0,none⟩) T.length a.length,.agg #[.bool P,.slice J O L]]) (by simp[results,results77,go_sem,z0,z1]) rfl ⟨_,_,_,_,D,rfl,by omega,by rw[HT.out];exact z6,zm,ai,zb⟩
  |succ k=>
   obtain⟨q,M⟩:∃q,a[j]? =some q:=⟨_,aR (by have:=H.out;omega)⟩;obtain⟨b,s,B,m,d,E,r,G,t,rfl,bo,g0,g1,g2,g3,hi⟩:=(hv.be f).at_ M;have a8:=hK q (dG M);have ap:=ai.dvd q (dG M);have bq:(j:Int)<(a.length:Int):=by have:=H.out;omega
   have ay:(cC a D)[j]? =some (q.num*D.tdiv (q.den:Int)):=by unfold cC;rw[iK,M];rfl
   have aq:=rI (ys:=cC a D) (z:=(0:Int)) (j:=j) (k:=k+1) (by rw[I.out];exact H.out);have ar:=rH (z:=(0:Int)) (k:=k) ay;have au:j<((cC a D).take j++List.replicate (k+1) 0).length:=by rw[aq,I.out];have:=H.out;omega
   have ax:∀n:Int,(n:Rat)=q*D->n=q.num*D.tdiv (q.den:Int):=fun n h=>Rat.intCast_inj.1 (h.trans (xI q D ap).symm);have ak:=aB ax;have a4:=aB ar;clear ay aq ar M ax;have a0:∀l:Obj,(F.alloc l).cell? ⟨g.1.size,0,none⟩=some (.bool P):=fun l=>(C.alloc l).cell 0 rfl;have a2:∀l:Obj,(F.alloc l).frozen? ⟨g.1.size,0,none⟩=false:=fun l=>(C.alloc l).free 0;have a1:∀l:Obj,(F.alloc l).cell? ⟨g.1.size,1,none⟩=some (.slice J O L):=fun l=>(C.alloc l).cell 1 rfl;have a3:∀l:Obj,(F.alloc l).frozen? ⟨g.1.size,1,none⟩=false:=fun l=>(C.alloc l).free 1;go_wp2_with fail;replace N:=N.alloc (.cells #[.bool s,.slice B m d,.bool E,.slice r G t] 76);have bh:=C.lt;have bi:=R.lt;have bs:=f.size;replace C:=C.alloc (.cells #[.bool s,.slice B m d,.bool E,.slice r G t] 76);replace R:=R.alloc (.cells #[.bool s,.slice B m d,.bool E,.slice r G t] 76);have X:=Bx.newAt F [.bool s,.slice B m d,.bool E,.slice r G t] 76 (F.1.size) (by simp);replace f:=f.alloc f.size (.cells #[.bool s,.slice B m d,.bool E,.slice r G t] 76);replace hk:=Keep.alloc F (.cells #[.bool s,.slice B m d,.bool E,.slice r G t] 76);replace hi:=hi.ke hk;replace o:=o.ke hk;generalize F.alloc (.cells #[.bool s,.slice B m d,.bool E,.slice r G t] 76)=wa at *;replace Q:=C.cell 0 rfl;replace S:=C.cell 1 rfl;replace V:=R.cell 0 rfl;replace Y:=R.cell 1 rfl;replace bj:=X.cell 0 rfl;replace bk:=X.cell 1 rfl;replace bm:=X.cell 2 rfl;replace bn:=X.cell 3 rfl;clear a0 a1 a2 a3 g0 g1 g2 g3 Z;refine(VJ q D _ _ _ hi o ap K (1+a.length*K) a8 am (by omega)).mono ?_;rintro e2 bt ⟨v2,n,rfl,h2,av, -,p⟩;have ba:=ak.out n av;subst ba;clear av ak;obtain⟨s2,A2,k2,c2,rfl⟩:=h2.form;replace N:=N.be p;replace C:=C.be p;replace R:=R.be p;replace o:=o.be p;replace f:=aC f p;obtain⟨E,r,l',t,q0,q1, -⟩:=N.at_ (aR au);have f0:=N.free (j*2);have f1:=N.free (j*2+1);generalize q.num*D.tdiv (q.den:Int)=y at *;go_wp2_with fail;obtain⟨hp,x⟩:=N.stored au h2;rw[a4.out] at hp;have zC:=IntBx.step ⟨_,_,_,_,C,o⟩ x (by omega);have zR:Bx _ w.1.size [.bool false,.slice none 0 0] 60:=(x.2.1 w.1.size (by omega)).trans R;have a9:=jD f x (by omega);go_roundg k
   case rel=>exact⟨j+1,by have:=H.out;unfold Hid;omega,by go_num,hp,zC,zR,a9⟩
   case measure=>omega
def vl(a:List (List UInt8)):Bool:=decide (a.length<=65∧a.all rd=true∧(aU a).getLast?≠some 0)
def JB(b:List Rat):aN b↔b.getLast?≠some 0:=⟨fun h e=>h 0 e rfl,fun h a c e=>h (by rw[c,e])⟩
def pJ{a:List (List UInt8)}(h:vl a=true):a.length<=65∧a.all rd=true∧aN (aU a):=by
 unfold vl at h;rw[iQ] at h;exact⟨h.1,h.2.1,(JB _).2 h.2.2⟩
def oO(j:0<D)(i:∀q∈c,(q.den:Int)∣D)(h:aN c):aN (cC c D):=by
 intro a b e;unfold cC at b;rw[List.getLast?_map] at b;cases hq:c.getLast? with
 |none=>rw[hq] at b;simp at b
 |some q=>
  rw[hq] at b;simp only[bzX,Option.some.injEq] at b;have f:=xI q D (i q (List.mem_of_getLast? hq));rw[b,e,aq4] at f;have g:(D:Rat)≠0:=fun e=>(show D≠0 by omega) (Rat.intCast_inj.1 e);rcases Rat.mul_eq_zero.1 f.symm with d|d
  ·exact h q hq d
  ·exact g d
def VA(n c:Nat)(A:Option Addr)(w:World)(hn:n<=1073741824):Calls prog 75 #[.slice A n c] w fun e w'=>e= .returned (.bool (decide (n<=65)))∧w'=w:=by
 by_cases h:n<=65
 ·have b:(n:Int)<=65:=by omega
  have a:decide (n<=65)=true:=by simpa using h
  rw[a];go_enter func75,ntmps75;go_wp2;go_ret;exact⟨rfl,rfl⟩
 ·have b:¬(n:Int)<=65:=by omega
  have a:decide (n<=65)=false:=by simpa using h
  rw[a];go_enter func75,ntmps75;go_wp2;go_ret;exact⟨rfl,rfl⟩
def ComDen.mono{B a:Nat}(h:ComDen b D B)(c:B<=a):ComDen b D a:=⟨h.pos,h.dvd,aH h.nl_ c⟩
def VB(w:World)(a:List (List UInt8))(B:Nat)(e:Ending)(w':World):Prop:=
 ∃v c b D,e= .returned (.tuple #[v,c,.bool (vl a)])∧WholeAt w' v b∧IntAt w' c D∧(vl a=true->b=cC (aU a) D∧ComDen (aU a) D B)∧Below w.1.size w w'
def VD(i:List (List UInt8))(v:Value)(w:World)(hG:Glob w)(hv:StrsAt w v i)(hl:i.length<=1073741824)(a8:i.length<=65->∀l∈i,l.length<=1073741824)(K KB L:Nat)(hK:i.length<=65->∀q∈aU i,RL K q)(hL:i.length<=65->i.length<=L)(a4:1<=L)(bb:1+L*K<=KB)(al:6*KB+8<=aJ):
  Calls prog 30 #[v] w (VB w i (1+L*K)):=by
 have bc:K<=L*K:=byT K a4;obtain⟨A,c,rfl,hc⟩:=hv.form;obtain⟨W,eW,f,R⟩:=bI w [.bool false,.slice none 0 0] 60;have u:=R.g2;go_enter func30,ntmps30;go_wp2_with fail;(try rw[eW]);clear eW;refine(lL 1 _ (by decide) (by decide)).mono ?_;rintro e1 w1 ⟨v1,rfl,n,au⟩;obtain⟨Z,J,V,P,rfl⟩:=n.form;replace R:=R.be au;replace u:=R.g2;replace f:=aC f au;go_wp2_with fail;have N:=R.lt;have T:=f.size;obtain⟨w2,ar,p,O⟩:=bI w1 [.bool Z,.slice J V P] 60;replace R:=R.be p;replace k:=Keep.be p;replace f:=aC f p;replace n:=n.ke k;rw[ar];clear ar;replace u:=aa R.g2 O.g2;refine(VA i.length c A _ hl).mono ?_;rintro e3 w3 ⟨rfl,rfl⟩;by_cases H:i.length<=65
 ·have z:decide (i.length<=65)=true:=by simpa using H
  rw[z];clear z;go_wp2_with fail;refine(T0 i _ _ (hG.be f) (hv.be f) hl (a8 H)).mono ?_;rintro e4 w4 ⟨v4,rfl,h4,ai⟩;replace R:=R.be ai;replace O:=O.be ai;replace u:=aa R.g2 O.g2;replace k:=Keep.be ai;replace n:=n.ke k;replace f:=aC f ai;cases hall:i.all rd with
  |false=>
   have t:vl i=false:=by unfold vl;rw[jA];exact fun h=>by rw[hall] at h;exact absurd h.2.1 (by simp)
   have G:=aB t;clear t h4;go_wp2_with fail;go_region
   all_goals (
    go_wp2_with fail;have N:=R.lt;have ad:=O.lt;have T:=f.size;obtain⟨W6,o,R,f,k,x⟩:=R.put2 f (by omega) (.bool Z) (.slice J V P) rfl rfl;replace O:=x O (by omega);replace n:=n.ke k;rw[o];clear o;replace u:=aa R.k2 O.k2;exact aM (v:= .tuple #[.slice none 0 0,.agg #[.bool Z,.slice J V P],.bool false]) (by simp[results,results30,go_sem,R.k2]) rfl ⟨_,_,[],1,by rw[G.out],WholeAt.nil _ _ _,n.drew,(fun h=>by rw[G.out] at h;cases h),f.drew⟩)
  |true=>
   have I:=h4 hall;obtain⟨A4,c4,rfl,bh⟩:=I.form;have a9:(aU i).length=i.length:=cH _;have ap:=aB hall;have ak:=hK H;clear h4 hall;generalize av:aU i=j at *;have ac:=aB av;have bi:j.length<=65:=by omega
   have aj:j.length<=L:=by have:=hL H;omega
   clear av a9;by_cases h0:j.length=0
   ·have an:j=[]:=bX h0;have ah:aN j:=fun a h=>by rw[an] at h;simp at h
    have t:vl i=true:=by unfold vl;rw[iQ,ac.out,ap.out,an];exact⟨H,rfl,by simp⟩
    have a3:¬(0:Int)<(j.length:Int):=by omega
    clear an h0;go_wp2_with fail;refine(JD j _ _ (hG.be f) I K KB ak (by omega) (by have:j.length*K<=L*K:=dK _ aj;omega) (by omega) al).mono ?_;rintro S C ⟨b5,n5,c5,ba,D,rfl,a6,y,r,F,E⟩;rw[qB (oO F.pos F.dvd ah)] at y;obtain⟨A5,c9,S,a7⟩:=y.form;simp only[Value.slice.injEq] at S;obtain⟨-,rfl, -⟩:=S;have a5:=R.lt;obtain⟨s6,M,Y,Q,rfl⟩:=r.form;replace R:=R.be E;replace O:=O.be E;replace u:=aa R.g2 O.g2;replace k:=Keep.be E;replace n:=n.ke k;replace f:=aC f E;have ay:∀g:Obj,(C.alloc g).cell? ⟨w.1.size,0,none⟩=some (.bool false):=fun g=>(R.alloc g).cell 0 rfl;have a0:∀g:Obj,(C.alloc g).frozen? ⟨w.1.size,0,none⟩=false:=fun g=>(R.alloc g).free 0;have az:∀g:Obj,(C.alloc g).cell? ⟨w.1.size,1,none⟩=some (.slice none 0 0):=fun g=>(R.alloc g).cell 1 rfl;have a1:∀g:Obj,(C.alloc g).frozen? ⟨w.1.size,1,none⟩=false:=fun g=>(R.alloc g).free 1;have ag:=F.mono (show 1+j.length*K<=1+L*K by have:j.length*K<=L*K:=dK _ aj;omega);have HN:=aB (show vl i=true∧cC j D=cC (aU i) D∧ComDen (aU i) D (1+L*K) from⟨t,by rw[ac.out],by rw[ac.out];exact ag⟩);generalize cC j D=ns at *;clear F ag ah t I;go_wp2_with fail;have N:=R.lt;have ad:=O.lt;have T:=f.size;obtain⟨w7,ae,p,X⟩:=bI C [.bool s6,.slice M Y Q] 60;replace R:=R.be p;replace O:=O.be p;replace k:=Keep.be p;replace f:=aC f p;replace n:=n.ke k;replace r:=r.ke k;rw[ae];clear ae;replace u:=aa R.g2 (aa O.k2 X.g2);replace y:=y.be p;go_region
    all_goals (
     go_wp2_with fail;obtain⟨-,ao⟩:=IntBx.stored (w:=w7) (b:=w.1.size) (m:=0) ⟨_,_,_,_,R,IntAt.zero _⟩ r;have z5:=y.step ao (fun b e=>by injection e with e;injection e with e;omega);have N:=R.lt;have ad:=O.lt;have a2:=X.lt;have T:=f.size;obtain⟨W6,o,R,f,k,x⟩:=R.put2 f (by omega) (.bool s6) (.slice M Y Q) rfl rfl;replace O:=x O (by omega);replace X:=x X (by omega);replace r:=r.ke k;rw[o];rw[o] at z5;clear o;replace u:=aa R.k2 (aa O.k2 X.k2);exact aM (v:= .tuple #[.slice (some ⟨b5,0,none⟩) ns.length c5,.agg #[.bool s6,.slice M Y Q],.bool true]) (by simp[results,results30,go_sem,R.k2]) rfl ⟨_,_,ns,D,by rw[HN.out.1],z5.drew,r.drew,(fun _=>HN.out.2),f.drew⟩)
   ·obtain⟨m,hm⟩:∃m,j.length=m+1:=⟨j.length-1,by omega⟩;have a3:(0:Int)<(j.length:Int):=by omega
    have e1:(j.length:Int)-1=(m:Int):=by omega
    have i0:(0:Int)<=(m:Int):=by omega
    have i1:(m:Int)<(j.length:Int):=by omega
    obtain⟨q,hq⟩:∃q,j[m]? =some q:=⟨_,aR (by omega)⟩;obtain⟨b,s,B,l,d,s',B',l',d',rfl,bg,g0,g1,g2,g3,hi⟩:=I.at_ hq;have am:j.getLast?=some q:=by rw[byO,hm];exact hq
    have bf:=(ak q (dG hq)).1;have aw:vl i=decide (q≠0):=by
     unfold vl;rw[ac.out,ap.out,am,bxH,iQ,iQ];exact⟨fun h e=>h.2.2 (by rw[e]),fun h=>⟨H,rfl,fun e=>h (by injection e)⟩⟩
    have aq:=aB aw;have ax:=aB am;clear hq hm h0 aw am;go_wp2_with fail;refine(SV q _ _ hi (by unfold aJ at al;omega)).mono ?_;rintro e8 w8 ⟨rfl,af⟩;replace R:=R.be af;replace O:=O.be af;replace u:=aa R.g2 O.g2;replace k:=Keep.be af;replace n:=n.ke k;replace f:=aC f af;replace I:=I.be af;by_cases U:q=0
    ·have z:decide (q=0)=true:=by simpa using U
     have t:vl i=false:=by rw[aq.out];simpa using U
     have G:=aB t;rw[z];clear z t U;go_wp2_with fail;go_region
     all_goals (
      go_wp2_with fail;have N:=R.lt;have ad:=O.lt;have T:=f.size;obtain⟨W6,o,R,f,k,x⟩:=R.put2 f (by omega) (.bool Z) (.slice J V P) rfl rfl;replace O:=x O (by omega);replace n:=n.ke k;rw[o];clear o;replace u:=aa R.k2 O.k2;exact aM (v:= .tuple #[.slice none 0 0,.agg #[.bool Z,.slice J V P],.bool false]) (by simp[results,results30,go_sem,R.k2]) rfl ⟨_,_,[],1,by rw[G.out],WholeAt.nil _ _ _,n.drew,(fun h=>by rw[G.out] at h;cases h),f.drew⟩)
    ·have z:decide (q=0)=false:=by simpa using U
     have t:vl i=true:=by rw[aq.out];simpa using U
     have ah:aN j:=(JB j).2 (by rw[ax.out];intro e;injection e with e;exact U e);rw[z];clear z U g0 g1 g2 g3 hi;go_wp2_with fail;refine(JD j _ _ (hG.be f) I K KB ak (by omega) (by have:j.length*K<=L*K:=dK _ aj;omega) (by omega) al).mono ?_;rintro S C ⟨b5,n5,c5,ba,D,rfl,a6,y,r,F,E⟩;rw[qB (oO F.pos F.dvd ah)] at y;obtain⟨A5,c9,S,a7⟩:=y.form;simp only[Value.slice.injEq] at S;obtain⟨-,rfl, -⟩:=S;have a5:=R.lt;obtain⟨s6,M,Y,Q,rfl⟩:=r.form;replace R:=R.be E;replace O:=O.be E;replace u:=aa R.g2 O.g2;replace k:=Keep.be E;replace n:=n.ke k;replace f:=aC f E;have ay:∀g:Obj,(C.alloc g).cell? ⟨w.1.size,0,none⟩=some (.bool false):=fun g=>(R.alloc g).cell 0 rfl;have a0:∀g:Obj,(C.alloc g).frozen? ⟨w.1.size,0,none⟩=false:=fun g=>(R.alloc g).free 0;have az:∀g:Obj,(C.alloc g).cell? ⟨w.1.size,1,none⟩=some (.slice none 0 0):=fun g=>(R.alloc g).cell 1 rfl;have a1:∀g:Obj,(C.alloc g).frozen? ⟨w.1.size,1,none⟩=false:=fun g=>(R.alloc g).free 1;have ag:=F.mono (show 1+j.length*K<=1+L*K by have:j.length*K<=L*K:=dK _ aj;omega);have HN:=aB (show vl i=true∧cC j D=cC (aU i) D∧ComDen (aU i) D (1+L*K) from⟨t,by rw[ac.out],by rw[ac.out];exact ag⟩);generalize cC j D=ns at *;clear F ag ah t I;go_wp2_with fail;have N:=R.lt;have ad:=O.lt;have T:=f.size;obtain⟨w7,ae,p,X⟩:=bI C [.bool s6,.slice M Y Q] 60;replace R:=R.be p;replace O:=O.be p;replace k:=Keep.be p;replace f:=aC f p;replace n:=n.ke k;replace r:=r.ke k;rw[ae];clear ae;replace u:=aa R.g2 (aa O.k2 X.g2);replace y:=y.be p;go_region
     all_goals (
      go_wp2_with fail;obtain⟨-,ao⟩:=IntBx.stored (w:=w7) (b:=w.1.size) (m:=0) ⟨_,_,_,_,R,IntAt.zero _⟩ r;have z5:=y.step ao (fun b e=>by injection e with e;injection e with e;omega);have N:=R.lt;have ad:=O.lt;have a2:=X.lt;have T:=f.size;obtain⟨W6,o,R,f,k,x⟩:=R.put2 f (by omega) (.bool s6) (.slice M Y Q) rfl rfl;replace O:=x O (by omega);replace X:=x X (by omega);replace r:=r.ke k;rw[o];rw[o] at z5;clear o;replace u:=aa R.k2 (aa O.k2 X.k2);exact aM (v:= .tuple #[.slice (some ⟨b5,0,none⟩) ns.length c5,.agg #[.bool s6,.slice M Y Q],.bool true]) (by simp[results,results30,go_sem,R.k2]) rfl ⟨_,_,ns,D,by rw[HN.out.1],z5.drew,r.drew,(fun _=>HN.out.2),f.drew⟩)
 ·have z:decide (i.length<=65)=false:=by simpa using H
  have t:vl i=false:=by unfold vl;rw[jA];exact fun h=>H h.1
  have G:=aB t;rw[z];clear z t;go_wp2_with fail;go_region
  all_goals (
   go_wp2_with fail;have N:=R.lt;have ad:=O.lt;have T:=f.size;obtain⟨W6,o,R,f,k,x⟩:=R.put2 f (by omega) (.bool Z) (.slice J V P) rfl rfl;replace O:=x O (by omega);replace n:=n.ke k;rw[o];clear o;replace u:=aa R.k2 O.k2;exact aM (v:= .tuple #[.slice none 0 0,.agg #[.bool Z,.slice J V P],.bool false]) (by simp[results,results30,go_sem,R.k2]) rfl ⟨_,_,[],1,by rw[G.out],WholeAt.nil _ _ _,n.drew,(fun h=>by rw[G.out] at h;cases h),f.drew⟩)
def T1(a:List (List UInt8))(v:Value)(w:World)(c:Glob w)(hv:StrsAt w v a)(g:a.length<=1073741824)(h:a.length<=65->∀l∈a,l.length<=1073741824)(K b:Nat)(d:a.length<=65->∀q∈aU a,RL K q)(e:1+65*K<=b)(f:6*b+8<=aJ):
  Calls prog 30 #[v] w (VB w a (1+65*K)):=
 VD a v w c hv g h K b 65 d id (by decide) e f
def nQ(w:World)(a:List Rat)(e:Ending)(w':World):Prop:=
 ∃b,e= .returned (.tuple #[b,.int .i64 (if a.length<=65 then 0 else 2)])∧StrsAt w' b (if a.length<=65 then a.map cW else [])∧Below w.1.size w w'
def dxT(a:List Rat)(v:Value)(w:World)(J:Glob w)(hv:RatsAt w v a)(K:Nat)(z:∀q∈a,RL K q)(L:K<=1073741824)(hl:a.length<=1073741824):
  Calls prog 31 #[v] w (nQ w (aW aV a)):=by
 obtain⟨A,c,rfl,hc⟩:=hv.form;go_enter func31,ntmps31;go_wp2_with fail;go_loopg [0] a.length (fun k T wr=>∃m,Hid (m=k)∧T= .slice A m c∧m<=a.length∧Hid (aW aV (a.take m)=aW aV a)∧Below w.1.size w wr)
 case atStart=>exact⟨a.length,rfl,rfl,aE,by unfold Hid;rw[aq9],aG _ _⟩
 case round=>
  obtain⟨m,H,rfl,hm,n,u⟩:=hrel;generalize wr=wy at *;have ae:(0:Int)<=(m:Int):=by omega
  cases gk with
  |zero=>
   obtain rfl:m=0:=H.out;have o:Hid (aW aV a=a.take 0):=n.out.symm;have f:=u;clear n;have E:=(hv.be f).cut 0 (by omega);have C:∀q∈a.take (0),RL K q:=fun q i=>z q (lH i);have r:(a.take (0)).length=0:=by rw[bK];omega
   have h:=aB r;clear r;go_wp2_with fail;refine(dxQ (a.take (0)) _ _ (J.be f) E K C L (by rw[h.out];omega)).mono ?_;rintro j V ⟨U,rfl,p,D⟩;obtain⟨x,y,j,Q⟩:=p.form;rw[cH,h.out] at j;subst j;replace f:=aC f D;go_wp2_with fail;refine(VA (0) y x _ (by omega)).mono ?_;rintro O W ⟨rfl,rfl⟩;by_cases g:0<=65
   ·have e:decide (0<=65)=true:=decide_eq_true g;rw[e];clear e;go_wp2;go_ret2;unfold nQ;rw[o.out,h.out,if_pos g,if_pos g];exact⟨_,rfl,p,f⟩
   ·have e:decide (0<=65)=false:=decide_eq_false g;rw[e];clear e;go_wp2;go_ret2;unfold nQ;rw[o.out,h.out,if_neg g,if_neg g];exact⟨_,rfl,StrsAt.nil _ _ _,f⟩
  |succ k=>
   have S:m=k+1:=H.out;subst S;obtain⟨q,i⟩:∃q,a[k]? =some q:=⟨_,aR (by omega)⟩;obtain⟨b,s,B,l,d,s',X,l',Y,rfl,ac,g0,g1,g2,g3,R⟩:=(hv.be u).at_ i;have ad:=(z q (dG i)).1;have M:=zV aV a i;have N:=zW aV a i;have G:=aB M;have I:=aB N;clear M N;have af:((k:Int)+1)<=(a.length:Int):=by omega
   have ag:k+1<=c:=by omega
   have ah:k<=c:=by omega
   have ai:(0:Int)<=(k:Int):=by omega
   go_wp2_with fail;refine(SV q _ _ R (by omega)).mono ?_;rintro Z w1 ⟨rfl,P⟩;have f:=aC u P;by_cases t:q=0
   ·have e:decide (q=0)=true:=by simpa using t
    have F:aV q=true:=e;rw[e];clear e t;go_wp2;go_roundg k
    case rel=>exact⟨k,rfl,by simp,by omega,by unfold Hid;rw[<-G.out F];exact n.out,f⟩
    case measure=>omega
   ·have e:decide (q=0)=false:=by simpa using t
    have F:aV q=false:=e;have o:Hid (aW aV a=a.take (k+1)):=by unfold Hid;rw[<-n.out];exact I.out F
    rw[e];clear e t n G I;have E:=(hv.be f).cut (k+1) (by omega);have C:∀q∈a.take ((k+1)),RL K q:=fun q i=>z q (lH i);have r:(a.take ((k+1))).length=(k+1):=by rw[bK];omega
    have h:=aB r;clear r;go_wp2_with fail;refine(dxQ (a.take ((k+1))) _ _ (J.be f) E K C L (by rw[h.out];omega)).mono ?_;rintro j V ⟨U,rfl,p,D⟩;obtain⟨x,y,j,Q⟩:=p.form;rw[cH,h.out] at j;subst j;replace f:=aC f D;go_wp2_with fail;refine(VA ((k+1)) y x _ (by omega)).mono ?_;rintro O W ⟨rfl,rfl⟩;by_cases g:(k+1)<=65
    ·have e:decide ((k+1)<=65)=true:=decide_eq_true g;rw[e];clear e;go_wp2;go_ret2;unfold nQ;rw[o.out,h.out,if_pos g,if_pos g];exact⟨_,rfl,p,f⟩
    ·have e:decide ((k+1)<=65)=false:=decide_eq_false g;rw[e];clear e;go_wp2;go_ret2;unfold nQ;rw[o.out,h.out,if_neg g,if_neg g];exact⟨_,rfl,StrsAt.nil _ _ _,f⟩
def dX(a b:List Rat):List Rat:=if a=[]∨b=[] then [] else (List.range (a.length+b.length-1)).map (conv (cf a) (cf b))
def x5(a b:List Rat)(i:Nat):cf (dX a b) i=conv (cf a) (cf b) i:=by
 unfold dX;by_cases h:a=[]∨b=[]
 ·rw[if_pos h,eR];rcases h with h|h
  ·rw[h,lK (fun i=>eR i)]
  ·rw[h,sO,lK (fun i=>eR i)]
 ·rw[if_neg h,qA];split
  ·rfl
  ·have d:a.length≠0:=fun e=>h (.inl (bX e));have f:b.length≠0:=fun e=>h (.inr (bX e));exact(rG (fun i c=>bV c) (fun i c=>bV c) (by omega)).symm
def kS(a:List Rat)(D:Int):cC a D=[]↔a=[]:=by unfold cC;exact List.map_eq_nil_iff
def oN(a:List Rat)(D:Int):(cC a D).length=a.length:=cH _
def dzS(a b:List Rat)(D E:Int)(g:0<D)(l:0<E)(d:∀q∈a,(q.den:Int)∣D)(f:∀q∈b,(q.den:Int)∣E):tT (sN (cC a D) (cC b E)) (D*E)=dX a b:=by
 have j:(D:Rat)≠0:=fun e=>(show D≠0 by omega) (Rat.intCast_inj.1 e);have m:(E:Rat)≠0:=fun e=>(show E≠0 by omega) (Rat.intCast_inj.1 e);unfold tT sN dX;by_cases h:a=[]∨b=[]
 ·rw[if_pos (by rw[kS,kS];exact h),if_pos h];rfl
 ·rw[if_neg (by rw[kS,kS];exact h),if_neg h,oN,oN,List.map_map];refine by3 (fun i _=> ?_);show((conv (cf (cC a D)) (cf (cC b E)) i:Int):Rat)/((D*E:Int):Rat)=_
  rw[oD,eJ];have c:conv (fun k=>((cf (cC a D) k:Int):Rat)) (fun k=>((cf (cC b E) k:Int):Rat)) i=D*(E*conv (cf a) (cf b) i):=by
   rw[<-rF,<-eI];refine gL (fun k=> ?_) (fun k=> ?_) i
   ·rw[JC a D d];grind
   ·rw[JC b E f];grind
  rw[c];grind
def V8(f:Nat->Int)(n M:Nat)(h:∀k,k<n->(f k).natAbs<=M):(bW f n).natAbs<=n*M:=by
 induction n with
 |zero=>simp[bW]
 |succ n a=>
  rw[bW,aq2];have b:=a (fun k e=>h k (by omega));have c:=h n (by omega);have d:=bz2 (bW f n) (f n);omega
def dzT{xs ys:List Int}{K:Nat}(b:∀n∈xs,nl n.natAbs<=K)(c:∀n∈ys,nl n.natAbs<=K)(f:xs.length+ys.length<=1073741824):∀n∈sN xs ys,nl n.natAbs<=2*K+1:=by
 intro n hn;unfold sN at hn;split at hn
 ·cases hn
 ·obtain⟨i,a,rfl⟩:=List.mem_map.1 hn;rw[List.mem_range] at a;refine cJ ?_;have d:(conv (cf xs) (cf ys) i).natAbs<=(i+1)*BN^(2*K):=by
   unfold conv
   refine V8 _ _ _ (fun k _=> ?_);rw[fL,Nat.two_mul];exact wY (iU b k) (iU c _)
  have e:(i+1)*BN^(2*K)<BN*BN^(2*K):=bxF (by unfold BN;omega) (d7 (by decide));rw[dH,dN _ BN];omega
def x6(w:World)(a b:List (List UInt8))(e:Ending)(w':World):Prop:=
 if vl a=true∧vl b=true then nQ w (aW aV (dX (aU a) (aU b))) e w' else∃c,e= .returned (.tuple #[c,.int .i64 1])∧StrsAt w' c []∧Below w.1.size w w'
def dzU(a b:List (List UInt8))(va vb:Value)(w:World)(g:Glob w)(ha:StrsAt w va a)(al:StrsAt w vb b)(ax:a.length<=1073741824)(ay:b.length<=1073741824)(K:Nat)
  (an:a.length<=65->∀l∈a,l.length<=1073741824)(ao:b.length<=65->∀l∈b,l.length<=1073741824)(ac:a.length<=65->∀q∈aU a,RL K q)(ad:b.length<=65->∀q∈aU b,RL K q)(hK:K<=4194304):
  Calls prog 8 #[va,vb] w (x6 w a b):=by
 obtain⟨A,c,rfl,hc⟩:=ha.form;obtain⟨A',c',rfl,a1⟩:=al.form;go_enter func8,ntmps8;go_wp2_with fail;refine(T1 a _ _ g ha ax an K (1+65*K) ac aE (by unfold aJ;omega)).mono ?_;rintro e1 o ⟨v1,a6,xs,D,rfl,i,f,ar,am⟩;obtain⟨A1,c1,rfl,a2⟩:=i.form;obtain⟨Q,G,O,J,rfl⟩:=f.form;go_wp2_with fail;have e:Below o.1.size o (o.alloc (.cells #[.bool Q,.slice G O J] 60)):=(aG _ _).alloc aE _;have X:=Bx.new o [.bool Q,.slice G O J] 60;replace i:=i.be e;replace f:=f.be e;have d:=aC am e;clear e;generalize a4:o.1.size=gx at *;generalize o.alloc (.cells #[.bool Q,.slice G O J] 60)=w2 at *;refine(T1 b _ _ (g.be d) (al.be d) ay ao K (1+65*K) ad aE (by unfold aJ;omega)).mono ?_;rintro e3 p ⟨v3,a7,ys,E,rfl,N,j,au,C⟩;obtain⟨A3,c3,rfl,a3⟩:=N.form;obtain⟨R,H,P,L,rfl⟩:=j.form;replace X:=X.be C;replace i:=i.be C;replace f:=f.be C;replace d:=aC d C;cases hva:vl a with
 |false=>
  have r:Hid (¬(vl a=true∧vl b=true)):=by unfold Hid;rw[hva];simp
  go_wp2;go_ret2;unfold x6;rw[if_neg r.out];exact⟨_,rfl,StrsAt.nil _ _ _,d.alloc d.size _⟩
 |true=>
  cases hvb:vl b with
  |false=>
   have r:Hid (¬(vl a=true∧vl b=true)):=by unfold Hid;rw[hvb];simp
   go_wp2;go_ret2;unfold x6;rw[if_neg r.out];exact⟨_,rfl,StrsAt.nil _ _ _,d.alloc d.size _⟩
  |true=>
   obtain⟨rfl,k⟩:=ar hva;obtain⟨rfl,m⟩:=au hvb;obtain⟨p1, -, -⟩:=pJ hva;obtain⟨p2, -, -⟩:=pJ hvb;have r:Hid (vl a=true∧vl b=true):=⟨hva,hvb⟩;have lx:(cC (aU a) D).length<=65:=by rw[oN];unfold aU;rw[cH];exact p1
   have ly:(cC (aU b) E).length<=65:=by rw[oN];unfold aU;rw[cH];exact p2
   have V:=sA _ D K _ (ac p1) k.nl_;have T:=sA _ E K _ (ad p2) m.nl_;have aj:=dzS (aU a) (aU b) D E k.pos m.pos k.dvd m.dvd;have I:=aB aj;have U:=dzT V T (by omega);have aw:=gT D E _ _ k.nl_ m.nl_;have bD:=k.nl_;have bE:=m.nl_;have ht:=fun W z B=>dzJ (cC (aU a) D) (cC (aU b) E) (.slice A1 (cC (aU a) D).length c1) (.slice A3 (cC (aU b) E).length c3) W z B (K+(1+65*K)) V T (by unfold aJ;omega) (by omega) (by omega);have hm:=fun W v u z B=>jB D E v u W z B (by omega);have aq:(sN (cC (aU a) D) (cC (aU b) E)).length<=130:=by
    unfold sN;split
    ·simp
    ·rw[cH,bxZ];omega
   have ap:=fun W v u g z B=>dzW (sN (cC (aU a) D) (cC (aU b) E)) (D*E) v u W g z B (2*(K+(1+65*K))+1) U (by omega) (by unfold aJ;omega) (by omega);rw[I.out] at ap;have ai:∀q∈dX (aU a) (aU b),RL (2*(K+(1+65*K))+1) q:=by
    rw[<-I.out];intro q hq;unfold tT at hq;obtain⟨n,hn,rfl⟩:=List.mem_map.1 hq;exact CA n (D*E) _ (U n hn) (by omega) (by omega)
   have az:(dX (aU a) (aU b)).length<=130:=by
    rw[<-I.out];unfold tT;rw[cH];exact aq
   have ag:=fun W v g h=>dxT (dX (aU a) (aU b)) v W g h (2*(K+(1+65*K))+1) ai (by omega) (by omega);unfold dW at hm;unfold nQ at ag;obtain⟨er,ah⟩:∃er,Hid ((if (aW aV (dX (aU a) (aU b))).length<=65 then (0:Int) else 2)=er):=⟨_,rfl⟩;rw[ah.out] at ag;generalize ak:dX (aU a) (aU b)=TR at *;have av:=aB ak;clear ak;generalize sN (cC (aU a) D) (cC (aU b) E)=TL at *;generalize cC (aU a) D=NA at *;generalize cC (aU b) E=NB at *;generalize D*E=DE at *;clear ar au hva hvb aj I k m V T U aw bD bE ai az aq p1 p2 ac ad an ao;have e:Below p.1.size p (p.alloc (.cells #[.bool R,.slice H P L] 60)):=(aG _ _).alloc aE _;go_wp2_with fail;have Y:=Bx.new p [.bool R,.slice H P L] 60;replace i:=(i.be e).drew;replace N:=(N.be e).drew;replace f:=(f.be e).drew;replace j:=(j.be e).drew;replace X:=(X.be e).drew;replace d:=(aC d e).drew;have a0:=C.size;clear e;generalize a5:p.1.size=gy at *;generalize p.alloc (.cells #[.bool R,.slice H P L] 60)=w4 at *;replace Y:=Y.drew;replace s:=X.cell 0 rfl;replace t:=X.cell 1 rfl;replace x:=Y.cell 0 rfl;replace y:=Y.cell 1 rfl
   go_region_held3 (fun S=>S.cell? ⟨gx,0,none⟩=some (.bool Q)∧S.cell? ⟨gx,1,none⟩=some (.slice G O J)∧S.cell? ⟨gy,0,none⟩=some (.bool R)∧S.cell? ⟨gy,1,none⟩=some (.slice H P L))
    (first|(with_reducible exact⟨s,t,x,y⟩))
    (first
     |(go_at_call 32;refine(ht _ i N).mono ?_;rintro e5 w5 ⟨v5,rfl,Z,F⟩;replace X:=X.be F;replace Y:=Y.be F;replace s:=X.cell 0 rfl;replace t:=X.cell 1 rfl;replace x:=Y.cell 0 rfl;replace y:=Y.cell 1 rfl;replace f:=f.be F;replace j:=j.be F;replace d:=aC d F)
     |(go_at_call 34;refine(hm _ _ _ f j).mono ?_;rintro e6 w6 ⟨v6,rfl,h6,M⟩;replace X:=X.be M;replace Y:=Y.be M;replace s:=X.cell 0 rfl;replace t:=X.cell 1 rfl;replace x:=Y.cell 0 rfl;replace y:=Y.cell 1 rfl;replace Z:=Z.be M;replace d:=aC d M)
     |(go_at_call 33;refine(ap _ _ _ (g.be d) Z h6).mono ?_;rintro e7 w7 ⟨v7,rfl,h7,ae⟩;replace X:=X.be ae;replace Y:=Y.be ae;replace s:=X.cell 0 rfl;replace t:=X.cell 1 rfl;replace x:=Y.cell 0 rfl;replace y:=Y.cell 1 rfl;replace d:=aC d ae)
     |(go_at_call 31;refine(ag _ _ (g.be d) h7).mono ?_;rintro e8 w8 ⟨v8,rfl,h8,af⟩;replace X:=X.be af;replace Y:=Y.be af;replace s:=X.cell 0 rfl;replace t:=X.cell 1 rfl;replace x:=Y.cell 0 rfl;replace y:=Y.cell 1 rfl;replace d:=aC d af))
   go_wp2;go_ret2;unfold x6;rw[if_pos r.out,av.out];unfold nQ;rw[ah.out];exact⟨_,rfl,h8,d⟩
end Go.Proofs.YtjgbleapffgbcaaGreatDoor
namespace Go.Proofs.YtjgbleapffgbcaaGreatDoor
open Sos Lib
variable{K:Nat}{q:Rat}
def iG(h:1<=K):RL K 0:=⟨by show nl 0<=K;rw[dO];omega,by show nl 1<=K;exact aH (cJ (by decide)) h⟩
def C7(h:RL K q):RL K (-q):=⟨by rw[show(-q).num= -q.num from rfl,azJ];exact h.1,h.2⟩
def bU{L:Nat}(h:RL K q)(a:K<=L):RL L q:=⟨aH h.1 a,aH h.2 a⟩
def JA{n k:Nat}(h:(decDigits n).length<=k)(d:k<=18):nl n<=1:=by
 refine cJ ?_;have a:=tI (oL n);rw[mQ] at a;have b:10^(decDigits n).length<=10^18:=cO (by decide) (by omega);have c:10^18<BN^1:=by decide
 omega
def lS{t:List UInt8}(h:cL t=some q)(c:t.length<=18):RL 1 q:=by
 have e:=tL h;have a:(cW q).length<=18:=by rw[e];exact c
 unfold cW at a;rw[dA,dA] at a;refine⟨JA (k:=18) (by omega) (by decide),?_⟩;by_cases b:q.den=1
 ·rw[b];exact cJ (by decide)
 ·rw[if_neg b,eG] at a;exact JA (k:=18) (by omega) (by decide)
def pI{a:List (List UInt8)}(h:∀l∈a,l.length<=18):∀q∈aU a,RL 1 q:=fun q c=>by
 obtain⟨l,b,rfl⟩:=List.mem_map.1 c;cases hr:cL l with
 |none=>exact iG (mC 1)
 |some q=>exact lS hr (h l b)
def cx1(h:RL K q):(cW q).length<=40*K+4:=by
 have a:=wR q.num.natAbs K h.1;have b:=wR q.den K h.2;unfold cW;rw[dA,dA];have c:(if q.num<0 then [(45:UInt8)] else []).length<=1:=by split<;>simp
 have d:(if q.den=1 then [] else (47:UInt8) :: decDigits q.den).length<=(decDigits q.den).length+1:=by split<;>simp
 omega
def tS(Q:List Rat):aU (Q.map cW)=Q:=by
 unfold aU;rw[List.map_map];have:((fun l=>(cL l).getD 0) ∘ cW)=id:=funext (fun q=>by show(cL (cW q)).getD 0=q;rw[SU];rfl);rw[this,List.map_id]
def dzQ(Q:List Rat):(Q.map cW).all rd=true:=by
 rw[List.all_eq_true];intro l a;obtain⟨q,_,rfl⟩:=List.mem_map.1 a;unfold rd;rw[SU];rfl
def dzR{Q:List Rat}(h:Q.length<=65)(a:aN Q):vl (Q.map cW)=true:=by
 unfold vl;rw[iQ,tS,cH];exact⟨h,dzQ Q,(JB Q).1 a⟩
end Go.Proofs.YtjgbleapffgbcaaGreatDoor
namespace Go.Proofs.YtjgbleapffgbcaaGreatDoor
variable{l:List Nat}
def aD:Nat:=4294967296
def mV:0<aD:=by decide
def nv:List Nat->Nat
 |[]=>0
 |d :: l=>d+aD*nv l
def Dg(l:List Nat):Prop:=∀d∈l,d<aD
def rB:nv []=0:=rfl
def mF(l m:List Nat):nv (l++m)=nv l+aD^l.length*nv m:=by
 induction l with
 |nil=>simp[nv]
 |cons d l a=>
  rw[List.cons_append,nv,nv,a,List.length_cons,Nat.pow_succ,Nat.mul_add,Nat.mul_comm (aD^l.length) aD,Nat.mul_assoc];omega
def Dg.set(h:Dg l)(i:Nat){x:Nat}(c:x<aD):Dg (l.set i x):=fun d b=>by
 rcases List.mem_or_eq_of_mem_set b with a|a
 ·exact h d a
 ·rw[a];exact c
def Dg.zeros(n:Nat):Dg (List.replicate n 0):=fun d a=>by rw[(List.mem_replicate.1 a).2];exact mV
def Dg.take(h:Dg l)(n:Nat):Dg (l.take n):=fun d a=>h d (List.mem_of_mem_take a)
def Dg.get(h:Dg l){i d:Nat}(hi:l[i]? =some d):d<aD:=h d (List.mem_of_getElem? hi)
def Dg.trim(h:Dg l):Dg (aW aV l):=fun d a=>h d (rC a)
def zN(b:aN l)(a:l≠[]):aD^(l.length-1)<=nv l:=by
 obtain⟨m,d,rfl⟩:∃m d,l=m++[d]:=⟨l.dropLast,l.getLast a,(List.dropLast_concat_getLast a).symm⟩;have c:d≠0:=b d (by simp);rw[mF,nv,rB,Nat.mul_zero,Nat.add_zero,List.length_append,List.length_singleton,Nat.add_sub_cancel];have:aD^m.length*1<=aD^m.length*d:=Nat.mul_le_mul_left _ (by omega);omega
def NX(b:aN l)(h:nv l=0):l=[]:=by
 by_cases a:l=[]
 ·exact a
 ·have:=zN b a;have c:0<aD^(l.length-1):=Nat.pow_pos mV;omega
