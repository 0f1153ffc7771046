/- Laws. -/
import Derived.Test.YticcgnnefilhcaaGreatDoorT11
import Derived.Test.YticcgnnefilhcaaGreatDoorT12
import Derived.Test.YticcgnnefilhcaaGreatDoorT13
set_option linter.all false
set_option maxHeartbeats 8000000
set_option maxRecDepth 99999
namespace Go.Proofs.YticcgnnefilhcaaGreatDoor
open Go.RowKit Sos Tryz
variable{a b g l q q0 r xs ys:List Int}{E c d t:List Value}{D F m m0 n x:Int}{B K KB L i:Nat}{w w':World}{A:Option Addr}{u v:Value}{e:TypeId}
def VF(q:Rat):q=(q.num:Rat)/(q.den:Rat):=by
 conv=>lhs;rw[<-aq8 q,Rat.mkRat_eq_div]
def VG(q:Rat):(q.den:Rat)≠0:=fun e=>q.den_nz (by exact_mod_cast e)
def xI(q:Rat)(D:Int)(h:(q.den:Int)∣D):((q.num*D.tdiv (q.den:Int):Int):Rat)=q*D:=by
 obtain⟨t,rfl⟩:=h;have a:(q.den:Int)≠0:=by have:=q.den_nz;omega
 rw[Int.mul_tdiv_cancel_left _ a,eJ,eJ,dzN];have b:=VF q;have c:=VG q;generalize (q.num:Rat)=n at *;generalize (q.den:Rat)=d at *;rw[b];grind
def VH(q:Rat)(D:Int)(h:q.den=1):((q.num*D:Int):Rat)=q*D:=by
 rw[eJ];congr 1;exact Rat.ext rfl h.symm
def VI(w:World)(q:Rat)(D:Int)(B:Nat)(e:Ending)(w':World):Prop:=∃v n,e= .returned v∧IntAt w' v n∧(n:Rat)=q*D∧nl n.natAbs<=B∧Below w.1.size w w'
def VJ(q:Rat)(D:Int)(v u:Value)(w:World)(I:RatAt w v q)(g:IntAt w u D)(ae:(q.den:Int)∣D)(K KB:Nat)(hK:RL K q)(X:nl D.natAbs<=KB)(ac:5*K+KB+8<=aJ):
  Calls prog 133 #[v,u] w (VI w q D (K+KB)):=by
 unfold aJ at ac;obtain⟨s,A,k,c,s',L,Z,P,rfl⟩:=I.form;obtain⟨sD,O,kD,T,rfl⟩:=g.form;obtain⟨V,ah⟩:=hK;have ai:=mY q;obtain⟨W,U,d,a,b,R⟩:=gE w [.bool s,.slice A k c,.bool s',.slice L Z P] 47 [.bool sD,.slice O kD T] 43 [.bool false,.slice none 0 0] 43;have l:=aa a.g4 (aa b.g2 R.g2);go_enter func133,ntmps133;go_wp2_with fail;(try rw[U]);clear U;have hn:=(I.be d).num;have j:=(I.be d).den;replace g:=g.be d;refine(g9 _ _ _ j (by omega)).mono ?_;rintro e1 w1 ⟨rfl,y⟩;replace a:=a.be y;replace b:=b.be y;replace R:=R.be y;replace l:=aa a.k4 (aa b.k2 R.g2);replace f:=Keep.be y;replace hn:=hn.ke f;replace j:=j.ke f;replace g:=g.ke f;replace d:=aC d y;by_cases h:bS q=0
 ·have C:decide (bS q=0)=true:=by simpa using h
  rw[C];have p:=VH q D (fV.1 h);have H:=gT q.num D _ _ V X;have m:=fun W v u h i=>jB q.num D v u W h i (by omega);unfold dW at m;generalize q.num*D=n at *;have G:=aB p;clear C h p;go_wp2_with fail;refine(m _ _ _ hn g).mono ?_;rintro e2 w2 ⟨v2,rfl,i,F⟩;obtain⟨s2,M,k2,Q,rfl⟩:=i.form;replace a:=a.be F;replace b:=b.be F;replace R:=R.be F;replace l:=aa a.k4 (aa b.k2 R.g2);replace d:=aC d F;clear m;go_wp2_with fail;obtain⟨W6,r,R,d,f,x⟩:=R.put2 d (by omega) (.bool s2) (.slice M k2 Q) rfl rfl;replace a:=x a (by omega);replace b:=x b (by omega);replace i:=i.ke f;rw[r];clear r;replace l:=aa a.k4 (aa b.k2 R.k2);exact aM (v:= .agg #[.bool s2,.slice M k2 Q]) (by simp[results,results133,go_sem,R.k2]) rfl ⟨_,n,rfl,i,G.out,H,d⟩
 ·have C:decide (bS q=0)=false:=by simpa using h
  have Y:bS q=q.den:=mI (fun e=>h (fV.2 e));rw[C];have p:=xI q D ae;rw[<-Y] at p;have ad:=jN D (bS q) _ X;have H:=gT q.num (D.tdiv (bS q)) _ _ V ad;have J:=fun W v u ab i=>mZ D (bS q) v u W ab i h (by omega);have m:=fun W v u h i=>jB q.num (D.tdiv (bS q)) v u W h i (by omega);unfold dW at m J;generalize q.num*D.tdiv (bS q)=n at *;generalize D.tdiv (bS q)=t at *;have G:=aB p;clear C h p Y;go_wp2_with fail;replace hn:=hn.drew;replace j:=j.drew;replace g:=g.drew;replace a:=a.drew;replace b:=b.drew;replace R:=R.drew;replace d:=d.drew;replace l:=aa a.k4 (aa b.k2 R.g2);have af:w.1.size+1+1≠w.1.size:=by omega
  have ag:w.1.size+1+1≠w.1.size+1:=by omega
  go_region_held3 (fun w'=>C4 w' w.1.size (.bool s) (.slice A k c) (.bool s') (.slice L Z P)∧C2 w' (w.1.size+1) (.bool sD) (.slice O kD T))
   (first|(with_reducible exact⟨a.k4,b.k2⟩)|(refine⟨?_,?_⟩<;>(repeat (first|with_reducible exact a.k4|with_reducible exact b.k2|with_reducible refine kK af ?_|with_reducible refine fQ ag ?_))))
   (first
    |(go_at_call 82;refine(J _ _ _ g j).mono ?_;rintro e4 w4 ⟨v4,rfl,E,z⟩;obtain⟨s4,A4,k4,c4,rfl⟩:=E.form;replace a:=a.be z;replace b:=b.be z;replace R:=R.be z;replace l:=aa a.k4 (aa b.k2 R.g2);replace f:=Keep.be z;replace hn:=hn.ke f;replace j:=j.ke f;replace g:=g.ke f;(try replace o:=o.ke f);replace d:=aC d z)
    |(go_at_call 56;refine(m _ _ _ hn E).mono ?_;rintro e5 w5 ⟨v5,rfl,o,B⟩;obtain⟨s5,N,k5,S,rfl⟩:=o.form;replace a:=a.be B;replace b:=b.be B;replace R:=R.be B;replace l:=aa a.k4 (aa b.k2 R.g2);replace f:=Keep.be B;replace hn:=hn.ke f;replace j:=j.ke f;replace g:=g.ke f;(try replace E:=E.ke f);replace d:=aC d B))
  clear J m;go_wp2_with fail;obtain⟨W6,r,R,d,f,x⟩:=R.put2 d (by omega) (.bool s5) (.slice N k5 S) rfl rfl;replace a:=x a (by omega);replace b:=x b (by omega);replace o:=o.ke f;rw[r];clear r;replace l:=aa a.k4 (aa b.k2 R.k2);exact aM (v:= .agg #[.bool s5,.slice N k5 S]) (by simp[results,results133,go_sem,R.k2]) rfl ⟨_,n,rfl,o,G.out,H,d⟩
def tT(a:List Int)(d:Int):List Rat:=a.map (fun n:Int=>(n:Rat)/(d:Rat))
def CA(n d:Int)(K:Nat)(hn:nl n.natAbs<=K)(b:nl d.natAbs<=K)(a:1<=K):RL K ((n:Rat)/d):=by
 rw[<-Rat.divInt_eq_div];unfold RL;rw[Rat.num_divInt,Rat.den_divInt];constructor
 ·refine aH (cK ?_) hn;rw[Int.natAbs_ediv_of_dvd]
  ·refine aH (pQ _ _) ?_;rw[fL];have:d.sign.natAbs<=1:=by
    rcases Y7 d 0 with h|h|h
    ·rw[bxD h];decide
    ·rw[h];decide
    ·rw[azZ h];decide
   calc d.sign.natAbs*n.natAbs<=1*n.natAbs:=dK _ this
    _=n.natAbs:=bxT _
  ·exact azJ (Int.gcd_dvd_right ..)
 ·split
  ·rw[mJ (by decide) (by decide)];exact a
  ·exact aH (cK (pQ _ _)) b
def cq7(f:List Int)(x:Int)(v Z:Value)(w:World)(E:Glob w)(hv:WholeAt w v f)(U:IntAt w Z x)(K:Nat)(hK:∀n∈f,nl n.natAbs<=K)(ai:nl x.natAbs<=K)(ah:5*K+4<=aJ)(hl:f.length<=1073741824):
  Calls prog 130 #[v,Z] w fun e w'=>∃g,e= .returned (.slice (some ⟨g,0,none⟩) f.length f.length)∧w.1.size<=g∧OwnR w' g (tT f x)∧Below w.1.size w w':=by
 obtain⟨A,c,rfl,hc⟩:=hv.form;obtain⟨t,p,r,q,rfl⟩:=U.form;have Y:(tT f x).length=f.length:=cH _;have D:=aB Y;clear Y;have h:Bx (w.alloc (.cells #[.bool t,.slice p r q] 43)) (w.1.size) [.bool t,.slice p r q] 43:=Bx.newAt w [.bool t,.slice p r q] 43 (w.1.size) (by simp);have a:Below w.1.size w (w.alloc (.cells #[.bool t,.slice p r q] 43)):=(aG _ _).alloc (by simp) _;go_enter func130,ntmps130;go_wp2_with (at_make;refine jT rfl rfl 47 _ 4 64 underlying104 OC rfl (by decide) f.length rfl rfl rfl rfl (by omega) (by omega) ?_;intro w1 al S F);have L:OwnR w1 (w.1.size+1) (List.replicate f.length 0):=by
  have:=OwnR.made S;rw[World.size_alloc] at this;exact this
 replace h:=h.be F;replace a:=aC a F;clear S al F;go_loopg [13] f.length (fun k i wr=>∃j,Hid (j+k=f.length)∧i= .int .i64 j∧OwnR wr (w.1.size+1) ((tT f x).take j++List.replicate k 0)∧Bx wr w.1.size [.bool t,.slice p r q] 43∧Below w.1.size w wr)
 case atStart=>exact⟨0,by unfold Hid;omega,rfl,by simpa using L,h,a⟩
 case round=>
  clear L h a;obtain⟨j,u,rfl,R,h,a⟩:=hrel;generalize wr=o at *;have aw:(0:Int)<=(j:Int):=by omega
  cases gk with
  |zero=>
   have hj:j=f.length:=u.out;subst hj;rw[F8,fH,cZ (by rw[D.out];exact aE)] at R;go_wp2;go_ret
   first
    |exact⟨_,rfl,Nat.le_succ _,R,a⟩
    |exact⟨R,a⟩
  |succ k=>
   obtain⟨n,hn⟩:∃n,f[j]? =some n:=⟨_,aR (by have:=u.out;omega)⟩;obtain⟨b,s,B,l,d,rfl,av,g0,g1,I⟩:=(hv.be a).at_ hn;have ak:=hK n (dG hn);have ax:(j:Int)<(f.length:Int):=by have:=u.out;omega
   have V:(tT f x)[j]? =some ((n:Rat)/x):=by unfold tT;rw[iK,hn];rfl
   have M:=rI (ys:=tT f x) (z:=(0:Rat)) (j:=j) (k:=k+1) (by rw[D.out];exact u.out);have N:=rH (z:=(0:Rat)) (k:=k) V;have O:j<((tT f x).take j++List.replicate (k+1) 0).length:=by rw[M,D.out];have:=u.out;omega
   have ag:=aB N;clear V M N hn;have J:=U.be a;have H:=fun W E h1 C=>I3 n x (.agg #[.bool s,.slice B l d]) (.agg #[.bool t,.slice p r q]) W E h1 C K ak ai ah;unfold iF at H;generalize (n:Rat)/x=y at *;have ac:∀m:Obj,(o.alloc m).cell? ⟨w.1.size,0,none⟩=some (.bool t):=fun m=>(h.alloc m).cell 0 rfl;have ae:∀m:Obj,(o.alloc m).frozen? ⟨w.1.size,0,none⟩=false:=fun m=>(h.alloc m).free 0;have ad:∀m:Obj,(o.alloc m).cell? ⟨w.1.size,1,none⟩=some (.slice p r q):=fun m=>(h.alloc m).cell 1 rfl;have af:∀m:Obj,(o.alloc m).frozen? ⟨w.1.size,1,none⟩=false:=fun m=>(h.alloc m).free 1;go_wp2_with fail;replace R:=R.be ((aG o.1.size o).alloc aE (.cells #[.bool s,.slice B l d] 43));have ap:=h.lt;have ay:=a.size;replace h:=h.alloc (.cells #[.bool s,.slice B l d] 43);have X:=Bx.newAt o [.bool s,.slice B l d] 43 (o.1.size) (by simp);replace a:=a.alloc a.size (.cells #[.bool s,.slice B l d] 43);replace P:=Keep.alloc o (.cells #[.bool s,.slice B l d] 43);replace I:=I.ke P;replace J:=J.ke P;generalize o.alloc (.cells #[.bool s,.slice B l d] 43)=W1 at *;replace an:=h.cell 0 rfl;replace ao:=h.cell 1 rfl;replace aq:=X.cell 0 rfl;replace ar:=X.cell 1 rfl;clear ac ad ae af g0 g1;refine(H _ (E.be a) I J).mono ?_;rintro e2 w2 ⟨v2,rfl,C,G⟩;obtain⟨s2,A2,k2,c2,s3,A3,k3,c3,rfl⟩:=C.form;replace R:=R.be G;replace h:=h.be G;replace a:=aC a G;obtain⟨s',B',l',d',a0,am,az,au,q0,q1,q2,q3, -⟩:=R.at_ (aR O);have f0:=R.free (j*4);have f1:=R.free (j*4+1);have f2:=R.free (j*4+2);have f3:=R.free (j*4+3);clear H;go_wp2_with fail;obtain⟨Q,T⟩:=R.stored O C;rw[ag.out] at Q;have ab:Bx _ w.1.size [.bool t,.slice p r q] 43:=(T.2.1 w.1.size (by omega)).trans h;have aj:=jD a T (by omega);go_roundg k
   case rel=>exact⟨j+1,by have:=u.out;unfold Hid;omega,by go_num,Q,ab,aj⟩
   case measure=>omega
def cxE(a:List Int)(x:Int)(v b:Value)(w:World)(f:Glob w)(hv:WholeAt w v a)(o:IntAt w b x)(K:Nat)(i:∀n∈a,nl n.natAbs<=K)(k:nl x.natAbs<=K)(j:5*K+4<=aJ)(m:a.length<=1073741824):
  Calls prog 130 #[v,b] w fun e w'=>∃d,e= .returned d∧RatsAt w' d (tT a x)∧Below w.1.size w w':=by
 refine(cq7 a x v b w f hv o K i k j m).mono ?_;rintro e w' ⟨g,rfl, -,h,l⟩;have c:=h.rats a.length (by unfold tT;rw[cH];exact aE);rw[show(tT a x).length=a.length by unfold tT;exact cH _] at c;exact⟨_,rfl,c,l⟩
def bzO(b:List Int)(x:Int)(v r:Value)(w:World)(i:Glob w)(hv:WholeAt w v b)(o:IntAt w r x)(K:Nat)(j:∀n∈b,nl n.natAbs<=K)(k:nl x.natAbs<=K)(u:1<=K)(y:K<=1073741824)(l:b.length<=1073741824):
  Calls prog 58 #[v,r] w fun e w'=>∃p,e= .returned p∧StrsAt w' p ((tT b x).map cW)∧Below w.1.size w w':=by
 obtain⟨A,c,rfl,F⟩:=hv.form;obtain⟨h,d,g,f,rfl⟩:=o.form;have C:Bx (w.alloc (.cells #[.bool h,.slice d g f] 43)) (w.1.size) [.bool h,.slice d g f] 43:=Bx.newAt w [.bool h,.slice d g f] 43 (w.1.size) (by simp);have a:Below w.1.size w (w.alloc (.cells #[.bool h,.slice d g f] 43)):=(aG _ _).alloc (by simp) _;go_enter func58,ntmps58;go_wp2_with fail;generalize w.alloc (.cells #[.bool h,.slice d g f] 43)=W at *;refine(cxE b x _ _ _ (i.be a) (hv.be a) (o.be a) K j k (by unfold aJ;omega) l).mono ?_;rintro D I ⟨G,rfl,s,z⟩;replace a:=aC a z;go_wp2_with fail
 ((with_reducible refine(bzI (tT b x) _ _ (i.be a) s K (fun q m=>by
  unfold tT at m;obtain⟨n,hn,rfl⟩:=List.mem_map.1 m;exact CA n x K (j n hn) k u) y (by unfold tT;rw[cH];exact l)).mono ?_))
 rintro E J ⟨H,rfl,t,B⟩;go_wp2;go_ret;exact⟨_,rfl,t,aC a B⟩
def cC(a:List Rat)(D:Int):List Int:=a.map (fun q=>q.num*D.tdiv (q.den:Int))
def JC(a:List Rat)(D:Int)(h:∀q∈a,(q.den:Int)∣D)(i:Nat):((cf (cC a D) i:Int):Rat)=cf a i*D:=by
 unfold cC cf;rw[eI,eI,iK];cases hq:a[i]? with
 |none=>
  show((0:Int):Rat)=0*(D:Rat)
  rw[aqR];grind
 |some q=>exact xI q D (h q (dG hq))
def sA(a:List Rat)(D:Int)(K B:Nat)(c:∀q∈a,RL K q)(b:nl D.natAbs<=B):∀n∈cC a D,nl n.natAbs<=K+B:=by
 intro n hn;unfold cC at hn;obtain⟨q,d,rfl⟩:=List.mem_map.1 hn;exact gT _ _ _ _ (c q d).1 (jN _ _ _ b)
def VE(w:World)(a:List Rat)(B:Nat)(e:Ending)(w':World):Prop:=
 ∃b n c d D,e= .returned (.tuple #[.slice (some ⟨b,0,none⟩) n c,d])∧w.1.size<=b∧WholeAt w' (.slice (some ⟨b,0,none⟩) n c) (aW aV (cC a D))∧IntAt w' d D∧ComDen a D B∧Below w.1.size w w'
def JD(a:List Rat)(v:Value)(w:World)(hG:Glob w)(hv:RatsAt w v a)(K KB:Nat)(hK:∀q∈a,RL K q)(hl:a.length<=1073741824)(a3:1+a.length*K<=KB)(a4:K<=KB)(a5:6*KB+8<=aJ):
  Calls prog 64 #[v] w (VE w a (1+a.length*K)):=by
 obtain⟨A,c,rfl,hc⟩:=hv.form;have R:Bx (w.alloc (.cells #[.bool false,.slice none 0 0] 43)) (w.1.size) [.bool false,.slice none 0 0] 43:=Bx.newAt w [.bool false,.slice none 0 0] 43 (w.1.size) (by simp);have f:Below w.1.size w (w.alloc (.cells #[.bool false,.slice none 0 0] 43)):=(aG _ _).alloc (by simp) _;go_enter func64,ntmps64;go_wp2_with fail;generalize w.alloc (.cells #[.bool false,.slice none 0 0] 43)=W at *;refine(VM a _ _ (hG.be f) (hv.be f) K KB hK hl a3 a4 (by omega)).mono ?_;rintro e1 g ⟨v1,D,rfl,h1,ag,af⟩;obtain⟨s1,A1,k1,c1,rfl⟩:=h1.form;replace R:=R.be af;replace U:=R.cell 0 rfl;replace ad:=R.free 0;replace V:=R.cell 1 rfl;replace ae:=R.free 1;replace hk:=Keep.be af;replace f:=aC f af;have ak:=ag.nl_;have ax:(cC a D).length=a.length:=cH _;have I:=aB ax;have a9:=sA a D K _ hK ak;clear ax;go_wp2_with (at_make;refine jT rfl rfl 43 _ 2 32 underlying40 dq0 rfl (by decide) a.length rfl rfl rfl rfl (by omega) (by omega) ?_;intro w2 ba au p);have R0:OwnW w2 (g.1.size+1) (List.replicate a.length 0):=by
  have:=OwnW.made au;rw[World.size_alloc] at this;exact this
 have bp:=R.lt;have Z:Below g.1.size g w2:=((aG _ _).alloc aE _).trans (p.mono (by simp));have aj:IntBx w2 g.1.size D:=⟨_,_,_,_,(Bx.new g [.bool s1,.slice A1 k1 c1] 43).be p,h1.be Z⟩;have al:=R.be Z;have am:=aC f Z;clear au ba p Z R h1 f U V ad ae hk;go_loopg [15] a.length (fun k i wr=>∃j,Hid (j+k=a.length)∧i= .int .i64 j∧OwnW wr (g.1.size+1) ((cC a D).take j++List.replicate k 0)∧IntBx wr g.1.size D∧Bx wr w.1.size [.bool false,.slice none 0 0] 43∧Below w.1.size w wr)
 case atStart=>exact⟨0,by unfold Hid;omega,rfl,by simpa using R0,aj,al,am⟩
 case round=>
  clear R0 aj al am;obtain⟨j,H,rfl,N,Y,R,f⟩:=hrel;generalize wr=F at *;have bn:(0:Int)<=(j:Int):=by omega
  obtain⟨P,J,O,L,C,o⟩:=id Y;cases gk with
  |zero=>
   have hj:j=a.length:=H.out;subst hj;rw[F8,fH,cZ (by rw[I.out];exact aE)] at N;have hw:=N.whole a.length (by rw[I.out];exact aE);have ah:=fun W h=>aqT (cC a D) (some ⟨g.1.size+1,0,none⟩) a.length W h (K+(1+a.length*K)) a9 (by unfold aJ at a5;omega) (by rw[I.out];omega);rw[I.out] at ah hw;replace hw:=hw.drew;replace Y:=Y.be (aG _ _).drew;go_wp2_with fail;replace R:=R.drew;replace C:=C.drew;replace o:=o.drew;replace f:=f.drew;have ac:w.1.size≠g.1.size:=by omega
   replace U:=R.cell 0 rfl;replace ad:=R.free 0;replace V:=R.cell 1 rfl;replace ae:=R.free 1;replace Q:=C.cell 0 rfl;replace bb:=C.free 0;replace S:=C.cell 1 rfl;replace bc:=C.free 1;obtain⟨T,HT⟩:∃T,Hid (aW aV (cC a D)=T):=⟨_,rfl⟩;rw[HT.out] at ah
   go_region_held3 (fun w'=>w'.cell? ⟨g.1.size,0,none⟩=some (.bool P)∧w'.cell? ⟨g.1.size,1,none⟩=some (.slice J O L))
    (first|(with_reducible exact⟨Q,S⟩)|(with_reducible exact⟨(aL _ _ _ _ _ _ ac).trans ((aL _ _ _ _ _ _ ac).trans Q),(aL _ _ _ _ _ _ ac).trans ((aL _ _ _ _ _ _ ac).trans S)⟩))
    (first
     |(go_at_call 127;refine(ah _ hw).mono ?_;rintro e6 w6 ⟨rfl,h6,ab⟩;replace o:=o.be ab;replace R:=R.be ab;replace C:=C.be ab;replace Q:=C.cell 0 rfl;replace S:=C.cell 1 rfl;replace U:=R.cell 0 rfl;replace V:=R.cell 1 rfl;replace ad:=R.free 0;replace ae:=R.free 1;replace f:=aC f ab))
   go_wp2_with fail;obtain⟨-,x⟩:=IntBx.stored (w:=w6) (b:=w.1.size) (m:=0) ⟨_,_,_,_,R,IntAt.zero _⟩ o;have z6:=h6.step x (fun b e=>by injection e with e;injection e with e;omega);have zm:=o.ke x.1;have zb:=jD f x aE;obtain⟨z0,z1, -, -, -⟩:=jU (s:=P) (u:= .slice J O L) f aE R;clear x;generalize (w6.setCell ⟨w.1.size,0,none⟩ (.bool P)).setCell ⟨w.1.size,1,none⟩ (.slice J O L)=W6 at *;exact aM (v:= .tuple #[.slice (some ⟨g.1.size+1,0,none⟩) T.length a.length,.agg #[.bool P,.slice J O L]]) (by simp[results,results64,go_sem,z0,z1]) rfl ⟨_,_,_,_,D,rfl,by omega,by rw[HT.out];exact z6,zm,ag,zb⟩
  |succ k=>
   obtain⟨q,M⟩:∃q,a[j]? =some q:=⟨_,aR (by have:=H.out;omega)⟩;obtain⟨b,s,B,m,d,E,r,G,t,rfl,bm,g0,g1,g2,g3,hi⟩:=(hv.be f).at_ M;have a6:=hK q (dG M);have an:=ag.dvd q (dG M);have bo:(j:Int)<(a.length:Int):=by have:=H.out;omega
   have aw:(cC a D)[j]? =some (q.num*D.tdiv (q.den:Int)):=by unfold cC;rw[iK,M];rfl
   have ao:=rI (ys:=cC a D) (z:=(0:Int)) (j:=j) (k:=k+1) (by rw[I.out];exact H.out);have ap:=rH (z:=(0:Int)) (k:=k) aw;have aq:j<((cC a D).take j++List.replicate (k+1) 0).length:=by rw[ao,I.out];have:=H.out;omega
   have av:∀n:Int,(n:Rat)=q*D->n=q.num*D.tdiv (q.den:Int):=fun n h=>Rat.intCast_inj.1 (h.trans (xI q D an).symm);have ai:=aB av;have a2:=aB ap;clear aw ao ap M av;have ay:∀l:Obj,(F.alloc l).cell? ⟨g.1.size,0,none⟩=some (.bool P):=fun l=>(C.alloc l).cell 0 rfl;have a0:∀l:Obj,(F.alloc l).frozen? ⟨g.1.size,0,none⟩=false:=fun l=>(C.alloc l).free 0;have az:∀l:Obj,(F.alloc l).cell? ⟨g.1.size,1,none⟩=some (.slice J O L):=fun l=>(C.alloc l).cell 1 rfl;have a1:∀l:Obj,(F.alloc l).frozen? ⟨g.1.size,1,none⟩=false:=fun l=>(C.alloc l).free 1;go_wp2_with fail;replace N:=N.alloc (.cells #[.bool s,.slice B m d,.bool E,.slice r G t] 47);have bf:=C.lt;have bg:=R.lt;have bq:=f.size;replace C:=C.alloc (.cells #[.bool s,.slice B m d,.bool E,.slice r G t] 47);replace R:=R.alloc (.cells #[.bool s,.slice B m d,.bool E,.slice r G t] 47);have X:=Bx.newAt F [.bool s,.slice B m d,.bool E,.slice r G t] 47 (F.1.size) (by simp);replace f:=f.alloc f.size (.cells #[.bool s,.slice B m d,.bool E,.slice r G t] 47);replace hk:=Keep.alloc F (.cells #[.bool s,.slice B m d,.bool E,.slice r G t] 47);replace hi:=hi.ke hk;replace o:=o.ke hk;generalize F.alloc (.cells #[.bool s,.slice B m d,.bool E,.slice r G t] 47)=wa at *;replace Q:=C.cell 0 rfl;replace S:=C.cell 1 rfl;replace U:=R.cell 0 rfl;replace V:=R.cell 1 rfl;replace bh:=X.cell 0 rfl;replace bi:=X.cell 1 rfl;replace bj:=X.cell 2 rfl;replace bk:=X.cell 3 rfl;clear ay az a0 a1 g0 g1 g2 g3 Y;refine(VJ q D _ _ _ hi o an K (1+a.length*K) a6 ak (by omega)).mono ?_;rintro e2 br ⟨v2,n,rfl,h2,ar, -,p⟩;have a8:=ai.out n ar;subst a8;clear ar ai;obtain⟨s2,A2,k2,c2,rfl⟩:=h2.form;replace N:=N.be p;replace C:=C.be p;replace R:=R.be p;replace o:=o.be p;replace f:=aC f p;obtain⟨E,r,l',t,q0,q1, -⟩:=N.at_ (aR aq);have f0:=N.free (j*2);have f1:=N.free (j*2+1);generalize q.num*D.tdiv (q.den:Int)=y at *;go_wp2_with fail;obtain⟨hp,x⟩:=N.stored aq h2;rw[a2.out] at hp;have zC:=IntBx.step ⟨_,_,_,_,C,o⟩ x (by omega);have zR:Bx _ w.1.size [.bool false,.slice none 0 0] 43:=(x.2.1 w.1.size (by omega)).trans R;have a7:=jD f x (by omega);go_roundg k
   case rel=>exact⟨j+1,by have:=H.out;unfold Hid;omega,by go_num,hp,zC,zR,a7⟩
   case measure=>omega
def vl(a:List (List UInt8)):Bool:=decide (a.length<=65∧a.all rd=true∧(aU a).getLast?≠some 0)
def JB(b:List Rat):aN b↔b.getLast?≠some 0:=⟨fun h e=>h 0 e rfl,fun h a c e=>h (by rw[c,e])⟩
def pJ{a:List (List UInt8)}(h:vl a=true):a.length<=65∧a.all rd=true∧aN (aU a):=by
 unfold vl at h;rw[iQ] at h;exact⟨h.1,h.2.1,(JB _).2 h.2.2⟩
def oO{c:List Rat}(j:0<D)(i:∀q∈c,(q.den:Int)∣D)(h:aN c):aN (cC c D):=by
 intro a b e;unfold cC at b;rw[List.getLast?_map] at b;cases hq:c.getLast? with
 |none=>rw[hq] at b;simp at b
 |some q=>
  rw[hq] at b;simp only[bxU,Option.some.injEq] at b;have f:=xI q D (i q (List.mem_of_getLast? hq));rw[b,e,aqR] at f;have g:(D:Rat)≠0:=fun e=>(show D≠0 by omega) (Rat.intCast_inj.1 e);rcases Rat.mul_eq_zero.1 f.symm with d|d
  ·exact h q hq d
  ·exact g d
def VA(n c:Nat)(A:Option Addr)(w:World)(hn:n<=1073741824):Calls prog 61 #[.slice A n c] w fun e w'=>e= .returned (.bool (decide (n<=65)))∧w'=w:=by
 by_cases h:n<=65
 ·have b:(n:Int)<=65:=by omega
  have a:decide (n<=65)=true:=by simpa using h
  rw[a];go_enter func61,ntmps61;go_wp2;go_ret;exact⟨rfl,rfl⟩
 ·have b:¬(n:Int)<=65:=by omega
  have a:decide (n<=65)=false:=by simpa using h
  rw[a];go_enter func61,ntmps61;go_wp2;go_ret;exact⟨rfl,rfl⟩
def ComDen.mono{b:List Rat}{a:Nat}(h:ComDen b D B)(c:B<=a):ComDen b D a:=⟨h.pos,h.dvd,aH h.nl_ c⟩
def VB(w:World)(a:List (List UInt8))(B:Nat)(e:Ending)(w':World):Prop:=
 ∃v c b D,e= .returned (.tuple #[v,c,.bool (vl a)])∧WholeAt w' v b∧IntAt w' c D∧(vl a=true->b=cC (aU a) D∧ComDen (aU a) D B)∧Below w.1.size w w'
def VD(i:List (List UInt8))(v:Value)(w:World)(hG:Glob w)(hv:StrsAt w v i)(hl:i.length<=1073741824)(a7:i.length<=65->∀l∈i,l.length<=1073741824)(K KB L:Nat)(hK:i.length<=65->∀q∈aU i,RL K q)(hL:i.length<=65->i.length<=L)(a3:1<=L)(ba:1+L*K<=KB)(ak:6*KB+8<=aJ):
  Calls prog 19 #[v] w (VB w i (1+L*K)):=by
 have bb:K<=L*K:=bqM K a3;obtain⟨A,c,rfl,hc⟩:=hv.form;obtain⟨W,eW,f,R⟩:=bI w [.bool false,.slice none 0 0] 43;have u:=R.g2;go_enter func19,ntmps19;go_wp2_with fail;(try rw[eW]);clear eW;refine(lL 1 _ (by decide) (by decide)).mono ?_;rintro e1 w1 ⟨v1,rfl,n,ar⟩;obtain⟨Z,J,V,P,rfl⟩:=n.form;replace R:=R.be ar;replace u:=R.g2;replace f:=aC f ar;go_wp2_with fail;have N:=R.lt;have T:=f.size;obtain⟨w2,aq,p,O⟩:=bI w1 [.bool Z,.slice J V P] 43;replace R:=R.be p;replace k:=Keep.be p;replace f:=aC f p;replace n:=n.ke k;rw[aq];clear aq;replace u:=aa R.g2 O.g2;refine(VA i.length c A _ hl).mono ?_;rintro e3 w3 ⟨rfl,rfl⟩;by_cases H:i.length<=65
 ·have z:decide (i.length<=65)=true:=by simpa using H
  rw[z];clear z;go_wp2_with fail;refine(T0 i _ _ (hG.be f) (hv.be f) hl (a7 H)).mono ?_;rintro e4 w4 ⟨v4,rfl,h4,ah⟩;replace R:=R.be ah;replace O:=O.be ah;replace u:=aa R.g2 O.g2;replace k:=Keep.be ah;replace n:=n.ke k;replace f:=aC f ah;cases hall:i.all rd with
  |false=>
   have t:vl i=false:=by unfold vl;rw[jA];exact fun h=>by rw[hall] at h;exact absurd h.2.1 (by simp)
   have G:=aB t;clear t h4;go_wp2_with fail;go_region
   all_goals (
    go_wp2_with fail;have N:=R.lt;have ac:=O.lt;have T:=f.size;obtain⟨W6,o,R,f,k,x⟩:=R.put2 f (by omega) (.bool Z) (.slice J V P) rfl rfl;replace O:=x O (by omega);replace n:=n.ke k;rw[o];clear o;replace u:=aa R.k2 O.k2;exact aM (v:= .tuple #[.slice none 0 0,.agg #[.bool Z,.slice J V P],.bool false]) (by simp[results,results19,go_sem,R.k2]) rfl ⟨_,_,[],1,by rw[G.out],WholeAt.nil _ _ _,n.drew,(fun h=>by rw[G.out] at h;cases h),f.drew⟩)
  |true=>
   have I:=h4 hall;obtain⟨A4,c4,rfl,bg⟩:=I.form;have a8:(aU i).length=i.length:=cH _;have ao:=aB hall;have aj:=hK H;clear h4 hall;generalize au:aU i=j at *;have ab:=aB au;have bh:j.length<=65:=by omega
   have ai:j.length<=L:=by have:=hL H;omega
   clear au a8;by_cases h0:j.length=0
   ·have am:j=[]:=bX h0;have ag:aN j:=fun a h=>by rw[am] at h;simp at h
    have t:vl i=true:=by unfold vl;rw[iQ,ab.out,ao.out,am];exact⟨H,rfl,by simp⟩
    have a2:¬(0:Int)<(j.length:Int):=by omega
    clear am h0;go_wp2_with fail;refine(JD j _ _ (hG.be f) I K KB aj (by omega) (by have:j.length*K<=L*K:=dK _ ai;omega) (by omega) ak).mono ?_;rintro S C ⟨b5,n5,c5,a9,D,rfl,a5,y,r,F,E⟩;rw[qB (oO F.pos F.dvd ag)] at y;obtain⟨A5,c9,S,a6⟩:=y.form;simp only[Value.slice.injEq] at S;obtain⟨-,rfl, -⟩:=S;have a4:=R.lt;obtain⟨s6,M,Y,Q,rfl⟩:=r.form;replace R:=R.be E;replace O:=O.be E;replace u:=aa R.g2 O.g2;replace k:=Keep.be E;replace n:=n.ke k;replace f:=aC f E;have ax:∀g:Obj,(C.alloc g).cell? ⟨w.1.size,0,none⟩=some (.bool false):=fun g=>(R.alloc g).cell 0 rfl;have az:∀g:Obj,(C.alloc g).frozen? ⟨w.1.size,0,none⟩=false:=fun g=>(R.alloc g).free 0;have ay:∀g:Obj,(C.alloc g).cell? ⟨w.1.size,1,none⟩=some (.slice none 0 0):=fun g=>(R.alloc g).cell 1 rfl;have a0:∀g:Obj,(C.alloc g).frozen? ⟨w.1.size,1,none⟩=false:=fun g=>(R.alloc g).free 1;have af:=F.mono (show 1+j.length*K<=1+L*K by have:j.length*K<=L*K:=dK _ ai;omega);have HN:=aB (show vl i=true∧cC j D=cC (aU i) D∧ComDen (aU i) D (1+L*K) from⟨t,by rw[ab.out],by rw[ab.out];exact af⟩);generalize cC j D=ns at *;clear F af ag t I;go_wp2_with fail;have N:=R.lt;have ac:=O.lt;have T:=f.size;obtain⟨w7,ad,p,X⟩:=bI C [.bool s6,.slice M Y Q] 43;replace R:=R.be p;replace O:=O.be p;replace k:=Keep.be p;replace f:=aC f p;replace n:=n.ke k;replace r:=r.ke k;rw[ad];clear ad;replace u:=aa R.g2 (aa O.k2 X.g2);replace y:=y.be p;go_region
    all_goals (
     go_wp2_with fail;obtain⟨-,an⟩:=IntBx.stored (w:=w7) (b:=w.1.size) (m:=0) ⟨_,_,_,_,R,IntAt.zero _⟩ r;have z5:=y.step an (fun b e=>by injection e with e;injection e with e;omega);have N:=R.lt;have ac:=O.lt;have a1:=X.lt;have T:=f.size;obtain⟨W6,o,R,f,k,x⟩:=R.put2 f (by omega) (.bool s6) (.slice M Y Q) rfl rfl;replace O:=x O (by omega);replace X:=x X (by omega);replace r:=r.ke k;rw[o];rw[o] at z5;clear o;replace u:=aa R.k2 (aa O.k2 X.k2);exact aM (v:= .tuple #[.slice (some ⟨b5,0,none⟩) ns.length c5,.agg #[.bool s6,.slice M Y Q],.bool true]) (by simp[results,results19,go_sem,R.k2]) rfl ⟨_,_,ns,D,by rw[HN.out.1],z5.drew,r.drew,(fun _=>HN.out.2),f.drew⟩)
   ·obtain⟨m,hm⟩:∃m,j.length=m+1:=⟨j.length-1,by omega⟩;have a2:(0:Int)<(j.length:Int):=by omega
    have e1:(j.length:Int)-1=(m:Int):=by omega
    have i0:(0:Int)<=(m:Int):=by omega
    have i1:(m:Int)<(j.length:Int):=by omega
    obtain⟨q,hq⟩:∃q,j[m]? =some q:=⟨_,aR (by omega)⟩;obtain⟨b,s,B,l,d,s',B',l',d',rfl,bf,g0,g1,g2,g3,hi⟩:=I.at_ hq;have al:j.getLast?=some q:=by rw[aqN,hm];exact hq
    have bc:=(aj q (dG hq)).1;have av:vl i=decide (q≠0):=by
     unfold vl;rw[ab.out,ao.out,al,aqF,iQ,iQ];exact⟨fun h e=>h.2.2 (by rw[e]),fun h=>⟨H,rfl,fun e=>h (by injection e)⟩⟩
    have ap:=aB av;have aw:=aB al;clear hq hm h0 av al;go_wp2_with fail;refine(SV q _ _ hi (by unfold aJ at ak;omega)).mono ?_;rintro e8 w8 ⟨rfl,ae⟩;replace R:=R.be ae;replace O:=O.be ae;replace u:=aa R.g2 O.g2;replace k:=Keep.be ae;replace n:=n.ke k;replace f:=aC f ae;replace I:=I.be ae;by_cases U:q=0
    ·have z:decide (q=0)=true:=by simpa using U
     have t:vl i=false:=by rw[ap.out];simpa using U
     have G:=aB t;rw[z];clear z t U;go_wp2_with fail;go_region
     all_goals (
      go_wp2_with fail;have N:=R.lt;have ac:=O.lt;have T:=f.size;obtain⟨W6,o,R,f,k,x⟩:=R.put2 f (by omega) (.bool Z) (.slice J V P) rfl rfl;replace O:=x O (by omega);replace n:=n.ke k;rw[o];clear o;replace u:=aa R.k2 O.k2;exact aM (v:= .tuple #[.slice none 0 0,.agg #[.bool Z,.slice J V P],.bool false]) (by simp[results,results19,go_sem,R.k2]) rfl ⟨_,_,[],1,by rw[G.out],WholeAt.nil _ _ _,n.drew,(fun h=>by rw[G.out] at h;cases h),f.drew⟩)
    ·have z:decide (q=0)=false:=by simpa using U
     have t:vl i=true:=by rw[ap.out];simpa using U
     have ag:aN j:=(JB j).2 (by rw[aw.out];intro e;injection e with e;exact U e);rw[z];clear z U g0 g1 g2 g3 hi;go_wp2_with fail;refine(JD j _ _ (hG.be f) I K KB aj (by omega) (by have:j.length*K<=L*K:=dK _ ai;omega) (by omega) ak).mono ?_;rintro S C ⟨b5,n5,c5,a9,D,rfl,a5,y,r,F,E⟩;rw[qB (oO F.pos F.dvd ag)] at y;obtain⟨A5,c9,S,a6⟩:=y.form;simp only[Value.slice.injEq] at S;obtain⟨-,rfl, -⟩:=S;have a4:=R.lt;obtain⟨s6,M,Y,Q,rfl⟩:=r.form;replace R:=R.be E;replace O:=O.be E;replace u:=aa R.g2 O.g2;replace k:=Keep.be E;replace n:=n.ke k;replace f:=aC f E;have ax:∀g:Obj,(C.alloc g).cell? ⟨w.1.size,0,none⟩=some (.bool false):=fun g=>(R.alloc g).cell 0 rfl;have az:∀g:Obj,(C.alloc g).frozen? ⟨w.1.size,0,none⟩=false:=fun g=>(R.alloc g).free 0;have ay:∀g:Obj,(C.alloc g).cell? ⟨w.1.size,1,none⟩=some (.slice none 0 0):=fun g=>(R.alloc g).cell 1 rfl;have a0:∀g:Obj,(C.alloc g).frozen? ⟨w.1.size,1,none⟩=false:=fun g=>(R.alloc g).free 1;have af:=F.mono (show 1+j.length*K<=1+L*K by have:j.length*K<=L*K:=dK _ ai;omega);have HN:=aB (show vl i=true∧cC j D=cC (aU i) D∧ComDen (aU i) D (1+L*K) from⟨t,by rw[ab.out],by rw[ab.out];exact af⟩);generalize cC j D=ns at *;clear F af ag t I;go_wp2_with fail;have N:=R.lt;have ac:=O.lt;have T:=f.size;obtain⟨w7,ad,p,X⟩:=bI C [.bool s6,.slice M Y Q] 43;replace R:=R.be p;replace O:=O.be p;replace k:=Keep.be p;replace f:=aC f p;replace n:=n.ke k;replace r:=r.ke k;rw[ad];clear ad;replace u:=aa R.g2 (aa O.k2 X.g2);replace y:=y.be p;go_region
     all_goals (
      go_wp2_with fail;obtain⟨-,an⟩:=IntBx.stored (w:=w7) (b:=w.1.size) (m:=0) ⟨_,_,_,_,R,IntAt.zero _⟩ r;have z5:=y.step an (fun b e=>by injection e with e;injection e with e;omega);have N:=R.lt;have ac:=O.lt;have a1:=X.lt;have T:=f.size;obtain⟨W6,o,R,f,k,x⟩:=R.put2 f (by omega) (.bool s6) (.slice M Y Q) rfl rfl;replace O:=x O (by omega);replace X:=x X (by omega);replace r:=r.ke k;rw[o];rw[o] at z5;clear o;replace u:=aa R.k2 (aa O.k2 X.k2);exact aM (v:= .tuple #[.slice (some ⟨b5,0,none⟩) ns.length c5,.agg #[.bool s6,.slice M Y Q],.bool true]) (by simp[results,results19,go_sem,R.k2]) rfl ⟨_,_,ns,D,by rw[HN.out.1],z5.drew,r.drew,(fun _=>HN.out.2),f.drew⟩)
 ·have z:decide (i.length<=65)=false:=by simpa using H
  have t:vl i=false:=by unfold vl;rw[jA];exact fun h=>H h.1
  have G:=aB t;rw[z];clear z t;go_wp2_with fail;go_region
  all_goals (
   go_wp2_with fail;have N:=R.lt;have ac:=O.lt;have T:=f.size;obtain⟨W6,o,R,f,k,x⟩:=R.put2 f (by omega) (.bool Z) (.slice J V P) rfl rfl;replace O:=x O (by omega);replace n:=n.ke k;rw[o];clear o;replace u:=aa R.k2 O.k2;exact aM (v:= .tuple #[.slice none 0 0,.agg #[.bool Z,.slice J V P],.bool false]) (by simp[results,results19,go_sem,R.k2]) rfl ⟨_,_,[],1,by rw[G.out],WholeAt.nil _ _ _,n.drew,(fun h=>by rw[G.out] at h;cases h),f.drew⟩)
def azT(a:List (List UInt8))(v:Value)(w:World)(b:Glob w)(hv:StrsAt w v a)(f:a.length<=1073741824)(g:a.length<=65->∀l∈a,l.length<=1073741824)(K KB:Nat)(c:a.length<=65->∀q∈aU a,RL K q)(d:1+65*K<=KB)(e:6*KB+8<=aJ):
  Calls prog 19 #[v] w (VB w a (1+65*K)):=
 VD a v w b hv f g K KB 65 c id (by decide) d e
def oN(a:List Rat)(D:Int):(cC a D).length=a.length:=cH _
def dqS(f:Nat->Int)(n M:Nat)(h:∀k,k<n->(f k).natAbs<=M):(bW f n).natAbs<=n*M:=by
 induction n with
 |zero=>simp[bW]
 |succ n a=>
  rw[bW,y9];have b:=a (fun k e=>h k (by omega));have c:=h n (by omega);have d:=byV (bW f n) (f n);omega
def JO(n c:Nat)(A:Option Addr)(w:World)(hn:n<=1099511627776):Calls prog 25 #[.slice A n c] w fun e w'=>e= .returned (.int .i64 ((n:Int)-1))∧w'=w:=by
 go_enter func25,ntmps25;go_wp2;go_ret;exact⟨rfl,rfl⟩
def bC(l:List Int):Nat:=l.foldr (fun n g=>Nat.gcd g n.natAbs) 0
def JP:bC []=0:=rfl
def CK(n:Int)(l:List Int):bC (n :: l)=Nat.gcd (bC l) n.natAbs:=rfl
def WV(l:List Int)(i:Nat):bC l∣bC (l.drop i):=by
 induction l generalizing i with
 |nil=>simp
 |cons n l a=>
  cases i with
  |zero=>exact Nat.dvd_refl _
  |succ i=>rw[bxF];exact bqL (aq5 _ _) (a i)
def CL(h:n∈l):(bC l:Int)∣n:=by
 induction l with
 |nil=>cases h
 |cons m l a=>
  rw[CK];rcases List.mem_cons.1 h with rfl|h
  ·exact Int.ofNat_dvd_left.2 (dzS _ _)
  ·exact bqF (Int.natCast_dvd_natCast.2 (aq5 _ _)) (a h)
def JQ(h:bC l=0):∀n∈l,n=0:=fun n hn=>by
 have:=CL hn;rw[h] at this;exact Int.zero_dvd.1 this
def az4(h:∀n∈l,nl n.natAbs<=K):nl (bC l)<=K:=by
 induction l with
 |nil=>rw[JP,dO];exact dC _
 |cons m l b=>
  rw[CK];by_cases a:m.natAbs=0
  ·rw[a,OA];exact b (fun n hn=>h n (j8 _ hn))
  ·exact aH (cK (aq6 (aqQ a) (dzS _ _))) (h m (iC ..))
def WW(h:l[i]? =some n):Nat.gcd (bC (l.drop (i+1))) n.natAbs=bC (l.drop i):=by
 obtain⟨a,e⟩:=List.getElem?_eq_some_iff.1 h;rw[j5 a,e,CK]
def WX(a:List Int)(v:Value)(w:World)(L:Glob w)(hv:WholeAt w v a)(K:Nat)(U:∀n∈a,nl n.natAbs<=K)(V:5*K+4<=aJ)(hl:a.length<=1099511627776):
  Calls prog 65 #[v] w (dW w (bC a)):=by
 obtain⟨A,c,rfl,hc⟩:=hv.form;have ai:K<=17592186044416:=by unfold aJ at V;omega
 have R:Bx ((w.alloc (.cells #[.bool false,.slice none 0 0] 43)).alloc (.cells #[.bool false,.slice none 0 0] 43)) (w.1.size) [.bool false,.slice none 0 0] 43:=(Bx.newAt w [.bool false,.slice none 0 0] 43 (w.1.size) (by simp)).alloc (.cells #[.bool false,.slice none 0 0] 43);have C:Bx ((w.alloc (.cells #[.bool false,.slice none 0 0] 43)).alloc (.cells #[.bool false,.slice none 0 0] 43)) (w.1.size+1) [.bool false,.slice none 0 0] 43:=Bx.newAt (w.alloc (.cells #[.bool false,.slice none 0 0] 43)) [.bool false,.slice none 0 0] 43 (w.1.size+1) (by simp);have e:Below w.1.size w ((w.alloc (.cells #[.bool false,.slice none 0 0] 43)).alloc (.cells #[.bool false,.slice none 0 0] 43)):=((aG _ _).alloc (by simp) _).alloc (by simp<;>omega) _;go_enter func65,ntmps65;go_wp2_with fail;generalize (w.alloc (.cells #[.bool false,.slice none 0 0] 43)).alloc (.cells #[.bool false,.slice none 0 0] 43)=W at *;have T:IntBx W (w.1.size+1) 0:=⟨_,_,_,_,C,IntAt.zero _⟩;clear C;go_loopg [4] a.length (fun k i wr=>i= .int .i64 ((k:Int)-1)∧k<=a.length∧IntBx wr (w.1.size+1) (bC (a.drop k))∧Bx wr w.1.size [.bool false,.slice none 0 0] 43∧Below w.1.size w wr)
 case atStart=>exact⟨by go_num,aE,by rw[az5];exact T,R,e⟩
 case round=>
  clear T R e;obtain⟨rfl,an,⟨s,B,l,d,C,g⟩,R,e⟩:=hrel;generalize wr=wy at *;have ad:nl (bC (a.drop gk))<=K:=az4 (fun n hn=>U n (bxK hn));replace D:=C.cell 0 rfl;replace t:=C.free 0;replace E:=C.cell 1 rfl;replace x:=C.free 1;replace F:=R.cell 0 rfl;replace I:=R.free 0;replace H:=R.cell 1 rfl;replace J:=R.free 1;cases gk with
  |zero=>
   go_wp2_with fail;rw[RW] at g;obtain⟨S,q, -,N,p⟩:=jU (s:=s) (u:= .slice B l d) e (by omega) R;have P:=g.ke p;generalize (wy.setCell ⟨w.1.size,0,none⟩ (.bool s)).setCell ⟨w.1.size,1,none⟩ (.slice B l d)=W6 at *;exact aM (v:= .agg #[.bool s,.slice B l d]) (by simp[results,results65,go_sem,S,q]) rfl ⟨_,rfl,P,N⟩
  |succ k=>
   obtain⟨n,hn⟩:∃n,a[k]? =some n:=⟨_,aR (by omega)⟩;have X:=WW hn;have ah:=U n (dG hn);have O:((bC (a.drop (k+1)):Nat):Int)=1->bC a=1:=fun h=>by
    have j:bC (a.drop (k+1))=1:=by omega
    have:=WV a (k+1);rw[j] at this;exact Nat.dvd_one.1 this
   have HN:=aB hn;have ac:=aB X;clear hn X;generalize bC (a.drop (k+1))=G at *;have al:(0:Int)<=(k:Int):=by omega
   go_wp2_with fail;refine(n6 _ _ _ g (by rw[dD];omega)).mono ?_;rintro e1 Q ⟨rfl,f⟩;by_cases j:(G:Int)=1
   ·have o:decide ((G:Int)=1)=true:=by simpa using j
    have HO:=aB (O j);rw[o];clear o O;replace g:=g.be f;replace C:=C.be f;replace D:=C.cell 0 rfl;replace t:=C.free 0;replace E:=C.cell 1 rfl;replace x:=C.free 1;replace R:=R.be f;replace F:=R.cell 0 rfl;replace I:=R.free 0;replace H:=R.cell 1 rfl;replace J:=R.free 1;replace p:=Keep.be f;replace e:=aC e f;go_wp2_with fail;have af:IntAt Q (.agg #[.bool s,.slice B l d]) (bC a:Int):=by rw[HO.out];rw[j] at g;exact g
    clear g;obtain⟨S,q, -,N,p⟩:=jU (s:=s) (u:= .slice B l d) e (by omega) R;have P:=af.ke p;generalize (Q.setCell ⟨w.1.size,0,none⟩ (.bool s)).setCell ⟨w.1.size,1,none⟩ (.slice B l d)=W6 at *;exact aM (v:= .agg #[.bool s,.slice B l d]) (by simp[results,results65,go_sem,S,q]) rfl ⟨_,rfl,P,N⟩
   ·have o:decide ((G:Int)=1)=false:=by simpa using j
    rw[o];clear o O j;replace g:=g.be f;replace C:=C.be f;replace D:=C.cell 0 rfl;replace t:=C.free 0;replace E:=C.cell 1 rfl;replace x:=C.free 1;replace R:=R.be f;replace F:=R.cell 0 rfl;replace I:=R.free 0;replace H:=R.cell 1 rfl;replace J:=R.free 1;replace p:=Keep.be f;replace e:=aC e f;obtain⟨b,s',B',l',d',rfl,aj,g0,g1,ae⟩:=(hv.be e).at_ HN.out;have ak:=e.size;have Z:=g.drew;have ag:=ae.drew;have z:IntBx Q.drew (w.1.size+1) (G:Int):=⟨_,_,_,_,C.drew,Z⟩;have m:=e.drew;have Rd:=R.drew;have Y:=fun W v u L j y=>qF (G:Int) n v u W L j y K (by rw[dD];exact ad) ah V;rw[dD,ac.out] at Y;have am:(k:Int)<(a.length:Int):=by omega
    clear t x F H I J R C f;go_wp2_with fail
    go_region_with (first
     |(go_at_call 81;refine(Y _ _ _ (L.be m) Z ag).mono ?_;rintro e2 w2 ⟨v2,rfl,y,M⟩;obtain⟨s2,A2,k2,c2,rfl⟩:=y.form;replace z:=z.be M;replace Rd:=Rd.be M;replace m:=aC m M;obtain⟨s9,B9,l9,d9,r, -⟩:=id z;have D:=r.cell 0 rfl;have E:=r.cell 1 rfl;have t:=r.free 0;have x:=r.free 1))
    all_goals (
     go_wp2_with fail;obtain⟨q,ab⟩:=z.stored y;have zR:Bx _ w.1.size [.bool false,.slice none 0 0] 43:=(ab.2.1 w.1.size (by omega)).trans Rd;have zb:=jD m ab (by omega);go_roundg k
     case rel=>exact⟨by go_num,by omega,q,zR,zb⟩
     case measure=>omega)
def jX(a:List Int)(x:Int):List Int:=a.map (fun n=>n.tdiv x)
def WY(b:List Int):jX b 1=b:=by
 unfold jX;exact(bxH (fun a _=>Int.tdiv_one a)).trans (List.map_id b)
def JR(a:List Int)(x:Int):(jX a x).length=a.length:=cH _
def WZ(n x:Int)(K:Nat)(h:nl n.natAbs<=K):nl (n.tdiv x).natAbs<=K:=by
 rw[Int.natAbs_tdiv];exact aH (cK (pQ _ _)) h
def X0(h:∀n∈a,nl n.natAbs<=K):∀n∈jX a x,nl n.natAbs<=K:=fun n hn=>by
 unfold jX at hn;obtain⟨m,b,rfl⟩:=List.mem_map.1 hn;exact WZ m x K (h m b)
def cxD(m:List Int)(x:Int)(v vx:Value)(w:World)(hv:WholeAt w v m)(O:IntAt w vx x)(h0:m≠[]->x≠0)(K:Nat)(hK:∀n∈m,nl n.natAbs<=K)(aw:nl x.natAbs<=K)(an:5*K+4<=aJ)(hl:m.length<=1099511627776):
  Calls prog 68 #[v,vx] w fun e w'=>∃J,e= .returned J∧WholeAt w' J (jX m x)∧(J=v∨bzJ w.1.size J)∧Below w.1.size w w':=by
 unfold aJ at an;obtain⟨A,c,rfl,hc⟩:=hv.form;obtain⟨t,p,r,q,rfl⟩:=O.form;have h:Bx (w.alloc (.cells #[.bool t,.slice p r q] 43)) (w.1.size) [.bool t,.slice p r q] 43:=Bx.newAt w [.bool t,.slice p r q] 43 (w.1.size) (by simp);have f:Below w.1.size w (w.alloc (.cells #[.bool t,.slice p r q] 43)):=(aG _ _).alloc (by simp) _;go_enter func68,ntmps68;go_wp2_with fail;generalize w.alloc (.cells #[.bool t,.slice p r q] 43)=W at *;refine(n6 x _ _ (O.be f) (by omega)).mono ?_;rintro e1 Q ⟨rfl,I⟩;replace h:=h.be I;replace af:=h.cell 0 rfl;replace ag:=h.cell 1 rfl;replace M:=Keep.be I;replace f:=aC f I;clear I;by_cases E:x=1
 ·have G:decide (x=1)=true:=by simpa using E
  rw[G];clear G;go_wp2;go_ret;rw[E,WY];exact⟨_,rfl,hv.be f,.inl rfl,f⟩
 ·have G:decide (x=1)=false:=by simpa using E
  rw[G];clear G E;have ad:=JR m x;have F:=aB ad;clear ad;go_wp2_with (at_make;refine jT rfl rfl 43 _ 2 32 underlying40 dq0 rfl (by decide) m.length rfl rfl rfl rfl (by omega) (by omega) ?_;intro w2 aq Z C);have S:OwnW w2 Q.1.size (List.replicate m.length 0):=OwnW.made Z;have ax:=f.size;have am:w.1.size<Q.1.size:=h.lt;replace h:=h.be C;replace f:=aC f C;clear Z aq C;generalize hg:Q.1.size=g at *;clear hg;go_loopg [16] m.length (fun k i wr=>∃j,Hid (j+k=m.length)∧i= .int .i64 j∧OwnW wr g ((jX m x).take j++List.replicate k 0)∧Bx wr w.1.size [.bool t,.slice p r q] 43∧Below w.1.size w wr)
  case atStart=>exact⟨0,by unfold Hid;omega,rfl,by simpa using S,h,f⟩
  case round=>
   clear S h f;obtain⟨j,D,rfl,R,h,f⟩:=hrel;generalize wr=u at *;have az:(0:Int)<=(j:Int):=by omega
   cases gk with
   |zero=>
    have hj:j=m.length:=D.out;subst hj;rw[F8,fH,cZ (by rw[F.out];exact aE)] at R;have hw:=R.whole m.length (by rw[F.out];exact aE);rw[F.out] at hw;go_wp2;go_ret;exact⟨_,rfl,hw,.inr fun a l c e=>by injection e with e _ _;injection e with e;rw[<-e];exact iE am,f⟩
   |succ k=>
    obtain⟨n,hn⟩:∃n,m[j]? =some n:=⟨_,aR (by have:=D.out;omega)⟩;obtain⟨b,s,B,l,d,rfl,ay,g0,g1,L⟩:=(hv.be f).at_ hn;have a1:=hK n (dG hn);have ap:x≠0:=h0 (fun e=>by rw[e] at hn;simp at hn);have a0:(j:Int)<(m.length:Int):=by have:=D.out;omega
    have ac:(jX m x)[j]? =some (n.tdiv x):=by unfold jX;rw[iK,hn];rfl
    have T:=rI (ys:=jX m x) (z:=(0:Int)) (j:=j) (k:=k+1) (by rw[F.out];exact D.out);have U:=rH (z:=(0:Int)) (k:=k) ac;have V:j<((jX m x).take j++List.replicate (k+1) 0).length:=by rw[T,F.out];have:=D.out;omega
    have al:=aB U;clear ac T U hn;have P:=O.be f;have N:=fun W E H=>mZ n x (.agg #[.bool s,.slice B l d]) (.agg #[.bool t,.slice p r q]) W E H ap (by omega);unfold dW at N;generalize n.tdiv x=y at *;have ah:∀o:Obj,(u.alloc o).cell? ⟨w.1.size,0,none⟩=some (.bool t):=fun o=>(h.alloc o).cell 0 rfl;have aj:∀o:Obj,(u.alloc o).frozen? ⟨w.1.size,0,none⟩=false:=fun o=>(h.alloc o).free 0;have ai:∀o:Obj,(u.alloc o).cell? ⟨w.1.size,1,none⟩=some (.slice p r q):=fun o=>(h.alloc o).cell 1 rfl;have ak:∀o:Obj,(u.alloc o).frozen? ⟨w.1.size,1,none⟩=false:=fun o=>(h.alloc o).free 1;go_wp2_with fail;replace R:=R.alloc (.cells #[.bool s,.slice B l d] 43);have ar:=h.lt;have a2:=f.size;replace h:=h.alloc (.cells #[.bool s,.slice B l d] 43);have X:=Bx.newAt u [.bool s,.slice B l d] 43 (u.1.size) (by simp);replace f:=f.alloc f.size (.cells #[.bool s,.slice B l d] 43);replace M:=Keep.alloc u (.cells #[.bool s,.slice B l d] 43);replace L:=L.ke M;replace P:=P.ke M;generalize u.alloc (.cells #[.bool s,.slice B l d] 43)=W1 at *;replace af:=h.cell 0 rfl;replace ag:=h.cell 1 rfl;replace au:=X.cell 0 rfl;replace av:=X.cell 1 rfl;clear ah ai aj ak g0 g1;refine(N _ L P).mono ?_;rintro e2 w2 ⟨v2,rfl,H,C⟩;obtain⟨s2,A2,k2,c2,rfl⟩:=H.form;replace R:=R.be C;replace h:=h.be C;replace f:=aC f C;obtain⟨s',B',l',d',q0,q1, -⟩:=R.at_ (aR V);have f0:=R.free (j*2);have f1:=R.free (j*2+1);clear N;go_wp2_with fail;obtain⟨Y,ab⟩:=R.stored V H;rw[al.out] at Y;have ae:Bx _ w.1.size [.bool t,.slice p r q] 43:=(ab.2.1 w.1.size (by omega)).trans h;have ao:=jD f ab (by omega);go_roundg k
    case rel=>exact⟨j+1,by have:=D.out;unfold Hid;omega,by go_num,Y,ae,ao⟩
    case measure=>omega
def X4(a:List Int)(x:Int)(v c:Value)(w:World)(hv:WholeAt w v a)(m:IntAt w c x)(d:a≠[]->x≠0)(K:Nat)(i:∀n∈a,nl n.natAbs<=K)(k:nl x.natAbs<=K)(j:5*K+4<=aJ)(l:a.length<=1099511627776):
  Calls prog 68 #[v,c] w fun e w'=>∃b,e= .returned b∧WholeAt w' b (jX a x)∧Below w.1.size w w':=
 (cxD a x v c w hv m d K i k j l).mono fun _ _ ⟨b,f,g,_,h⟩=>⟨b,f,g,h⟩
def aS(a:List Int):List Int:=jX a (bC a)
def dF(a:List Int):(aS a).length=a.length:=JR _ _
def nI(h:aN b)(d:b≠[]):(bC b:Int)≠0:=fun e=>by
 obtain⟨a,c⟩:∃a,b.getLast?=some a:=⟨_,bxG d⟩;exact h a c (JQ (by omega) a (List.mem_of_getLast? c))
def dzP(h:∀n∈a,nl n.natAbs<=K):∀n∈aS a,nl n.natAbs<=K:=X0 h
def WS(a:List Int)(x:Int)(i:Nat):cf (jX a x) i=(cf a i).tdiv x:=mG (fun n:Int=>n.tdiv x) (Int.zero_tdiv x) a i
def WT(h:∀n∈a,x∣n)(i:Nat):x∣cf a i:=by
 by_cases b:i<a.length
 ·rw[fZ b];exact h _ (az6 b)
 ·rw[bV (by omega)];exact Int.dvd_zero x
def lW(a:List Int)(i:Nat):cf (aS a) i*(bC a:Int)=cf a i:=by
 unfold aS;rw[WS];exact Int.tdiv_mul_cancel (WT (fun n hn=>CL hn) i)
def fT{α:Type}[OfNat α 0]{l:List α}(f:l≠[]):aN l↔cf l (l.length-1)≠0:=by
 obtain⟨a,d⟩:∃a,l.getLast?=some a:=⟨_,bxG f⟩;have e:=vJ d;constructor
 ·intro h;rw[e];exact h a d
 ·intro h b c;rw[d] at c;injection c with c;rw[<-c,<-e];exact h
def gV(h:aN b):aN (aS b):=by
 by_cases c:b=[]
 ·rw[c];intro a f;simp[aS,jX] at f
 ·have d:aS b≠[]:=fun e=>c (bX (by rw[<-dF,e];rfl));rw[fT d,dF];intro e;have:=lW b (b.length-1);rw[e,azK] at this;exact(fT c).1 h this.symm
def qQ(a:List Int)(v:Value)(w:World)(l:Glob w)(hv:WholeAt w v a)(o:aN a)(K:Nat)(b:∀n∈a,nl n.natAbs<=K)(g:5*K+4<=aJ)(h:a.length<=1099511627776):
  Calls prog 94 #[v] w fun e w'=>∃i,e= .returned i∧WholeAt w' i (aS a)∧Below w.1.size w w':=by
 obtain⟨A,c,rfl,t⟩:=hv.form;go_enter func94,ntmps94;go_wp2_with fail;refine(WX a _ _ l hv K b g h).mono ?_;rintro r B ⟨y,rfl,f,d⟩;obtain⟨x,p,u,q,rfl⟩:=f.form;go_wp2_with fail;refine(X4 a (bC a) _ _ _ (hv.be d) f (fun j=>nI o j) K b (by rw[dD];exact az4 b) g h).mono ?_;rintro s C ⟨z,rfl,k,m⟩;go_wp2;go_ret;exact⟨_,rfl,k,aC d m⟩
def cxC(a:List Int)(v:Value)(w:World)(j:Glob w)(hv:WholeAt w v a)(h:a≠[])(K:Nat)(f:∀n∈a,nl n.natAbs<=K)(k:1<=K)(l:K<=1073741824)(o:a.length<=1073741824):
  Calls prog 60 #[v] w fun e w'=>∃g,e= .returned g∧StrsAt w' g ((tT a (cf a (a.length-1))).map cW)∧Below w.1.size w w':=by
 obtain⟨A,c,rfl,t⟩:=hv.form;go_enter func60,ntmps60;go_wp2_with fail;refine(azC a _ _ hv h (by omega)).mono ?_;rintro r B ⟨y,rfl,d,b⟩;obtain⟨x,p,u,q,rfl⟩:=d.form;go_wp2_with fail;refine(bzO a _ _ _ _ (j.be b) (hv.be b) d K f (iU f _) k l o).mono ?_;rintro s C ⟨z,rfl,i,m⟩;go_wp2;go_ret;exact⟨_,rfl,i,aC b m⟩
def bB(a:List Int):List Int:=(List.range (a.length-1)).map (fun i:Nat=>cf a (i+1)*((i:Int)+1))
def lZ(a:List Int):(bB a).length=a.length-1:=by unfold bB;rw[cH,V9]
def WU(a:List Int)(h:i<a.length-1):(bB a)[i]? =some (cf a (i+1)*((i:Int)+1)):=by
 unfold bB;rw[iK,aqM h];rfl
def sB(a:List Int)(i:Nat):cf (bB a) i=cf a (i+1)*((i:Int)+1):=by
 unfold bB;rw[qA];split
 ·rfl
 ·rw[bV (by omega),azK]
def JN(a:List Int)(v:Value)(w:World)(hv:WholeAt w v a)(K:Nat)(hK:∀n∈a,nl n.natAbs<=K)(ac:K+2<=aJ)(hl:a.length<=1073741824):
  Calls prog 26 #[v] w fun e w'=>∃Y,e= .returned Y∧WholeAt w' Y (bB a)∧Below w.1.size w w':=by
 unfold aJ at ac;obtain⟨A,c,rfl,hc⟩:=hv.form;go_enter func26,ntmps26;by_cases q:a.length=0
 ·have X:((a.length:Int)==0)=true:=by rw[q];rfl
  have P:a=[]:=bX q;have HN:=aB P;clear P q;go_wp2;go_ret;rw[HN.out];exact⟨_,rfl,WholeAt.nil _ _ _,aG _ _⟩
 ·have X:((a.length:Int)==0)=false:=by rw[beq_eq_false_iff_ne];omega
  obtain⟨M,hM⟩:∃M,a.length=M+1:=⟨a.length-1,by omega⟩;have ag:(a.length:Int)-1=(M:Int):=by omega
  have V:(bB a).length=M:=by rw[lZ];omega
  have m:=aB V;clear V q;go_wp2_with (at_make;refine jT rfl rfl 43 _ 2 32 underlying40 dq0 rfl (by decide) M rfl rfl (by first|rfl|omega) (by first|rfl|omega) (by omega) (by omega) ?_;intro Z af T o);have E:OwnW Z w.1.size (List.replicate M 0):=OwnW.made T;clear T af;go_loopg [14] M (fun k i wr=>∃j,Hid (j+k=M)∧i= .int .i64 j∧OwnW wr w.1.size ((bB a).take j++List.replicate k 0)∧Below w.1.size w wr)
  case atStart=>exact⟨0,by unfold Hid;omega,rfl,by simpa using E,o⟩
  case round=>
   clear E o;obtain⟨j,h,rfl,R,t⟩:=hrel;generalize wr=wy at *;have ah:(0:Int)<=(j:Int):=by omega
   cases gk with
   |zero=>
    have hj:j=M:=h.out;subst hj;rw[F8,fH,cZ (by rw[m.out];exact aE)] at R;have U:=R.whole j (by rw[m.out];exact aE);rw[m.out] at U;go_wp2;go_ret;exact⟨_,rfl,U,t⟩
   |succ k=>
    have am:j<M:=by have:=h.out;omega
    obtain⟨n,hn⟩:∃n,a[j+1]? =some n:=⟨_,aR (by omega)⟩;obtain⟨b,s,B,l,d,rfl,x,F,G,N⟩:=(hv.be t).at_ hn;have ao:=hK n (dG hn);have H:cf a (j+1)=n:=rD hn;have ai:(j:Int)<(M:Int):=by omega
    have ak:(j:Int)+1<(a.length:Int):=by omega
    have al:(0:Int)<=(j:Int)+1:=by omega
    have D:=WU a (i:=j) (by omega);rw[H] at D;have I:=rI (ys:=bB a) (z:=(0:Int)) (j:=j) (k:=k+1) (by rw[m.out];exact h.out);have J:=rH (z:=(0:Int)) (k:=k) D;have L:j<((bB a).take j++List.replicate (k+1) 0).length:=by rw[I,m.out];have:=h.out;omega
    have ab:=aB J;clear D I J hn H;have aj:nl ((j:Int)+1).natAbs<=1:=cJ (by rw[show((j:Int)+1).natAbs=j+1 by omega];unfold BN;omega);have Q:=fun W=>lL ((j:Int)+1) W (by omega) (by omega);have O:=fun W v u h1 r=>jB n ((j:Int)+1) v u W h1 r (by omega);unfold dW at O Q;generalize n*((j:Int)+1)=y at *;have C:=N.drew;have Rd:=R.drew;have f:=t.drew;have an:((j:Int)+1).toNat=j+1:=by omega
    have ap:IntKind.i64.wrap ((j:Int)+1)=(j:Int)+1:=by rw[IntKind.wrap_i64];omega
    clear N R t;go_wp2_with fail
    go_region_with (first
     |(go_at_call 41;refine(Q _).mono ?_;rintro e3 w3 ⟨v3,rfl,h3,g⟩;replace C:=C.be g;replace Rd:=Rd.be g;replace f:=aC f g;(try replace F:=(g.cell (p:=⟨b,(j+1)*2,none⟩) x).trans F);(try replace G:=(g.cell (p:=⟨b,(j+1)*2+1,none⟩) x).trans G);replace x:=aZ x g.size)
     |(go_at_call 56;refine(O _ _ _ C h3).mono ?_;rintro e2 Z ⟨v2,rfl,r,o⟩;obtain⟨s2,A2,k2,c2,rfl⟩:=r.form;replace Rd:=Rd.be o;replace f:=aC f o;obtain⟨s',B',l',d',X,q1, -⟩:=Rd.at_ (aR L);have f0:=Rd.free (j*2);have f1:=Rd.free (j*2+1)))
    all_goals (
     go_wp2_with fail;obtain⟨S,ae⟩:=Rd.stored L r;rw[ab.out] at S;have ad:=jD f ae (by omega);go_roundg k
     case rel=>exact⟨j+1,by have:=h.out;unfold Hid;omega,by go_num,S,ad⟩
     case measure=>omega)
def PQRes.mono{b:Nat}(h:PQRes xs ys KB m q r)(a:KB<=b):PQRes xs ys b m q r:=
 ⟨h.id_,h.m0,h.r_lt,h.q_trim,h.r_trim,h.q_len,h.pow,fun n hn=>aH (h.bq n hn) a,fun n hn=>aH (h.br n hn) a,aH h.bm a⟩
inductive Euc(B:Nat):List Int->List Int->List Int->Prop
 |done (a:List Int):Euc B a [] a
 |one {a b:List Int} (hb:b.length=1):Euc B a b [1]
 |step {a b q r g:List Int} {m:Int} (hb:1<b.length) (h:PQRes a b B m q r) (t:Euc B b (aS r) g):Euc B a b g
def pO(B:Nat)(xs ys g:List Int):Prop:=if xs.length<ys.length then Euc B (aS ys) (aS xs) g else Euc B (aS xs) (aS ys) g
def WholeAt.single{s:Bool}{k c:Nat}(h:IntAt w (.agg #[.bool s,.slice A k c]) n):WholeAt (w.alloc (.cells #[.bool s,.slice A k c] 43)) (.slice (some ⟨w.1.size,0,none⟩) 1 1) [n]:=by
 have B:=Bx.new w [.bool s,.slice A k c] 43;have:OwnW (w.alloc (.cells #[.bool s,.slice A k c] 43)) w.1.size [n]:=by
  refine⟨[[.bool s,.slice A k c]],⟨B,fun r b=> ?_⟩,aE,fun i m a=> ?_⟩
  ·rw[List.mem_singleton.1 b];rfl
  ·cases i with
   |zero=>injection a with a;subst a;exact⟨s,A,k,c,rfl,h.ke (Keep.alloc _ _)⟩
   |succ i=>simp at a
 exact this.whole 1 aE
def JZ{d:Nat}(h:1<=d):d+2<=3^d:=by
 induction d with
 |zero=>omega
 |succ d b=>
  rw[dH];by_cases a:d=0
  ·subst a;decide
  ·have:=b (by omega);omega
def cq0{b a c:Nat}(h:(K+1)*(b-a+2)*3^a<=B)(k:c<a)(j:a<=b):(K+(b+1-a)*(K+1)+1)*(a-c+2)*3^c<=B:=by
 have e:K+(b+1-a)*(K+1)+1=(K+1)*(b-a+2):=by
  rw[show b+1-a=b-a+1 by omega,aq3 (b-a) 1 (K+1),iL (K+1) (b-a) 2,dN (b-a) (K+1)];omega
 have f:a=(a-c)+c:=by omega
 have g:=JZ (d:=a-c) (by omega);have i:(K+1)*(b-a+2)*3^a=(K+1)*(b-a+2)*3^(a-c)*3^c:=by
  conv=>lhs;rw[f,eY]
  rw[show(a-c+c)=a by omega,iW];simp only[iW]
 rw[i] at h;rw[e];exact aH (dK _ (eV _ g)) h
def xX{b a:Nat}(h:(K+1)*(b-a+2)*3^a<=B)(d:a<=b):K+(b+1-a)*(K+1)+1<=B:=by
 have c:K+(b+1-a)*(K+1)+1=(K+1)*(b-a+2):=by
  rw[show b+1-a=b-a+1 by omega,aq3 (b-a) 1 (K+1),iL (K+1) (b-a) 2,dN (b-a) (K+1)];omega
 rw[c];exact aH (bqO _ (dyU (by decide))) h
def cq1(xs ys:List Int)(vx vy:Value)(w:World)(y:Glob w)(hx:WholeAt w vx xs)(hy:WholeAt w vy ys)(tx:aN xs)(ty:aN ys)(u K B:Nat)(ax:∀n∈xs,nl n.natAbs<=u)(ay:∀n∈ys,nl n.natAbs<=u)(a9:5*u+8<=aJ)(J:∀n∈aS xs,nl n.natAbs<=K)(L:∀n∈aS ys,nl n.natAbs<=K)(av:1<=K)
  (F:xs.length<ys.length->(K+1)*(ys.length-xs.length+2)*3^xs.length<=B)(G:¬xs.length<ys.length->(K+1)*(xs.length-ys.length+2)*3^ys.length<=B)(a8:5*B+8<=aJ)(a4:xs.length<=1073741824)(a5:ys.length<=1073741824):
  Calls prog 96 #[vx,vy] w fun e w'=>∃v' g,e= .returned v'∧WholeAt w' v' g∧pO B xs ys g∧Below w.1.size w w':=by
 obtain⟨A,c,rfl,hc⟩:=hx.form;obtain⟨O,V,rfl,bb⟩:=hy.form;have lX:=dF xs;have lY:=dF ys;have pX:=qQ xs _ w y hx tx u ax (by omega) (by omega);have pY:=fun W d=>qQ ys _ W (y.be d) (hy.be d) ty u ay (by omega) (by omega);have M:=gV tx;have N:=gV ty;have ac:xs.length<ys.length->∀g,Euc B (aS ys) (aS xs) g->pO B xs ys g:=fun h g k=>by unfold pO;rw[if_pos h];exact k
 have ad:¬xs.length<ys.length->∀g,Euc B (aS xs) (aS ys) g->pO B xs ys g:=fun h g k=>by unfold pO;rw[if_neg h];exact k
 generalize pO B xs ys=T at *;generalize aS xs=X at *;generalize aS ys=Y at *;rw[<-lX] at a4;rw[<-lY] at a5;rw[<-lX,<-lY] at F G;have s:Hid (xs.length<ys.length↔X.length<Y.length):=by unfold Hid;omega
 clear lX lY;go_enter func96,ntmps96;go_wp2_with fail;refine pX.mono ?_;rintro e1 w1 ⟨v1,rfl,i,d⟩;obtain⟨A1,c1,rfl,bc⟩:=i.form;go_wp2_with fail;refine(pY _ d).mono ?_;rintro e2 w2 ⟨v2,rfl,x,af⟩;obtain⟨A2,c2,rfl,bf⟩:=x.form;replace i:=i.be af;replace d:=aC d af;clear pX pY af hx hy;by_cases o:xs.length<ys.length
 focus (
  have ae:=aB (ac o);have ab:=F (s.out.1 o);have a3:X.length<Y.length:=s.out.1 o;have a2:(X.length:Int)<(Y.length:Int):=by omega
  clear ac ad F G s o;have ag:=x;have ah:=i;have ai:=L;have aj:=J;have ak:=N;have al:=M;clear i x J L M N;go_wp2_with fail;generalize Y=XX at *;generalize X=U at *
 )
 rotate_left
 focus (
  have ae:=aB (ad o);have ab:=G (fun h=>o (s.out.2 h));have a3:¬X.length<Y.length:=fun h=>o (s.out.2 h);have a2:¬(X.length:Int)<(Y.length:Int):=by omega
  clear ac ad F G s o;have ag:=i;have ah:=x;have ai:=J;have aj:=L;have ak:=M;have al:=N;clear i x J L M N;go_wp2_with fail;generalize X=XX at *;generalize Y=U at *
 )
 all_goals (
  go_loopg [5,6] U.length (fun k va vb wr=>∃a b A c O V f,Hid (b.length=k)∧va= .slice A a.length c∧vb= .slice O b.length V∧WholeAt wr (.slice A a.length c) a∧WholeAt wr (.slice O b.length V) b∧Hid (aN a)∧Hid (aN b)∧Hid (∀g,Euc B a b g->T g)∧
   (∀n∈a,nl n.natAbs<=f)∧(∀n∈b,nl n.natAbs<=f)∧1<=f∧b.length<=a.length∧a.length<=1073741824∧Hid ((f+1)*(a.length-b.length+2)*3^b.length<=B)∧Below w.1.size w wr)
  case atStart=>exact⟨XX,U,_,_,_,_,K,rfl,rfl,rfl,ag,ah,ak,al,ae,ai,aj,av,by omega,by omega,ab,d⟩
  case round=>
   clear ag ah d ab ak al ai aj ae;obtain⟨a,b,Aa,ca,Ab,cb,f,HL,rfl,rfl,ha,l,au,an,R,ka,kb,ao,ap,a1,HP,d⟩:=hrel;generalize wr=wy at *;have ba:=xX HP.out ap;by_cases v:b.length=0
   ·have q0:¬(0:Int)<(b.length:Int):=by omega
    have z:b=[]:=bX v;have j:=R.out a (by rw[z];exact Euc.done a);have E:=aB j;clear z v j;go_wp2;go_ret
    first|exact⟨_,a,rfl,ha,E.out,d⟩|exact⟨_,rfl,a,ha,E.out,d⟩
   ·have q0:(0:Int)<(b.length:Int):=by omega
    by_cases i:b.length=1
    ·have q1:((b.length:Int)==1)=true:=by simp;omega
     have j:=R.out [1] (Euc.one i);have E:=aB j;clear v i j;go_wp2_with fail;refine(lL 1 _ (by decide) (by decide)).mono ?_;rintro e3 D ⟨v3,rfl,h3,C⟩;obtain⟨s3,Q,k3,Z,rfl⟩:=h3.form;go_wp2;go_ret;exact⟨_,[1],rfl,WholeAt.single h3,E.out,(aC d C).alloc (aH d.size C.size) _⟩
    ·have q1:((b.length:Int)==1)=false:=by simp;omega
     have z:b≠[]:=fun e=>v (by rw[e];rfl);have az:1<b.length:=by omega
     have pq:=BU a b _ _ wy ha l z au.out an.out f _ ka kb ao aE (by omega) a1 (by omega);unfold wZ at pq;go_wp2_with fail;refine pq.mono ?_;rintro e3 D ⟨vq,vr,vm,q,r,m,rfl,hq,I,hm,p,C⟩;obtain⟨Aq,cq,rfl, -⟩:=hq.form;obtain⟨Ar,cr,rfl,bh⟩:=I.form;obtain⟨s3,Q,k3,Z,rfl⟩:=hm.form;have a7:=p.r_lt;have a6:=fun W y h=>qQ r (.slice Ar r.length cr) W y h p.r_trim _ p.br (by omega) (by omega);have ht:=gV p.r_trim;have hk:=dzP p.br;have a0:∀n∈b,nl n.natAbs<=f+(a.length+1-b.length)*(f+1):=fun n hn=>aH (kb n hn) (bz6 _ _);have hl:=dF r;have ar:(f+(a.length+1-b.length)*(f+1)+1)*(b.length-(aS r).length+2)*3^(aS r).length<=B:=by rw[hl];exact cq0 HP.out a7 ap
     have j:∀g,Euc B b (aS r) g->T g:=fun g t=>R.out g (Euc.step az (p.mono (by omega)) t);have S:=aB (And.intro ar (And.intro j ht));have aw:1<=f+(a.length+1-b.length)*(f+1):=aH ao (bz6 _ _);have am:=aB hl;clear hl p ar j ht pq v i z;generalize aS r=P at *;generalize f+(a.length+1-b.length)*(f+1)=KK at *;replace l:=l.be C;replace d:=aC d C;go_wp2_with fail;have H:Below D.1.size D (D.alloc (.cells #[.bool s3,.slice Q k3 Z] 43)):=(aG _ _).alloc aE _;replace l:=l.be H;replace I:=I.be H;replace d:=aC d H;clear H;generalize D.alloc (.cells #[.bool s3,.slice Q k3 Z] 43)=w4 at *;refine(a6 _ (y.be d) I).mono ?_;rintro e5 w5 ⟨v5,rfl,h5,aq⟩;obtain⟨A5,c5,rfl,bg⟩:=h5.form;replace l:=l.be aq;replace d:=aC d aq;go_wp2;go_roundg P.length
     case rel=>exact⟨b,P,Ab,cb,A5,c5,KK,rfl,rfl,rfl,l,h5,an,S.out.2.2,S.out.2.1,a0,hk,aw,by have:=am.out;omega,by omega,S.out.1,d⟩
     case measure=>have:=HL.out;have:=am.out;omega
 )
def XV(xs ys:List Int)(a b:Value)(w:World)(l:Glob w)(q:WholeAt w a xs)(r:WholeAt w b ys)(s:aN xs)(t:aN ys)(K B:Nat)(f:∀n∈xs,nl n.natAbs<=K)(i:∀n∈ys,nl n.natAbs<=K)(m:1<=K)
  (c:xs.length<ys.length->(K+1)*(ys.length-xs.length+2)*3^xs.length<=B)(d:¬xs.length<ys.length->(K+1)*(xs.length-ys.length+2)*3^ys.length<=B)(k:5*B+8<=aJ)(o:xs.length<=1073741824)(p:ys.length<=1073741824):
  Calls prog 96 #[a,b] w fun e w'=>∃j g,e= .returned j∧WholeAt w' j g∧pO B xs ys g∧Below w.1.size w w':=by
 have u:K<=B:=by
  by_cases h:xs.length<ys.length
  ·have:=xX (c h) (by omega);omega
  ·have:=xX (d h) (by omega);omega
 exact cq1 xs ys a b w l q r s t K K B f i (by omega) (dzP f) (dzP i) m c d k o p
def YJ{d:Nat->Int}(k:ys≠[])(o:aN ys)(b:∀i,L<=i->d i=0)(h:∀i,ys.length<=i+1->conv d (cf ys) i=0):∀i,d i=0:=by
 induction L with
 |zero=>exact fun i=>b i (dC _)
 |succ L l=>
  refine l (fun i r=> ?_);by_cases f:L+1<=i
  ·exact b i f
  ·have e:i=L:=by omega
   subst e;have c:=dq6 (p:=d) (q:=cf ys) (m:=i) (n:=ys.length-1) (fun j g=>b j (by omega)) (fun j g=>bV (by omega));rw[h _ (by omega)] at c;rcases Int.mul_eq_zero.1 c.symm with a|a
   ·exact a
   ·exact absurd a ((fT k).1 o)
def bzM{r0:List Int}(h:PQRes xs ys KB m q r)(k:ys≠[])(l:aN ys)(f:∀i,m0*cf xs i=conv (cf q0) (cf ys) i+cf r0 i)(p:r0.length<ys.length):
  (∀i,m0*cf q i=m*cf q0 i)∧∀i,m0*cf r i=m*cf r0 i:=by
 have a:∀i,conv (fun j=>m0*cf q j+(-m)*cf q0 j) (cf ys) i=m*cf r0 i-m0*cf r i:=fun i=>by
  rw[qD,X7,X7];have n:=h.id_ i;have o:=f i;have c:conv (cf q) (cf ys) i=m*cf xs i-cf r i:=by omega
  have e:conv (cf q0) (cf ys) i=m0*cf xs i-cf r0 i:=by omega
  rw[c,e,Int.mul_sub,Int.mul_sub,Int.neg_mul,Int.neg_mul,Int.mul_left_comm];omega
 have b:=YJ (d:=fun j=>m0*cf q j+(-m)*cf q0 j) (L:=q.length+q0.length) k l (fun i g=>by
  show m0*cf q i+ -m*cf q0 i=0
  rw[bV (by omega),bV (by omega)];simp) (fun i g=>by
  rw[a,bV (by omega),bV (by have:=h.r_lt;omega)];simp)
 refine⟨fun i=> ?_,fun i=> ?_⟩
 ·have:=b i;rw[Int.neg_mul] at this;omega
 ·have:=a i;rw[lK b] at this;omega
def czS(b:r.length<2)(d:aN r)(h:cf r 0=x)(c:x≠0):r=[x]:=by
 match r,b with
 |[],_=>rw[eR] at h;exact absurd h.symm c
 |[a],_=>rw[show a=x from h]
def YK(c:aN r)(h:∀i,cf r i=0):r=[]:=oZ c (fun a b=>by simp at b) (fun i=>by rw[h,eR])
def czT(f:r.length<3)(e:cf r 0=0)(c:cf r 1=x)(d:x≠0):r=[0,x]:=by
 match r,f with
 |[],_=>rw[eR] at c;exact absurd c.symm d
 |[a],_=>exact absurd c.symm d
 |[a,b],_=>rw[show a=0 from e,show b=x from c]
def YL(q ys r xs:List Int)(m0:Int)(n:Nat):Bool:=(List.range n).all (fun i=>m0*cf xs i==conv (cf q) (cf ys) i+cf r i)
def aqU{n:Nat}(h:YL q ys r xs m0 n=true)(c:q.length+ys.length<=n)(d:r.length<=n)(e:xs.length<=n)(i:Nat):m0*cf xs i=conv (cf q) (cf ys) i+cf r i:=by
 by_cases b:i<n
 ·unfold YL at h;rw[List.all_eq_true] at h;exact beq_iff_eq.1 (h i (List.mem_range.2 b))
 ·rw[bV (by omega),bV (l:=r) (by omega),rG (m:=q.length) (n:=ys.length) (fun j a=>bV a) (fun j a=>bV a) (by omega)];simp
def oB(h:(match l.getLast? with|none=>true|some a=>a != 0)=true):aN l:=fun a b=>by
 rw[b] at h;simpa using h
def dzW{n:Nat}(h:YL q ys [] xs 1 n=true)(a:q.length+ys.length<=n)(b:xs.length<=n)(i:Nat):cf xs i=conv (cf q) (cf ys) i:=by
 have:=aqU h a (dC _) b i;rw[eR,y8,Y6] at this;exact this
def czU(h:PQRes [-1,1] [-3,1] KB m q r):m=1∧r=[2]:=by
 obtain⟨e, -,a⟩:=h.pow;have b:m=1:=by rw[a];exact Int.one_pow
 refine⟨b,?_⟩;have c:=(bzM (q0:=[1]) (r0:=[2]) (m0:=1) h (by decide) (oB rfl) (aqU (n:=4) (by decide) (by decide) (by decide) (by decide)) (by decide)).2;refine czS h.r_lt h.r_trim ?_ (by decide);have d:1*cf r 0=m*2:=c 0;omega
def YM(h:Euc B a [] g):g=a:=by
 cases h with
 |done=>rfl
 |one b=>simp at b
 |step b _ _=>simp at b
def cx7(h:Euc B a b g)(c:1<b.length)(o:aN b)(l:m0≠0)(f:∀i,m0*cf a i=conv (cf q0) (cf b) i+cf ([]:List Int) i):g=b:=by
 have j:b≠[]:=fun e=>by rw[e] at c;simp at c
 cases h with
 |done=>simp at c
 |one k=>omega
 |step k d t=>
  have n:=(bzM d j o f (by simp;omega)).2
  have m:=YK d.r_trim (fun i=>by
   have:=n i;rw[eR,Int.mul_zero] at this;exact(Int.mul_eq_zero.1 this).resolve_left l)
  rw[m] at t;exact YM t
def czV(h:Euc B [0,0, -1,1] [0, -2,3] g):g=[0, -1]:=by
 cases h with
 |one c=>simp at c
 |step c b t=>
  rename_i q r m;obtain⟨e, -,i⟩:=b.pow;have s:0<m:=by rw[i];exact bxC (by decide)
  have d:=(bzM (q0:=[-1,3]) (r0:=[0, -2]) (m0:=9) b (by decide) (oB rfl) (aqU (n:=6) (by decide) (by decide) (by decide) (by decide)) (by decide)).2;have o:9*cf r 0=m*0:=d 0;have p:9*cf r 1=m* -2:=d 1;have l:=czT (r:=r) (x:=cf r 1) b.r_lt (by omega) rfl (by omega);have u:cf r 1<0:=by omega
  generalize cf r 1=a at *;have k:aS r=[0, -1]:=by
   rw[l];have j:(bC [0,a]:Int)= -a:=by
    rw[CK,CK,JP,Nat.gcd_zero_left];simp;omega
   unfold aS jX;rw[j];have f:a.tdiv (-a)= -1:=by rw[Int.tdiv_neg,Int.tdiv_self (by omega)]
   show[(0:Int).tdiv (-a),a.tdiv (-a)]=[0, -1]
   rw[f,Int.zero_tdiv]
  rw[k] at t;exact cx7 (q0:=[2, -3]) (m0:=1) t (by decide) (oB rfl) (by decide) (aqU (n:=6) (by decide) (by decide) (by decide) (by decide))
def czW:aS [0,0, -1,1]=[0,0, -1,1]:=by decide
def czX:aS [0, -2,3]=[0, -2,3]:=by decide
def czY:aS [0,1, -1]=[0,1, -1]:=by decide
def cx8:aS [0, -1]=[0, -1]:=by decide
def czZ:aS [1]=[1]:=by decide
def bzN:bB [0,0, -1,1]=[0, -2,3]:=by decide
def cx9(h:pO B [0,0, -1,1] [0, -2,3] g):g=[0, -1]:=by
 unfold pO at h;rw[if_neg (by decide),czW,czX] at h;exact czV h
def cxA(h:pO B [0,1, -1] [0, -1] g):g=[0, -1]:=by
 unfold pO at h;rw[if_neg (by decide),czY,cx8] at h;exact cx7 (q0:=[-1,1]) (m0:=1) h (by decide) (oB rfl) (by decide) (aqU (n:=6) (by decide) (by decide) (by decide) (by decide))
def cxB(h:pO B [0, -1] [1] g):g=[1]:=by
 unfold pO at h;rw[if_neg (by decide),cx8,czZ] at h;cases h with
 |one=>rfl
 |step a _ _=>simp at a
def Y2(x m:Nat):nl (x^m)<=m*nl x+1:=by
 induction m with
 |zero=>rw[dzT,mJ (by decide) (by decide)];omega
 |succ m a=>
  rw[dH,y9];have:=fI (x^m) x;omega
def cxF(Y:Int)(a:0<=Y)(b:Y<aA):bits .and .u64 Y 1=Y%2:=by
 rw[u64_and Y 1 a (by unfold aA at b;omega) (by decide) (by decide)];obtain⟨n,rfl⟩:=j7 a;rw[j9,show(1:Int).toNat=2^1-1 from rfl,Nat.and_two_pow_sub_one_eq_mod];rfl
def cq9(n k:Nat)(hn:n<BN):bits .and .u64 ((n:Int)/2^k) 1=((n/2^k%2:Nat):Int):=by
 have e:(n:Int)/2^k=((n/2^k:Nat):Int):=by rw[dzK,O9];rfl
 have:n/2^k<=n:=pQ _ _;rw[e,cxF _ (Int.natCast_nonneg _) (by unfold aA;unfold BN at hn;generalize n/2^k=m at *;omega)];rfl
def cqA(x:Int)(n:Nat):x^n=if (decide (x<0)&&decide (n%2=1)) then -((x.natAbs^n:Nat):Int) else ((x.natAbs^n:Nat):Int):=by
 by_cases h:x<0
 ·have e:x= -(x.natAbs:Int):=by omega
  simp only[h,decide_true,Bool.true_and];generalize x.natAbs=a at *;subst e;clear h;induction n with
  |zero=>simp
  |succ n c=>
   rw[gR,c,dH];by_cases b:n%2=1
   ·rw[if_pos (by simpa using b),if_neg (by simp;omega),Int.neg_mul_neg,dz5]
   ·rw[if_neg (by simpa using b),if_pos (by simp;omega),Int.mul_neg,dz5]
 ·have e:x=(x.natAbs:Int):=by omega
  simp only[h,decide_false,Bool.false_and];rw[if_neg (by simp),O9,<-e]
def cqB(x n k:Nat):(x^(n/2^(k+1))*x^(n/2^(k+1)))*(if n/2^k%2=1 then x else 1)=x^(n/2^k):=by
 have e:n/2^(k+1)=n/2^k/2:=by rw[dH,G6]
 rw[e];generalize n/2^k=m;rw[<-eY];split
 ·rw[<-dH];congr 1;omega
 ·rw[o9];congr 1;omega
def cxG(x n:Nat)(l:Value)(w:World)(y:NatAt w l x)(hn:n<BN)(M:2*(n*nl x+1)+nl x<=aJ):
  Calls prog 178 #[l,.int .u64 n] w (jK w [l] (x^n)):=by
 obtain⟨A,c,rfl,Z,hr,ho⟩:=id y;have N:(n:Int)<=18446744073709551615:=by unfold BN at hn;omega
 have q:=bqZ 64 n (by rw[sY] at hn;exact hn);have s:Lib.bitLenAux 64 n<=64:=Lib.bitLenAux_le 64 n 64 (by rw[sY] at hn;exact hn);have J:n/2^Lib.bitLen n=0:=BA q.1;have K:Lib.bitLen n<=64:=s;clear q s;go_enter func178,ntmps178;go_wp2_with fail;have m:NatAt (w.alloc (.cells #[.int .u64 1] 132)) (.slice (some ⟨w.1.size,0,none⟩) 1 1) 1:=by
  refine⟨_,1,by rw[mJ (by decide) (by decide)],by rw[mJ (by decide) (by decide)];exact aE,?_,Old.mk (by simp)⟩;rw[pC (by decide) (by decide)];refine Rd.mk (by simp) ?_;intro i I;obtain rfl:i=0:=by simpa using I
  simp[go_sem]
 have b:Below w.1.size w (w.alloc (.cells #[.int .u64 1] 132)):=(aG _ _).alloc aE _;generalize w.alloc (.cells #[.int .u64 1] 132)=W at *;refine(Tryz.bits_Len n _ (by omega) N).mono ?_;rintro V w1 ⟨rfl,rfl⟩;rw[j9];generalize Lib.bitLen n=L at *;go_wp2_with fail;go_loopg [5,6] L (fun k v i wr=>i= .int .i64 ((k:Int)-1)∧k<=64∧NatAt wr v (x^(n/2^k))∧From w [.slice A (nl x) c] v∧Below w.1.size w wr)
 case atStart=>exact⟨by go_num,K,by rw[J,dzT];exact m,From.new aE,b⟩
 case round=>
  clear m b;obtain⟨rfl,hk,hv,j,b⟩:=hrel;generalize wr=wy at *;cases gk with
  |zero=>
   rw[dzT,Nat.div_one] at hv;obtain⟨z,B,rfl,E,Q,O⟩:=id hv;go_wp2;go_ret;exact⟨_,rfl,hv,j,b⟩
  |succ k=>
   have t:=cqB x n k;have af:=Y2 x (n/2^(k+1));have ad:n/2^(k+1)*nl x<=n*nl x:=dK _ (pQ _ _);have ag:=fI (x^(n/2^(k+1))) (x^(n/2^(k+1)));generalize x^(n/2^(k+1))=P at *;obtain⟨z,B,rfl,E,Q,O⟩:=id hv;have ae:(0:Int)<=(k:Int):=by omega
   have e:=aB t;clear t;unfold aJ at M;go_wp2_with fail;refine(qN P P _ _ _ hv hv (by unfold aJ;omega)).mono ?_;rintro X w2 ⟨v2,rfl,h,F,C⟩;obtain⟨R,T,rfl,ab,ak,ai⟩:=id h
   have r:=F.trans (vs:=[.slice A (nl x) c]) b.size (fun u a=>by
    rcases List.mem_cons.1 a with rfl|a
    ·exact j
    ·rcases List.mem_cons.1 a with rfl|a
     ·exact j
     ·cases a)
   have f:=aC b C;have am:IntKind.u64.wrap (k:Int)=(k:Int):=by rw[IntKind.wrap_u64];omega
   have p:=cq9 n k hn;by_cases d:n/2^k%2=1
   ·rw[d] at p;rw[d] at e;have g:Hid (P*P*x=x^(n/2^k)):=e.out;clear d e;have ah:=fI P P;go_wp2_with fail;refine(qN (P*P) x _ _ _ h (y.be f) (by unfold aJ;omega)).mono ?_;rintro Y w3 ⟨v3,rfl,o,G,D⟩;obtain⟨S,U,rfl,ac,al,aj⟩:=id o
    have H:=G.trans (vs:=[.slice A (nl x) c]) f.size (fun u a=>by
     rcases List.mem_cons.1 a with rfl|a
     ·exact r
     ·rcases List.mem_cons.1 a with rfl|a
      ·exact From.mem (iC ..)
      ·cases a)
    go_wp2;go_roundg k
    case rel=>exact⟨by go_num,by omega,by rw[<-g.out];exact o,H,aC f D⟩
    case measure=>omega
   ·have d:n/2^k%2=0:=by omega
    rw[d] at p;rw[d] at e;have g:Hid (P*P=x^(n/2^k)):=by have:=e.out;rw[if_neg (by decide),o9] at this;exact this
    clear d e;go_wp2;go_roundg k
    case rel=>exact⟨by go_num,by omega,by rw[<-g.out];exact h,r,f⟩
    case measure=>omega
def U7(x:Int)(n:Nat)(Z:Value)(w:World)(hx:IntAt w Z x)(hn:n<BN)(A:2*(n*nl x.natAbs+1)+nl x.natAbs<=aJ):
  Calls prog 134 #[Z,.int .u64 n] w (dW w (x^n)):=by
 obtain⟨ux,rfl,B⟩:=hx;obtain⟨c0,c1,k,l,z,X,m⟩:=ON w (.bool (decide (x<0))) ux 43;have J:=cqA x n;have V:(x^n).natAbs=x.natAbs^n:=Int.natAbs_pow x n;have Y:=B.be m;have U:=cxF (n:Int) (by omega) (by unfold aA;unfold BN at hn;omega);have ai:=Y2 x.natAbs n;obtain⟨y,E⟩:∃y:Bool,decide (n%2=1)=y:=⟨_,rfl⟩;have ag:(bits .and .u64 (n:Int) 1==1)=y:=by
  rw[U,<-E];by_cases h:n%2=1
  ·simp only[h,decide_true];rw[beq_iff_eq];omega
  ·simp only[h,decide_false];rw[beq_eq_false_iff_ne];omega
 rw[E] at J;clear U E;have s:=aB J;have R:=aB V;have S:=aB X;obtain⟨f,t⟩:∃f,Hid (decide (x^n<0)=f):=⟨_,rfl⟩;generalize decide (x<0)=sx at *;obtain⟨Q,T,rfl,ah,ak,aj⟩:=id B;clear J V X;cases sx with
 |false=>
  rw[Bool.false_and] at s;go_enter func134,ntmps134;go_wp2_with fail;generalize (w.alloc (.cells #[.bool false,.slice Q (nl x.natAbs) T] 43)).alloc (.cells #[.bool false,.slice none 0 0] 43)=W at *;refine(cxG x.natAbs n _ _ Y hn A).mono ?_;rintro e3 w3 ⟨v3,rfl,i,H,a⟩;obtain⟨b,c,rfl,ad,af,ae⟩:=id i;have e:w.1.size+1<W.1.size:=by have:=S.out;omega
  replace k:=(a.cell (p:=⟨w.1.size+1,0,none⟩) e).trans k;replace l:=(a.cell (p:=⟨w.1.size+1,1,none⟩) e).trans l;have C:=(a.frozen (p:=⟨w.1.size+1,0,none⟩) e).trans (z 0);have D:=(a.frozen (p:=⟨w.1.size+1,1,none⟩) e).trans (z 1);go_wp2_with fail;refine(dzY false _ _ (x^n) _ i (by unfold aJ at A;omega) s.out).mono ?_;rintro e5 j ⟨o,d⟩;rw[t.out] at o;subst o;have g:=aZ e a.size;have M:=(d.cell (p:=⟨w.1.size+1,0,none⟩) g).trans k;have N:=(d.cell (p:=⟨w.1.size+1,1,none⟩) g).trans l;have ab:=(d.frozen (p:=⟨w.1.size+1,0,none⟩) g).trans C;have ac:=(d.frozen (p:=⟨w.1.size+1,1,none⟩) g).trans D;go_wp2_with fail;have I:=dzV (p:= .bool f) (q:= .slice b (nl (x.natAbs^n)) c) M N;have F:Below w.1.size w j:=m.trans ((aC a d).mono m.size);have G:=(F.setCell (p:=⟨w.1.size+1,0,none⟩) (by simp) (.bool f)).setCell (p:=⟨w.1.size+1,1,none⟩) (by simp) (.slice b (nl (x.natAbs^n)) c);obtain⟨O,P⟩:=I;have r:=H.ne e (fun u K=>by rw[List.mem_singleton.1 K];exact B.ne (by omega));have L:NatAt ((j.setCell ⟨w.1.size+1,0,none⟩ (.bool f)).setCell ⟨w.1.size+1,1,none⟩ (.slice b (nl (x.natAbs^n)) c)) (.slice b (nl (x.natAbs^n)) c) (x.natAbs^n):=((i.be d).set _ r).set _ r;generalize (j.setCell ⟨w.1.size+1,0,none⟩ (.bool f)).setCell ⟨w.1.size+1,1,none⟩ (.slice b (nl (x.natAbs^n)) c)=W6 at *;exact aM (v:= .agg #[.bool f,.slice b (nl (x.natAbs^n)) c]) (by simp[results,results134,go_sem,O,P]) rfl ⟨_,rfl,⟨_,by rw[t.out],by rw[R.out];exact L⟩,G⟩
 |true=>
  rw[Bool.true_and] at s;go_enter func134,ntmps134;go_wp2_with fail;generalize (w.alloc (.cells #[.bool true,.slice Q (nl x.natAbs) T] 43)).alloc (.cells #[.bool false,.slice none 0 0] 43)=W at *;refine(cxG x.natAbs n _ _ Y hn A).mono ?_;rintro e3 w3 ⟨v3,rfl,i,H,a⟩;obtain⟨b,c,rfl,ad,af,ae⟩:=id i;have e:w.1.size+1<W.1.size:=by have:=S.out;omega
  replace k:=(a.cell (p:=⟨w.1.size+1,0,none⟩) e).trans k;replace l:=(a.cell (p:=⟨w.1.size+1,1,none⟩) e).trans l;have C:=(a.frozen (p:=⟨w.1.size+1,0,none⟩) e).trans (z 0);have D:=(a.frozen (p:=⟨w.1.size+1,1,none⟩) e).trans (z 1);go_wp2_with fail;refine(dzY y _ _ (x^n) _ i (by unfold aJ at A;omega) s.out).mono ?_;rintro e5 j ⟨o,d⟩;rw[t.out] at o;subst o;have g:=aZ e a.size;have M:=(d.cell (p:=⟨w.1.size+1,0,none⟩) g).trans k;have N:=(d.cell (p:=⟨w.1.size+1,1,none⟩) g).trans l;have ab:=(d.frozen (p:=⟨w.1.size+1,0,none⟩) g).trans C;have ac:=(d.frozen (p:=⟨w.1.size+1,1,none⟩) g).trans D;go_wp2_with fail;have I:=dzV (p:= .bool f) (q:= .slice b (nl (x.natAbs^n)) c) M N;have F:Below w.1.size w j:=m.trans ((aC a d).mono m.size);have G:=(F.setCell (p:=⟨w.1.size+1,0,none⟩) (by simp) (.bool f)).setCell (p:=⟨w.1.size+1,1,none⟩) (by simp) (.slice b (nl (x.natAbs^n)) c);obtain⟨O,P⟩:=I;have r:=H.ne e (fun u K=>by rw[List.mem_singleton.1 K];exact B.ne (by omega));have L:NatAt ((j.setCell ⟨w.1.size+1,0,none⟩ (.bool f)).setCell ⟨w.1.size+1,1,none⟩ (.slice b (nl (x.natAbs^n)) c)) (.slice b (nl (x.natAbs^n)) c) (x.natAbs^n):=((i.be d).set _ r).set _ r;generalize (j.setCell ⟨w.1.size+1,0,none⟩ (.bool f)).setCell ⟨w.1.size+1,1,none⟩ (.slice b (nl (x.natAbs^n)) c)=W6 at *;exact aM (v:= .agg #[.bool f,.slice b (nl (x.natAbs^n)) c]) (by simp[results,results134,go_sem,O,P]) rfl ⟨_,rfl,⟨_,by rw[t.out],by rw[R.out];exact L⟩,G⟩
def RatAt.int{s s':Bool}{a:Value}(b:IntAt w (.agg #[.bool s,u]) n)(c:IntAt w (.agg #[.bool s',a]) 0):RatAt w (.agg #[.bool s,u,.bool s',a]) (n:Rat):=
 RatAt.of b c rfl (fV.2 rfl)
def tO:nl (Int.natAbs 0)<=17592186044416:=by rw[show Int.natAbs 0=0 from rfl,dO];exact dC _
def UV(n:Int):bS (n:Rat)=0:=fV.2 rfl
def BZ(n:Int)(f:Value)(w:World)(hn:IntAt w f n):
  Calls prog 47 #[f] w (iF w (n:Rat)):=by
 obtain⟨d,a,c,b,rfl⟩:=hn.form;have h:Bx ((w.alloc (.cells #[.bool d,.slice a c b] 43)).alloc (.cells #[.bool false,.slice none 0 0,.bool false,.slice none 0 0] 47)) (w.1.size) [.bool d,.slice a c b] 43:=(Bx.newAt w [.bool d,.slice a c b] 43 (w.1.size) (by simp)).alloc (.cells #[.bool false,.slice none 0 0,.bool false,.slice none 0 0] 47);have R:Bx ((w.alloc (.cells #[.bool d,.slice a c b] 43)).alloc (.cells #[.bool false,.slice none 0 0,.bool false,.slice none 0 0] 47)) (w.1.size+1) [.bool false,.slice none 0 0,.bool false,.slice none 0 0] 47:=Bx.newAt (w.alloc (.cells #[.bool d,.slice a c b] 43)) [.bool false,.slice none 0 0,.bool false,.slice none 0 0] 47 (w.1.size+1) (by simp);have g:Below w.1.size w ((w.alloc (.cells #[.bool d,.slice a c b] 43)).alloc (.cells #[.bool false,.slice none 0 0,.bool false,.slice none 0 0] 47)):=((aG _ _).alloc (by simp) _).alloc (by simp<;>omega) _;go_enter func47,ntmps47;go_wp2_with fail;have i:=hn.be g;have e:=((aG w.1.size w).alloc aE (.cells #[.bool d,.slice a c b] 43)).alloc (by simp) (.cells #[.bool d,.slice a c b,.bool false,.slice none 0 0] 47);exact aM (v:= .agg #[.bool d,.slice a c b,.bool false,.slice none 0 0]) (by simp[results,results47,go_sem]) rfl ⟨_,rfl,RatAt.int (hn.be e) (IntAt.zero _),e⟩
def cq8(n:Int)(m:Nat)(v:Value)(w:World)(hv:RatAt w v (n:Rat))(D:m<BN)(C:2*(m*nl n.natAbs+1)+nl n.natAbs<=aJ):
  Calls prog 66 #[v,.int .u64 m] w (iF w ((n^m:Int):Rat)):=by
 obtain⟨s,A,k,c,y,j,u,o,rfl⟩:=hv.form;obtain⟨W,q,a,b,R⟩:=D8 w [.bool s,.slice A k c,.bool y,.slice j u o] 47 [.bool false,.slice none 0 0,.bool false,.slice none 0 0] 47;have h:=aa b.g4 R.g4;go_enter func66,ntmps66;go_wp2_with fail;(try rw[q]);clear q;have hn:IntAt W (.agg #[.bool s,.slice A k c]) n:=(hv.be a).num;have i:IntAt W (.agg #[.bool y,.slice j u o]) 0:=by have:=(hv.be a).den;rw[UV] at this;exact this
 refine(g9 0 _ _ i tO).mono ?_;rintro F I ⟨rfl,f⟩;replace b:=b.be f;replace R:=R.be f;replace h:=aa b.k4 R.g4;replace d:=Keep.be f;replace hn:=hn.ke d;replace i:=i.ke d;replace a:=aC a f;have t:decide ((0:Int)=0)=true:=rfl;rw[t];clear t;go_wp2_with fail;refine(U7 n m _ _ hn D C).mono ?_;rintro G J ⟨H,rfl,e,g⟩;obtain⟨z,l,x,p,rfl⟩:=e.form;replace b:=b.be g;replace R:=R.be g;replace h:=aa b.k4 R.g4;replace d:=Keep.be g;replace hn:=hn.ke d;replace a:=aC a g;go_wp2_with fail;obtain⟨E,r,R,a,d,B⟩:=R.put4 a (by omega) (.bool z) (.slice l x p) (.bool false) (.slice none 0 0) rfl rfl;replace b:=B b (by omega);replace e:=e.ke d;rw[r];clear r;replace h:=aa b.k4 R.k4;exact aM (v:= .agg #[.bool z,.slice l x p,.bool false,.slice none 0 0]) (by simp[results,results66,go_sem,R.k4]) rfl ⟨_,rfl,RatAt.int e (IntAt.zero _),a⟩
def bzP(x y:Int)(vx vy:Value)(w:World)(G:RatAt w vx (x:Rat))(H:RatAt w vy (y:Rat))(ab:nl x.natAbs+nl y.natAbs<=17592186044416):
  Calls prog 46 #[vx,vy] w (iF w ((x*y:Int):Rat)):=by
 obtain⟨s,A,k,c,U,I,Q,M,rfl⟩:=G.form;obtain⟨t,C,l,e,Z,K,T,O,rfl⟩:=H.form;obtain⟨W,P,a,X,Y,R⟩:=gE w [.bool s,.slice A k c,.bool U,.slice I Q M] 47 [.bool t,.slice C l e,.bool Z,.slice K T O] 47 [.bool false,.slice none 0 0,.bool false,.slice none 0 0] 47;have j:=aa X.g4 (aa Y.g4 R.g4);go_enter func46,ntmps46;go_wp2_with fail;(try rw[P]);clear P;have f:IntAt W (.agg #[.bool s,.slice A k c]) x:=(G.be a).num;have h:IntAt W (.agg #[.bool U,.slice I Q M]) 0:=by have:=(G.be a).den;rw[UV] at this;exact this
 have g:IntAt W (.agg #[.bool t,.slice C l e]) y:=(H.be a).num;have i:IntAt W (.agg #[.bool Z,.slice K T O]) 0:=by have:=(H.be a).den;rw[UV] at this;exact this
 refine(g9 x _ _ f (by omega)).mono ?_;rintro e1 w1 ⟨rfl,p⟩;replace X:=X.be p;replace Y:=Y.be p;replace R:=R.be p;replace j:=aa X.k4 (aa Y.k4 R.g4);replace b:=Keep.be p;replace f:=f.ke b;replace h:=h.ke b;replace g:=g.ke b;replace i:=i.ke b;replace a:=aC a p;by_cases E:x=0
 ·have d:decide (x=0)=true:=by simpa using E
  rw[d];have z:x*y=0:=by rw[E,azK]
  have o:=aB z;clear d z E;go_wp2_with fail;obtain⟨L,m,R,a,b,n⟩:=R.put4 a (by omega) (.bool false) (.slice none 0 0) (.bool false) (.slice none 0 0) rfl rfl;replace X:=n X (by omega);replace Y:=n Y (by omega);rw[m];clear m;replace j:=aa X.k4 (aa Y.k4 R.k4);exact aM (v:= .agg #[.bool false,.slice none 0 0,.bool false,.slice none 0 0]) (by simp[results,results46,go_sem,R.k4]) rfl ⟨_,rfl,RatAt.of (IntAt.zero _) (IntAt.zero _) (by rw[o.out];rfl) (by rw[o.out];rfl),a⟩
 ·have d:decide (x=0)=false:=by simpa using E
  rw[d];clear d;go_wp2_with fail;refine(g9 y _ _ g (by omega)).mono ?_;rintro e2 w2 ⟨rfl,q⟩;replace X:=X.be q;replace Y:=Y.be q;replace R:=R.be q;replace j:=aa X.k4 (aa Y.k4 R.g4);replace b:=Keep.be q;replace f:=f.ke b;replace h:=h.ke b;replace g:=g.ke b;replace i:=i.ke b;replace a:=aC a q;by_cases F:y=0
  ·have d:decide (y=0)=true:=by simpa using F
   rw[d];have z:x*y=0:=by rw[F,Int.mul_zero]
   have o:=aB z;clear d z F;go_wp2_with fail;obtain⟨L,m,R,a,b,n⟩:=R.put4 a (by omega) (.bool false) (.slice none 0 0) (.bool false) (.slice none 0 0) rfl rfl;replace X:=n X (by omega);replace Y:=n Y (by omega);rw[m];clear m;replace j:=aa X.k4 (aa Y.k4 R.k4);exact aM (v:= .agg #[.bool false,.slice none 0 0,.bool false,.slice none 0 0]) (by simp[results,results46,go_sem,R.k4]) rfl ⟨_,rfl,RatAt.of (IntAt.zero _) (IntAt.zero _) (by rw[o.out];rfl) (by rw[o.out];rfl),a⟩
  ·have d:decide (y=0)=false:=by simpa using F
   rw[d];clear d;go_wp2_with fail;refine(g9 0 _ _ h tO).mono ?_;rintro e3 w3 ⟨rfl,r⟩;replace X:=X.be r;replace Y:=Y.be r;replace R:=R.be r;replace j:=aa X.k4 (aa Y.k4 R.g4);replace b:=Keep.be r;replace f:=f.ke b;replace h:=h.ke b;replace g:=g.ke b;replace i:=i.ke b;replace a:=aC a r;have d:decide ((0:Int)=0)=true:=rfl;rw[d];clear d;go_wp2_with fail;refine(g9 0 _ _ i tO).mono ?_;rintro e4 w4 ⟨rfl,u⟩;replace X:=X.be u;replace Y:=Y.be u;replace R:=R.be u;replace j:=aa X.k4 (aa Y.k4 R.g4);replace b:=Keep.be u;replace f:=f.ke b;replace h:=h.ke b;replace g:=g.ke b;replace i:=i.ke b;replace a:=aC a u;have d:decide ((0:Int)=0)=true:=rfl;rw[d];clear d;go_wp2_with fail;refine(jB x y _ _ _ f g ab).mono ?_;rintro e5 w5 ⟨v5,rfl,B,D⟩;obtain⟨V,J,S,N,rfl⟩:=B.form;replace X:=X.be D;replace Y:=Y.be D;replace R:=R.be D;replace j:=aa X.k4 (aa Y.k4 R.g4);replace a:=aC a D;go_wp2_with fail;obtain⟨L,m,R,a,b,n⟩:=R.put4 a (by omega) (.bool V) (.slice J S N) (.bool false) (.slice none 0 0) rfl rfl;replace X:=n X (by omega);replace Y:=n Y (by omega);replace B:=B.ke b;rw[m];clear m;replace j:=aa X.k4 (aa Y.k4 R.k4);exact aM (v:= .agg #[.bool V,.slice J S N,.bool false,.slice none 0 0]) (by simp[results,results46,go_sem,R.k4]) rfl ⟨_,rfl,RatAt.int B (IntAt.zero _),a⟩
structure DivRes(A B Q R:List Rat)(K:Nat):Prop where
 id_:∀i,conv (cf Q) (cf B) i+cf R i=cf A i
 q_trim:aN Q
 r_trim:aN R
 r_lt:R.length<B.length
 q_len:Q.length<=A.length
 bq:∀q∈Q,RL K q
 br:∀q∈R,RL K q
def VN{c:List Int}(hF:F≠0)(h:aN c):aN (tT c F):=by
 intro a b e;unfold tT at b;rw[List.getLast?_map] at b;cases hq:c.getLast? with
 |none=>rw[hq] at b;simp at b
 |some n=>
  rw[hq] at b;simp only[bxU,Option.some.injEq] at b;rw[e] at b;have d:(n:Rat)≠0:=fun e=>h n hq (Rat.intCast_inj.1 e);have f:(F:Rat)≠0:=fun e=>hF (Rat.intCast_inj.1 e);grind
def xM{d:List Int}{E:Int}(f:E≠0)(h:aN d):aN (d.map (·*E)):=by
 intro a b e;rw[List.getLast?_map] at b;cases hq:d.getLast? with
 |none=>rw[hq] at b;simp at b
 |some n=>
  rw[hq] at b;simp only[bxU,Option.some.injEq] at b;rw[e] at b;rcases Int.mul_eq_zero.1 b with c|c
  ·exact h n hq c
  ·exact f c
def xN(a:List Int)(F:Int)(i:Nat):cf (tT a F) i=((cf a i:Int):Rat)/F:=mG (fun n:Int=>(n:Rat)/(F:Rat)) (F7 F) a i
def CC(a:List Int)(E:Int)(i:Nat):cf (a.map (·*E)) i=cf a i*E:=mG (·*E) (azK E) a i
def cqT{A B:List Rat}{E:Int}{a K2:Nat}(e:ComDen A D a)(f:ComDen B E a)(h:PQRes (cC A D) (cC B E) KB m q r)(o:nl E.natAbs<=a)(l:nl D.natAbs<=a)(p:a+KB<=K2)(d:1<=K2):
  DivRes A B (tT (q.map (·*E)) (D*m)) (tT r (D*m)) K2:=by
 have g:D≠0:=by have:=e.pos;omega
 have j:E≠0:=by have:=f.pos;omega
 have hF:D*m≠0:=byU g h.m0;have c:nl (D*m).natAbs<=K2:=aH (gT D m _ _ l h.bm) p;refine⟨fun i=> ?_,VN hF (xM j h.q_trim),VN hF h.r_trim,?_,?_,fun x b=> ?_,fun x b=> ?_⟩
 ·have:=czJ (A:=cf A) (B:=cf B) (x:=cf (cC A D)) (y:=cf (cC B E)) (q:=cf q) (r:=cf r) (xd:=D) (yd:=E) (m:=m) (JC A D e.dvd) (JC B E f.dvd) g j h.m0 h.id_ i;rw[<-this,xN];congr 1
  ·refine gL (fun k=> ?_) (fun _=>rfl) i;rw[xN,CC,eJ,eJ]
  ·rw[eJ]
 ·unfold tT;rw[cH];have:=h.r_lt;rw[oN] at this;exact this
 ·unfold tT;rw[cH,cH];have:=h.q_len;rw[oN] at this;exact this
 ·unfold tT at b;obtain⟨n,hn,rfl⟩:=List.mem_map.1 b;obtain⟨y,s,rfl⟩:=List.mem_map.1 hn;exact CA _ _ _ (aH (gT y E _ _ (h.bq y s) o) (by omega)) c d
 ·unfold tT at b;obtain⟨n,hn,rfl⟩:=List.mem_map.1 b;exact CA _ _ _ (aH (h.br n hn) (by omega)) c d
def bzW(w:World)(a b:List (List UInt8))(K2:Nat)(e:Ending)(w':World):Prop:=
 ∃v u n Q R,e= .returned (.tuple #[v,u,.int .i64 n])∧StrsAt w' v (Q.map cW)∧StrsAt w' u (R.map cW)∧Below w.1.size w w'∧
  (¬(vl a=true∧vl b=true)->n=1∧Q=[]∧R=[])∧(vl a=true->vl b=true->b=[]->n=5∧Q=[]∧R=[])∧(vl a=true->vl b=true->b≠[]->n=0∧DivRes (aU a) (aU b) Q R K2)
def cqU(a b:List (List UInt8))(va vb:Value)(w:World)(o:Glob w)(ha:StrsAt w va a)(ag:StrsAt w vb b)(a1:a.length<=1073741824)(a2:b.length<=1073741824)(K:Nat)
  (ay:a.length<=65->∀l∈a,l.length<=1073741824)(az:b.length<=65->∀l∈b,l.length<=1073741824)(ak:a.length<=65->∀q∈aU a,RL K q)(al:b.length<=65->∀q∈aU b,RL K q)(L KB K2:Nat)(am:a.length<=65->a.length<=L)(au:b.length<=65->b.length<=L)(ar:1<=L)(bk:K+(1+L*K)+(L+1)*(K+(1+L*K)+1)<=KB)(bi:1+L*K+KB<=K2)(bj:K2<=10000000):
  Calls prog 17 #[va,vb] w (bzW w a b K2):=by
 obtain⟨A,c,rfl,hc⟩:=ha.form;obtain⟨A',c',rfl,bo⟩:=ag.form;go_enter func17,ntmps17;go_wp2_with fail;refine(VD a _ _ o ha a1 ay K (1+L*K) L ak am ar aE (by unfold aJ;omega)).mono ?_;rintro e1 R ⟨v1,b3,xs,D,rfl,z,g,a7,aw⟩;obtain⟨A1,c1,rfl,bp⟩:=z.form;obtain⟨s1,B1,k1,d1,rfl⟩:=g.form;go_wp2_with fail;have ai:Below R.1.size R (R.alloc (.cells #[.bool s1,.slice B1 k1 d1] 43)):=(aG _ _).alloc aE _;have X:=Bx.new R [.bool s1,.slice B1 k1 d1] 43;replace z:=z.be ai;replace g:=g.be ai;have d:=aC aw ai;clear ai;generalize bv:R.1.size=gx at *;generalize R.alloc (.cells #[.bool s1,.slice B1 k1 d1] 43)=w2 at *;refine(VD b _ _ (o.be d) (ag.be d) a2 az K (1+L*K) L al au ar aE (by unfold aJ;omega)).mono ?_;rintro e3 S ⟨v3,b4,ys,E,rfl,P,f,a8,ah⟩;obtain⟨A3,c3,rfl,bs⟩:=P.form;obtain⟨s3,V,k3,d3,rfl⟩:=f.form;replace X:=X.be ah;replace z:=z.be ah;replace g:=g.be ah;replace d:=aC d ah;cases hva:vl a with
 |false=>
  go_wp2_with fail;refine aM (v:= .tuple #[.slice none 0 0,.slice none 0 0,.int .i64 1]) (by simp[results,results17,go_sem]) rfl ⟨_,_,1,[],[],rfl,StrsAt.nil _ _ _,StrsAt.nil _ _ _,d.alloc d.size _,(fun _=>⟨rfl,rfl,rfl⟩),(fun h=> ?_),(fun h=> ?_)⟩
  ·rw[hva] at h;cases h
  ·rw[hva] at h;cases h
 |true=>
  cases hvb:vl b with
  |false=>
   go_wp2_with fail;refine aM (v:= .tuple #[.slice none 0 0,.slice none 0 0,.int .i64 1]) (by simp[results,results17,go_sem]) rfl ⟨_,_,1,[],[],rfl,StrsAt.nil _ _ _,StrsAt.nil _ _ _,d.alloc d.size _,(fun _=>⟨rfl,rfl,rfl⟩),(fun _ h=> ?_),(fun _ h=> ?_)⟩
   ·rw[hvb] at h;cases h
   ·rw[hvb] at h;cases h
  |true=>
   obtain⟨rfl,H⟩:=a7 hva;obtain⟨rfl,t⟩:=a8 hvb;obtain⟨p1, -,t1⟩:=pJ hva;obtain⟨p2, -,t2⟩:=pJ hvb;have Q:(cC (aU b) E).length=b.length:=by rw[oN];unfold aU;rw[cH]
   by_cases J:b=[]
   ·have q0:(((cC (aU b) E).length:Int)==0)=true:=by rw[Q,J];rfl
    have HB:=aB J;clear J Q ag;go_wp2_with fail;exact aM (v:= .tuple #[.slice none 0 0,.slice none 0 0,.int .i64 5]) (by simp[results,results17,go_sem]) rfl ⟨_,_,5,[],[],rfl,StrsAt.nil _ _ _,StrsAt.nil _ _ _,d.alloc d.size _,(fun h=>absurd ⟨hva,hvb⟩ h),(fun _ _ _=>⟨rfl,rfl,rfl⟩),(fun _ _ h=>absurd HB.out h)⟩
   ·have ax:b.length≠0:=fun e=>J (bX e);have q0:(((cC (aU b) E).length:Int)==0)=false:=by rw[Q];simp;omega
    have lx:(cC (aU a) D).length<=65:=by rw[oN];unfold aU;rw[cH];exact p1
    have ly:(cC (aU b) E).length<=65:=by rw[Q];exact p2
    have b2:(cC (aU a) D).length<=L:=by rw[oN];unfold aU;rw[cH];exact am p1
    have av:cC (aU b) E≠[]:=fun e=>ax (by rw[<-Q,e];rfl);have a5:=oO H.pos H.dvd t1;have a6:=oO t.pos t.dvd t2;have bx:=sA _ D K _ (ak p1) H.nl_;have bY:=sA _ E K _ (al p2) t.nl_;have a0:=fun m q r h=>cqT (K2:=K2) (KB:=KB) (m:=m) (q:=q) (r:=r) H t h t.nl_ H.nl_ (by omega) (by omega);have ao:=aB a0;have aq:E≠0:=by have:=t.pos;omega
    have bD:=H.nl_;have bE:=t.nl_;have aj:Hid (vl a=true∧vl b=true∧b≠[]):=⟨hva,hvb,J⟩;clear a0 H t a7 a8 hva hvb t1 t2 p1 p2 ak al ay az Q ax ha ag a1 a2 J am au;generalize cC (aU a) D=NA at *;generalize cC (aU b) E=NB at *
    have an:=fun W B C=>BU NA NB (.slice A1 NA.length c1) (.slice A3 NB.length c3) W B C av a5 a6 (K+(1+L*K)) KB bx bY (by omega) (by
     have:(NA.length+1-NB.length)*(K+(1+L*K)+1)<=(L+1)*(K+(1+L*K)+1):=dK _ (by omega);omega) (by unfold aJ;omega) (by omega) (by omega)
    unfold wZ at an;have bh:=X.lt;clear av a5 a6 bx bY;go_wp2_with fail;have G:Below S.1.size S (S.alloc (.cells #[.bool s3,.slice V k3 d3] 43)):=(aG _ _).alloc aE _;have Y:=Bx.new S [.bool s3,.slice V k3 d3] 43;replace z:=z.be G;replace P:=P.be G;replace g:=g.be G;replace f:=f.be G;replace X:=X.be G;replace d:=aC d G;clear G;generalize bw:S.1.size=gy at *;generalize S.alloc (.cells #[.bool s3,.slice V k3 d3] 43)=w4 at *;refine(an _ z P).mono ?_;rintro e5 T ⟨vq,vr,vm,q,r,m,rfl,k,i,hm,x,ab⟩;obtain⟨Aq,cq,rfl,bt⟩:=k.form;obtain⟨Ar,cr,rfl,bu⟩:=i.form;obtain⟨sm,Bm,km,dm,rfl⟩:=hm.form;have a9:=aB (ao.out m q r x);have bq:=x.bq;have br:=x.br;have bm:=x.bm;have b0:=x.q_len;have b1:=x.r_lt;have a4:=qB (xM aq x.q_trim);replace X:=X.be ab;replace Y:=Y.be ab;replace g:=g.be ab;replace f:=f.be ab;replace d:=aC d ab;have a3:=fun W B C=>OD q E (.slice Aq q.length cq) (.agg #[.bool s3,.slice V k3 d3]) W B C KB bq (by omega) (by omega) (by omega);rw[a4] at a3;clear x ao an a4 aq;have ba:∀I:Obj,(T.alloc I).cell? ⟨gx,0,none⟩=some (.bool s1):=fun I=>(X.alloc I).cell 0 rfl;have bb:∀I:Obj,(T.alloc I).cell? ⟨gx,1,none⟩=some (.slice B1 k1 d1):=fun I=>(X.alloc I).cell 1 rfl;go_wp2_with fail;have s:Below T.1.size T (T.alloc (.cells #[.bool sm,.slice Bm km dm] 43)):=(aG _ _).alloc aE _;replace k:=k.be s;replace i:=i.be s;replace g:=g.be s;replace f:=f.be s;replace hm:=hm.be s;replace Y:=Y.be s;replace d:=aC d s;clear s X ba bb;generalize T.alloc (.cells #[.bool sm,.slice Bm km dm] 43)=w6 at *;refine(jB D m _ _ _ g hm (by omega)).mono ?_;rintro e7 U ⟨v7,rfl,j,M⟩;obtain⟨s7,B7,k7,d7,rfl⟩:=j.form;have bc:=gT D m _ _ bD bm;generalize D*m=DM at *;have ap:∀n∈q.map (·*E),nl n.natAbs<=K2:=fun n hn=>by
     obtain⟨y,P,rfl⟩:=List.mem_map.1 hn;exact aH (gT y E _ _ (bq y P) bE) (by omega)
    have bf:=fun W v u o B C=>bzO (q.map (·*E)) DM v u W o B C K2 ap (by omega) (by omega) (by omega) (by rw[cH];omega);have bg:=fun W u o B C=>bzO r DM (.slice Ar r.length cr) u W o B C K2 (fun n hn=>aH (br n hn) (by omega)) (by omega) (by omega) (by omega) (by omega);generalize q.map (·*E)=QE at *;replace k:=k.be M;replace i:=i.be M;replace f:=f.be M;replace Y:=Y.be M;replace d:=aC d M;clear bq br bm ap bc bD bE hm;go_wp2_with fail;have F:Below U.1.size U (U.alloc (.cells #[.bool s7,.slice B7 k7 d7] 43)):=(aG _ _).alloc aE _;have Z:=Bx.new U [.bool s7,.slice B7 k7 d7] 43;have bn:=M.size;replace k:=(k.be F).drew;replace i:=(i.be F).drew;replace f:=(f.be F).drew;replace j:=(j.be F).drew;replace Y:=(Y.be F).drew;replace d:=(aC d F).drew;clear F;generalize bz:U.1.size=gz at *;generalize U.alloc (.cells #[.bool s7,.slice B7 k7 d7] 43)=w8 at *;replace Z:=Z.drew;replace ac:=Y.cell 0 rfl;replace ad:=Y.cell 1 rfl;replace ae:=Z.cell 0 rfl;replace af:=Z.cell 1 rfl
    go_region_held3 (fun w'=>w'.cell? ⟨gy,0,none⟩=some (.bool s3)∧w'.cell? ⟨gy,1,none⟩=some (.slice V k3 d3)∧w'.cell? ⟨gz,0,none⟩=some (.bool s7)∧w'.cell? ⟨gz,1,none⟩=some (.slice B7 k7 d7))
     (first|(with_reducible exact⟨ac,ad,ae,af⟩))
     (first
      |(go_at_call 57;refine(a3 _ k f).mono ?_;rintro eA wA ⟨vA,rfl,hA,N⟩;replace Y:=Y.be N;replace Z:=Z.be N;replace ac:=Y.cell 0 rfl;replace ad:=Y.cell 1 rfl;replace ae:=Z.cell 0 rfl;replace af:=Z.cell 1 rfl;(try replace j:=j.be N);(try replace i:=i.be N);(try replace hC:=hC.be N);replace d:=aC d N)
      |(go_at_call 58;(with_reducible refine(bg _ _ (o.be d) i j).mono ?_);rintro eC wC ⟨vC,rfl,hC,p⟩;replace Y:=Y.be p;replace Z:=Z.be p;replace ac:=Y.cell 0 rfl;replace ad:=Y.cell 1 rfl;replace ae:=Z.cell 0 rfl;replace af:=Z.cell 1 rfl;(try replace k:=k.be p);(try replace f:=f.be p);(try replace j:=j.be p);(try replace hA:=hA.be p);(try replace hB:=hB.be p);replace d:=aC d p)
      |(go_at_call 58;(with_reducible refine(bf _ _ _ (o.be d) hA j).mono ?_);rintro eB wB ⟨vB,rfl,hB,O⟩;replace Y:=Y.be O;replace Z:=Z.be O;replace ac:=Y.cell 0 rfl;replace ad:=Y.cell 1 rfl;replace ae:=Z.cell 0 rfl;replace af:=Z.cell 1 rfl;(try replace j:=j.be O);(try replace i:=i.be O);(try replace hC:=hC.be O);replace d:=aC d O))
    go_wp2_with fail;refine aM (v:= .tuple #[vB,vC,.int .i64 0]) (by simp[results,results17,go_sem]) rfl ⟨_,_,0,_,_,rfl,hB,hC,d,(fun h=>absurd ⟨aj.out.1,aj.out.2.1⟩ h),(fun _ _ h=>absurd h aj.out.2.2),(fun _ _ _=>⟨rfl,a9.out⟩)⟩
def cqV(a b:List (List UInt8))(c d:Value)(w:World)(e:Glob w)(j:StrsAt w c a)(k:StrsAt w d b)(o:a.length<=1073741824)(p:b.length<=1073741824)(K:Nat)
  (m:a.length<=65->∀l∈a,l.length<=1073741824)(n:b.length<=65->∀l∈b,l.length<=1073741824)(h:a.length<=65->∀q∈aU a,RL K q)(i:b.length<=65->∀q∈aU b,RL K q)(KB K2:Nat)(r:66*K+1+66*(66*K+2)<=KB)(f:1+65*K+KB<=K2)(g:K2<=10000000):
  Calls prog 17 #[c,d] w (bzW w a b K2):=
 cqU a b c d w e j k o p K m n h i 65 KB K2 id id (by decide) (by omega) f g
def cqW(a b:List (List UInt8))(c d:Value)(w:World)(e:Glob w)(h:StrsAt w c a)(i:StrsAt w d b)(m:a.length<=1073741824)(n:b.length<=1073741824)(K:Nat)
  (j:a.length<=65->∀l∈a,l.length<=1073741824)(k:b.length<=65->∀l∈b,l.length<=1073741824)(f:a.length<=65->∀q∈aU a,RL K q)(g:b.length<=65->∀q∈aU b,RL K q)(o:K<=1024):
  Calls prog 17 #[c,d] w (bzW w a b 10000000):=
 cqV a b c d w e h i m n K j k f g 5000000 10000000 (by omega) (by omega) (by omega)
def dx1(a b:List (List UInt8))(I J:Value)(w:World)(u:StrsAt w I a)(v:StrsAt w J b)(X:a.length<=1099511627776)(Y:b.length<=1099511627776):
  Calls prog 15 #[I,J] w fun e w'=>e= .returned (.bool (decide (a=b)))∧Below w.1.size w w':=by
 obtain⟨A,c,rfl,S⟩:=u.form;obtain⟨M,P,rfl,T⟩:=v.form;go_enter func15,ntmps15;by_cases f:a.length=b.length
 ·have H:((a.length:Int)==(b.length:Int))=true:=by rw[f];exact beq_self_eq_true _
  have q:=aB f;go_wp2_with fail;clear H f;go_loopg [5] a.length (fun k i wr=>∃j,Hid (j+k=a.length)∧i= .int .i64 j∧Hid (a.take j=b.take j)∧Below w.1.size w wr)
  case atStart=>exact⟨0,by unfold Hid;omega,rfl,rfl,aG _ _⟩
  case round=>
   obtain⟨j,l,rfl,r,d⟩:=hrel;generalize wr=wy at *;have U:(0:Int)<=(j:Int):=by omega
   cases gk with
   |zero=>
    have D:j=a.length:=l.out;have C:a=b:=by
     have:=r.out;rwa [D,F9,q.out,F9] at this
    have B:decide (a=b)=true:=decide_eq_true C;have K:=aB B;subst D;clear B C;go_wp2;go_ret;rw[K.out];exact⟨rfl,d⟩
   |succ k=>
    have o:j<a.length:=by have:=l.out;omega
    have E:j<b.length:=by rw[<-q.out];exact o
    have V:(j:Int)<(a.length:Int):=by omega
    have W:(j:Int)<(b.length:Int):=by omega
    have s:=aR o;have t:=aR E;have G:a[j]=b[j]->a.take (j+1)=b.take (j+1):=fun e=>by rw[bxN o,bxN E,r.out,e]
    have F:a[j]≠b[j]->decide (a=b)=false:=fun h=>decide_eq_false (fun e=>h (by simp[e]));have n:=aB (And.intro G F);obtain⟨N,oa,rfl,Z,Q⟩:=(u.be d).at_ s;obtain⟨O,ob,rfl,lb,R⟩:=(v.be d).at_ t;clear G F s t;generalize a[j]=x at *;generalize b[j]=y at *;have z:=d.drew;by_cases g:x=y
    ·have m:=aB (n.out.1 g);subst g;go_wp2_with fail;go_region
     all_goals (
      go_wp2;go_roundg k
      case rel=>exact⟨j+1,by have:=l.out;unfold Hid;omega,by go_num,m,z⟩
      case measure=>omega)
    ·have m:=aB (n.out.2 g);have p:(x==y)=false:=beq_eq_false_iff_ne.2 g;clear n;go_wp2_with fail;go_region
     all_goals (
      go_wp2;go_ret;rw[m.out];exact⟨rfl,z⟩)
 ·have H:((a.length:Int)==(b.length:Int))=false:=by rw[beq_eq_false_iff_ne];omega
  have p:decide (a=b)=false:=decide_eq_false (fun e=>f (by rw[e]));have L:=aB p;clear p;go_wp2;go_ret;rw[L.out];exact⟨rfl,aG _ _⟩
def uH(u:Value):Prop:=∃A n c,u= .slice A n c
def PRow(w:World)(B:Nat)(e:TypeId)(v:Value)(b:List Value):Prop:=
 (v= .slice none 0 0∧b=[])∨∃g c d,v= .slice (some ⟨g,0,none⟩) b.length c∧B<=g∧w.heap[g]? =some (.cells d e (0,0))∧b.length<=c∧c<=maxLen∧d.size=c∧d.toList.take b.length=b∧∀u∈d.toList,uH u
def PRow.nil(w:World)(B:Nat)(e:TypeId):PRow w B e (.slice none 0 0) []:= .inl ⟨rfl,rfl⟩
def PRow.be(h:PRow w B e v c)(j:Below w.1.size w w'):PRow w' B e v c:=by
 rcases h with h|⟨g,d,f,hv,i,b,h⟩
 ·exact .inl h
 ·exact .inr ⟨g,d,f,hv,i,(j.block g (Array.getElem?_eq_some_iff.1 b).1).trans b,h⟩
def PRow.ge(h:PRow w B e v c):∀g,v.ownBlock=some g->B<=g:=fun g b=>by
 rcases h with ⟨rfl,_⟩|⟨g',d,cur,rfl,f,_⟩
 ·simp[Value.ownBlock] at b
 ·simp[Value.ownBlock] at b;omega
def PRow.form{b:List Value}(h:PRow w B e v b):∃A c,v= .slice A b.length c∧b.length<=c:=by
 rcases h with ⟨rfl,rfl⟩|⟨i,f,g,rfl,j,_,d,_⟩
 ·exact⟨none,0,rfl,aE⟩
 ·exact⟨_,_,rfl,d⟩
def PRow.at_{l c:Nat}{g:List Value}(h:PRow w B e (.slice A l c) g)(hi:g[i]? =some u):∃b,A=some ⟨b,0,none⟩∧b<w.1.size∧w.cell? ⟨b,i,none⟩=some u:=by
 rcases h with ⟨_,rfl⟩|⟨d,m,j,hv,n,f,p,q,r,k,hn⟩
 ·simp at hi
 ·simp only[Value.slice.injEq] at hv;refine⟨d,hv.1,(Array.getElem?_eq_some_iff.1 f).1,?_⟩;rw[cell_of_row w d i j e (0,0) f,<-Array.getElem?_toList];rw[<-k,fC] at hi;split at hi
  ·exact hi
  ·cases hi
def Y1{g:Nat}{cur cs:Array Value}(t:w.heap[g]? =some (.cells cur e (0,0)))(hn:∀u∈cur.toList,uH u){n:Nat}(h:NatAt w u n):NatAt (w.setRow g cs) u n:=by
 obtain⟨A,c,hv,r,d,y⟩:=h;have k:(w.setRow g cs).1.size=w.1.size:=by simp[World.setRow]
 refine⟨A,c,hv,r,?_,y.mono (by rw[k];exact aE)⟩;rcases d with d|⟨b,m,rfl,x,j⟩
 ·exact .inl d
 ·by_cases l:dg n=[]
  ·exact .inl l
  ·have q:b≠g:=fun p=>by
    subst p;have f:=j 0 (List.length_pos_iff.2 l);rw[cell_of_row w b (m+0) cur e (0,0) t,<-Array.getElem?_toList] at f;obtain⟨z,C,B,s⟩:=hn _ (dG f);cases s
   refine .inr ⟨b,m,rfl,by rw[k];exact x,fun i v=> ?_⟩;exact(World.cell?_of_block (setRow_other w g b cs q)).trans (j i v)
section
variable {P:Program}{ops:Array Oper}{rest:List Oper}{o:Oper}{a:Act}{Q:Exit->Act->World->Prop}{w:World}
def K4(ae:o.guard=none){s x:Operand}{t:TypeId}(ho:o.op= .call { callee:= .builtin .append,args:= #[s,x],argTypes:= #[t,t] })
  (e:TypeId)(R:Nat)(L:P.underlying t=some (.slice e))(hi:(P.info? e).map (fun i=>(i.zero,i.size,i.bytes))=some (some (.slice none 0 0),1,R))
  (B:Nat)(v:Value)(d:List Value)(hs:a.eval s=v)(ah:PRow w B e v d)(b:Nat)(u:Value)(O:a.eval x= .slice (some ⟨b,0,none⟩) 1 1)(hc:w.cell? ⟨b,0,none⟩=some u)(N:uH u)
  (V:(d.length+1)*R<=140737488355328)(T:d.length+1<=maxLen)(hB:B<=w.1.size)
  (h:∀p w',PRow w' B e p (d++[u])->Keep w w'->w.grownBy w' v.ownBlock->wpList P ops Q rest (a.put o.dst p) w'):
  wpList P ops Q (o :: rest) a w:=by
 obtain⟨i,H,hz,r,U⟩:=info_parts hi;have an:d.length+1<=9223372036854775807:=by simp only[maxLen] at T;omega
 have ag:u.oneCell'=true:=by obtain⟨A,n,c,rfl⟩:=N;rfl
 have J:∀j y,[u][j]? =some y->w.cell? ((⟨b,0,none⟩:Addr).add j)=some y:=fun j y m=>by
  match j,m with
  |0,m=>simp at m;subst m;simpa [Addr.add] using hc
 have S:∀(l F:Nat),l=grownCap w (d.length+1) F e->d.length+1<=l->l<=maxLen->∀ac,(∀y∈d,uH y)->
   PRow (w.drew.alloc (.cells (d.toArray++[u].toArray++Builtin.zeroCells (Value.slice none 0 0).cells (l-(d.length+1))) e)) B e (.slice (some ⟨w.1.size,0,none⟩) (d.length+1) l) (d++[u])∧
   Keep w (w.drew.alloc (.cells (d.toArray++[u].toArray++Builtin.zeroCells (Value.slice none 0 0).cells (l-(d.length+1))) e))∧
   w.grownBy (w.drew.alloc (.cells (d.toArray++[u].toArray++Builtin.zeroCells (Value.slice none 0 0).cells (l-(d.length+1))) e)) ac:=by
  intro l F _ C G ac hv;have al:(Builtin.zeroCells (Value.slice none 0 0).cells (l-(d.length+1))).size=l-(d.length+1):=by rw[size_zeroCells];simp[Value.cells]
  refine⟨.inr ⟨w.1.size,l,_,by rw[bG];rfl,hB,heap_alloc_new w.drew _,by rw[bG];exact C,G,?_,?_,?_⟩,Keep.be ((aG w.1.size w).drew.alloc aE _),⟨rfl,rfl,rfl,by simp,fun k I _=>heap_alloc_old w.drew _ I⟩⟩
  ·rw[Array.size_append,Array.size_append,al];simp;omega
  ·rw[bxA,bxA];exact List.take_left
  ·intro y f;rw[bxA,bxA] at f;rcases List.mem_append.1 f with f|f
   ·rcases List.mem_append.1 f with f|f
    ·exact hv y f
    ·have ak:y=u:=by simpa using f
     rw[ak];exact N
   ·have ab:y∈Builtin.zeroCells #[Value.slice none 0 0] (l-(d.length+1)):=Array.mem_toList_iff.1 f;unfold Builtin.zeroCells at ab;obtain⟨j,_,rfl⟩:=Array.mem_map.1 ab;simp only[bxL,eG,byZ,bA,Nat.mod_one];exact⟨none,0,0,rfl⟩
 have am:∃p w',(Builtin.append_ #[t,t] o.type #[v,.slice (some ⟨b,0,none⟩) 1 1]).run P w= .ok p w'∧PRow w' B e p (d++[u])∧Keep w w'∧w.grownBy w' v.ownBlock:=by
  have X:=grownCap_ge w (d.length+1);have W:=fun F=>grownCap_le_maxLen w (d.length+1) F e T;rcases ah with ⟨rfl,rfl⟩|⟨g,l,z,rfl,ad,D,hl,hm,ao,M,hn⟩
  ·have q:=run_append_nil (P:=P) w t o.type e i (.slice none 0 0) L H hz ⟨b,0,none⟩ 1 1 [u] (by rw[r];rfl) J (by omega) (by omega) (by rw[U];simp at V;omega);have E:=S _ 0 rfl (X 0 e) (W 0) (Value.ownBlock (.slice none 0 0)) (fun y f=>by cases f);simp only[byZ,bA,iM,Array.empty_append] at E⊢;exact⟨_,_,q,E⟩
  ·have Z:∀y∈d,uH y:=fun y f=>hn y (by rw[<-M] at f;exact lH f);by_cases Y:d.length+1<=l
   ·have q:=run_append_room (P:=P) w t o.type e i L H g d.length l z D ⟨b,0,none⟩ 1 1 [u] (by rw[r];rfl) J (fun y f=>by rw[List.mem_singleton.1 f];exact ag) Y (by rw[r];simp;omega);rw[r,o9,M] at q;refine⟨_,_,q,.inr ⟨g,l,_,by rw[bG];rfl,ad,setRow_heap w g z _ e _ D,by rw[bG];exact Y,hm,?_,?_,?_⟩,fun x n O=>Y1 D hn O,⟨rfl,rfl,rfl,by simp[World.setRow],fun k _ I=>setRow_other w g k _ (fun e=>I (by simp[Value.ownBlock,e]))⟩⟩
    ·simp[eX];omega
    ·exact List.take_left
    ·intro y f;have aj:y∈d++[u]++z.toList.drop (d.length+[u].length):=f;rcases List.mem_append.1 aj with f|f
     ·rcases List.mem_append.1 f with f|f
      ·exact Z y f
      ·rw[List.mem_singleton.1 f];exact N
     ·exact hn y (bxK f)
   ·have af:∀j y,d[j]? =some y->w.cell? ((⟨g,0,none⟩:Addr).add j)=some y:=fun j y m=>by
     have C:w.cell? ⟨g,j,none⟩=some y:=by
      rw[cell_of_row w g j z e (0,0) D,<-Array.getElem?_toList];rw[<-M,fC] at m;split at m
      ·exact m
      ·cases m
     unfold Addr.add;split
     ·rename_i h0;subst h0;simpa using C
     ·simpa using C
    have q:=run_append_grow (P:=P) w t o.type e i (.slice none 0 0) L H hz ⟨g,0,none⟩ d.length l d (by rw[r,o9]) af ⟨b,0,none⟩ 1 1 [u] (by rw[r];rfl) J (by omega) (by omega) (growslice_fits (by omega) (by rw[U];exact V));have E:=S _ l rfl (X l e) (W l) (Value.ownBlock (.slice (some ⟨g,0,none⟩) d.length l)) Z;exact⟨_,_,q,E⟩
 obtain⟨p,w',ai,G,h3,h4⟩:=am;refine wpList_plain ae fun K hK=> ?_;unfold Oper.wp execOp;simp only[ho,resolve,invoke,builtin,Sem.run_bind,Sem.run_pure,Result.andThen_ok,bxJ,fM,bxI,hs,O,ai];exact hK _ _ (h p w' G h3 h4)
end
def RowsAt{α:Type}(E:World->Value->α->Prop)(w:World)(B:Nat)(e:TypeId)(v:Value)(c:List α):Prop:=
 ∃b,PRow w B e v b∧b.length=c.length∧∀(i:Nat) (u:Value) (l:α),b[i]? =some u->c[i]? =some l->E w u l
def RowsAt.nil{α:Type}(E:World->Value->α->Prop)(w:World)(B:Nat)(e:TypeId):RowsAt E w B e (.slice none 0 0) []:=⟨[],PRow.nil _ _ _,rfl,fun i u l h=>by simp at h⟩
def RowsAt.form{α:Type}{E:World->Value->α->Prop}{b:List α}(h:RowsAt E w B e v b):∃A c,v= .slice A b.length c∧b.length<=c:=by
 obtain⟨g,d,f,_⟩:=h;rw[<-f];exact d.form
def RowsAt.at_{α:Type}{E:World->Value->α->Prop}{n c:Nat}{f:List α}(h:RowsAt E w B e (.slice A n c) f){l:α}(hi:f[i]? =some l):∃b u,A=some ⟨b,0,none⟩∧b<w.1.size∧w.cell? ⟨b,i,none⟩=some u∧E w u l:=by
 obtain⟨r,g,j,k⟩:=h;have d:i<r.length:=by rw[j];exact(List.getElem?_eq_some_iff.1 hi).1
 obtain⟨b,m,p,q⟩:=g.at_ (aR d);exact⟨b,_,m,p,q,k i _ l (aR d) hi⟩
abbrev WsAt:=RowsAt WholeAt
abbrev TsAt:=RowsAt StrsAt
def WsAt.be{c:List (List Int)}(h:WsAt w B 40 v c)(b:Below w.1.size w w'):WsAt w' B 40 v c:=by
 obtain⟨k,d,e,f⟩:=h;exact⟨k,d.be b,e,fun i u l j g=>(f i u l j g).be b⟩
def TsAt.be{c:List (List (List UInt8))}(h:TsAt w B 22 v c)(b:Below w.1.size w w'):TsAt w' B 22 v c:=by
 obtain⟨k,d,e,f⟩:=h;exact⟨k,d.be b,e,fun i u l j g=>(f i u l j g).be b⟩
def WholeAt.grown(h:WholeAt w u l)(s:PRow w B 40 v t)(r:Keep w w')(n:w.grownBy w' v.ownBlock):WholeAt w' u l:=by
 obtain⟨A,c,e,m,h⟩:=h;refine⟨A,c,e,m,?_⟩;rcases h with h|⟨b,j,k,f,q⟩
 ·exact .inl h
 ·refine .inr ⟨b,j,k,⟨(n.block b f.lt (fun i=> ?_)).trans f.1,f.2⟩,q.ke r⟩;rcases s with ⟨rfl,_⟩|⟨g,x,y,rfl,_,p,_⟩
  ·simp[Value.ownBlock] at i
  ·simp[Value.ownBlock] at i;subst i;have d:w.heap[b]? =some (.cells j.flatten.toArray 43 (0,0)):=f.1;rw[p] at d;injection d with d;injection d with _ d;exact absurd d (by decide)
def StrsAt.grown{l:List (List UInt8)}(h:StrsAt w u l)(D:PRow w B e v E)(j:w.grownBy w' v.ownBlock):StrsAt w' u l:=by
 obtain⟨A,c,r,x,h⟩:=h;refine⟨A,c,r,x,?_⟩;rcases h with h|⟨b,p,s,m,k⟩
 ·exact .inl h
 ·by_cases C:l=[]
  ·exact .inl C
  ·refine .inr ⟨b,p,s,aZ m j.size,fun i t n=>(World.cell?_of_block (j.block b m (fun d=> ?_))).trans (k i t n)⟩;rcases D with ⟨rfl,_⟩|⟨g,H,q,rfl,_,z,_,_,_,_,hn⟩
   ·simp[Value.ownBlock] at d
   ·simp[Value.ownBlock] at d;subst d;have f:=k i t n;rw[cell_of_row w b (p+i) q e (0,0) z,<-Array.getElem?_toList] at f;obtain⟨F,I,G,y⟩:=hn _ (dG f);cases y
def WsAt.push{m:Value}{f:List (List Int)}(g:PRow w B 40 v d)(h:d.length=f.length)(p:∀(i:Nat) (u:Value) (l:List Int),d[i]? =some u->f[i]? =some l->WholeAt w u l)(r:WholeAt w u l)
  (q:PRow w' B 40 m (d++[u]))(k:Keep w w')(j:w.grownBy w' v.ownBlock):WsAt w' B 40 m (f++[l]):=by
 refine⟨_,q,by rw[bG,bG,h];rfl,fun i x y b c=> ?_⟩;rcases dE i d.length with e|e
 ·rw[gA e] at b;rw[gA (by omega)] at c;exact(p i x y b c).grown g k j
 ·rw[fK e] at b;rw[fK (by omega),<-h] at c;have n:i-d.length=0:=by
   have:=(List.getElem?_eq_some_iff.1 b).1;simp at this;omega
  rw[n] at b c;simp at b c;subst b;subst c;exact r.grown g k j
def TsAt.push{k:Value}{f:List (List (List UInt8))}{l:List (List UInt8)}(g:PRow w B 22 v d)(h:d.length=f.length)(n:∀(i:Nat) (u:Value) (l:List (List UInt8)),d[i]? =some u->f[i]? =some l->StrsAt w u l)(q:StrsAt w u l)
  (p:PRow w' B 22 k (d++[u]))(j:w.grownBy w' v.ownBlock):TsAt w' B 22 k (f++[l]):=by
 refine⟨_,p,by rw[bG,bG,h];rfl,fun i x y b c=> ?_⟩;rcases dE i d.length with e|e
 ·rw[gA e] at b;rw[gA (by omega)] at c;exact(n i x y b c).grown g j
 ·rw[fK e] at b;rw[fK (by omega),<-h] at c;have m:i-d.length=0:=by
   have:=(List.getElem?_eq_some_iff.1 b).1;simp at this;omega
  rw[m] at b c;simp at b c;subst b;subst c;exact q.grown g j
def K5{a:World}{g:List Value}(h:Below B a w)(b:w.grownBy w' v.ownBlock)(f:PRow w B e v g)(d:B<=a.1.size):Below B a w':=
 ⟨b.os.trans h.os,b.tape.trans h.tape,b.output.trans h.output,aH h.size b.size,fun k c=>(b.block k (aZ c (aH d h.size)) (fun e=>by have:=f.ge k e.symm;omega)).trans (h.block k c)⟩
def Y3:(Tryz.prog.info? 40).map (fun i=>(i.zero,i.size,i.bytes))=some (some (.slice none 0 0),1,24):=by kernel_rfl
def dx0:(Tryz.prog.info? 22).map (fun i=>(i.zero,i.size,i.bytes))=some (some (.slice none 0 0),1,24):=by kernel_rfl
