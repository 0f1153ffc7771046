/- Laws. -/
import Derived.Test.YtmiaanioldpfgaaGreatDoorX17
import Derived.Test.YtmiaanioldpfgaaGreatDoorX18
set_option linter.all false
set_option maxHeartbeats 8000000
set_option maxRecDepth 99999
namespace Go.Proofs.YtmiaanioldpfgaaGreatDoor
open Go.RowKit Sos Tryz
def VF(q:Rat):q=(q.num:Rat)/(q.den:Rat):=by
 conv=>lhs;rw[<-byC q,Rat.mkRat_eq_div]
def VG(q:Rat):(q.den:Rat)≠0:=fun e=>q.den_nz (by exact_mod_cast e)
def xI(q:Rat)(D:Int)(h:(q.den:Int)∣D):((q.num*D.tdiv (q.den:Int):Int):Rat)=q*D:=by
 obtain⟨t,rfl⟩:=h;have a:(q.den:Int)≠0:=by have:=q.den_nz;omega
 rw[Int.mul_tdiv_cancel_left _ a,eJ,eJ,aq3];have b:=VF q;have c:=VG q;generalize (q.num:Rat)=n at *;generalize (q.den:Rat)=d at *;rw[b];grind
def VH(q:Rat)(D:Int)(h:q.den=1):((q.num*D:Int):Rat)=q*D:=by
 rw[eJ];congr 1;exact Rat.ext rfl h.symm
def VI(w:World)(q:Rat)(D:Int)(B:Nat)(e:Ending)(w':World):Prop:=∃v n,e= .returned v∧IntAt w' v n∧(n:Rat)=q*D∧nl n.natAbs<=B∧Below w.1.size w w'
def VJ(q:Rat)(D:Int)(v u:Value)(w:World)(I:RatAt w v q)(g:IntAt w u D)(ae:(q.den:Int)∣D)(K KB:Nat)(hK:RL K q)(X:nl D.natAbs<=KB)(ac:5*K+KB+8<=aJ):
  Calls prog 109 #[v,u] w (VI w q D (K+KB)):=by
 unfold aJ at ac;obtain⟨s,A,k,c,s',L,Z,P,rfl⟩:=I.form;obtain⟨sD,O,kD,T,rfl⟩:=g.form;obtain⟨V,ah⟩:=hK;have ai:=mY q;obtain⟨W,U,d,a,b,R⟩:=gE w [.bool s,.slice A k c,.bool s',.slice L Z P] 86 [.bool sD,.slice O kD T] 77 [.bool false,.slice none 0 0] 77;have l:=aa a.g4 (aa b.g2 R.g2);go_enter func109,ntmps109;go_wp2_with fail;(try rw[U]);clear U;have hn:=(I.be d).num;have j:=(I.be d).den;replace g:=g.be d;refine(g9 _ _ _ j (by omega)).mono ?_;rintro e1 w1 ⟨rfl,y⟩;replace a:=a.be y;replace b:=b.be y;replace R:=R.be y;replace l:=aa a.k4 (aa b.k2 R.g2);replace f:=Keep.be y;replace hn:=hn.ke f;replace j:=j.ke f;replace g:=g.ke f;replace d:=aC d y;by_cases h:bS q=0
 ·have C:decide (bS q=0)=true:=by simpa using h
  rw[C];have p:=VH q D (fV.1 h);have H:=gT q.num D _ _ V X;have m:=fun W v u h i=>jB q.num D v u W h i (by omega);unfold dW at m;generalize q.num*D=n at *;have G:=aB p;clear C h p;go_wp2_with fail;refine(m _ _ _ hn g).mono ?_;rintro e2 w2 ⟨v2,rfl,i,F⟩;obtain⟨s2,M,k2,Q,rfl⟩:=i.form;replace a:=a.be F;replace b:=b.be F;replace R:=R.be F;replace l:=aa a.k4 (aa b.k2 R.g2);replace d:=aC d F;clear m;go_wp2_with fail;obtain⟨W6,r,R,d,f,x⟩:=R.put2 d (by omega) (.bool s2) (.slice M k2 Q) rfl rfl;replace a:=x a (by omega);replace b:=x b (by omega);replace i:=i.ke f;rw[r];clear r;replace l:=aa a.k4 (aa b.k2 R.k2);exact aM (v:= .agg #[.bool s2,.slice M k2 Q]) (by simp[results,results109,go_sem,R.k2]) rfl ⟨_,n,rfl,i,G.out,H,d⟩
 ·have C:decide (bS q=0)=false:=by simpa using h
  have Y:bS q=q.den:=mI (fun e=>h (fV.2 e));rw[C];have p:=xI q D ae;rw[<-Y] at p;have ad:=jN D (bS q) _ X;have H:=gT q.num (D.tdiv (bS q)) _ _ V ad;have J:=fun W v u ab i=>mZ D (bS q) v u W ab i h (by omega);have m:=fun W v u h i=>jB q.num (D.tdiv (bS q)) v u W h i (by omega);unfold dW at m J;generalize q.num*D.tdiv (bS q)=n at *;generalize D.tdiv (bS q)=t at *;have G:=aB p;clear C h p Y;go_wp2_with fail;replace hn:=hn.drew;replace j:=j.drew;replace g:=g.drew;replace a:=a.drew;replace b:=b.drew;replace R:=R.drew;replace d:=d.drew;replace l:=aa a.k4 (aa b.k2 R.g2);have af:w.1.size+1+1≠w.1.size:=by omega
  have ag:w.1.size+1+1≠w.1.size+1:=by omega
  go_region_held3 (fun w'=>C4 w' w.1.size (.bool s) (.slice A k c) (.bool s') (.slice L Z P)∧C2 w' (w.1.size+1) (.bool sD) (.slice O kD T))
   (first|(with_reducible exact⟨a.k4,b.k2⟩)|(refine⟨?_,?_⟩<;>(repeat (first|with_reducible exact a.k4|with_reducible exact b.k2|with_reducible refine kK af ?_|with_reducible refine fQ ag ?_))))
   (first
    |(go_at_call 120;refine(J _ _ _ g j).mono ?_;rintro e4 w4 ⟨v4,rfl,E,z⟩;obtain⟨s4,A4,k4,c4,rfl⟩:=E.form;replace a:=a.be z;replace b:=b.be z;replace R:=R.be z;replace l:=aa a.k4 (aa b.k2 R.g2);replace f:=Keep.be z;replace hn:=hn.ke f;replace j:=j.ke f;replace g:=g.ke f;(try replace o:=o.ke f);replace d:=aC d z)
    |(go_at_call 32;refine(m _ _ _ hn E).mono ?_;rintro e5 w5 ⟨v5,rfl,o,B⟩;obtain⟨s5,N,k5,S,rfl⟩:=o.form;replace a:=a.be B;replace b:=b.be B;replace R:=R.be B;replace l:=aa a.k4 (aa b.k2 R.g2);replace f:=Keep.be B;replace hn:=hn.ke f;replace j:=j.ke f;replace g:=g.ke f;(try replace E:=E.ke f);replace d:=aC d B))
  clear J m;go_wp2_with fail;obtain⟨W6,r,R,d,f,x⟩:=R.put2 d (by omega) (.bool s5) (.slice N k5 S) rfl rfl;replace a:=x a (by omega);replace b:=x b (by omega);replace o:=o.ke f;rw[r];clear r;replace l:=aa a.k4 (aa b.k2 R.k2);exact aM (v:= .agg #[.bool s5,.slice N k5 S]) (by simp[results,results109,go_sem,R.k2]) rfl ⟨_,n,rfl,o,G.out,H,d⟩
def tT(a:List Int)(d:Int):List Rat:=a.map (fun n:Int=>(n:Rat)/(d:Rat))
def CA(n d:Int)(K:Nat)(hn:nl n.natAbs<=K)(b:nl d.natAbs<=K)(a:1<=K):RL K ((n:Rat)/d):=by
 rw[<-Rat.divInt_eq_div];unfold RL;rw[Rat.num_divInt,Rat.den_divInt];constructor
 ·refine aH (cK ?_) hn;rw[Int.natAbs_ediv_of_dvd]
  ·refine aH (azK _ _) ?_;rw[fL];have:d.sign.natAbs<=1:=by
    rcases aqL d 0 with h|h|h
    ·rw[aqT h];decide
    ·rw[h];decide
    ·rw[aqI h];decide
   calc d.sign.natAbs*n.natAbs<=1*n.natAbs:=dK _ this
    _=n.natAbs:=aqD _
  ·exact bxJ (Int.gcd_dvd_right ..)
 ·split
  ·rw[mJ (by decide) (by decide)];exact a
  ·exact aH (cK (azK _ _)) b
def dzV(f:List Int)(x:Int)(v Z:Value)(w:World)(E:Glob w)(hv:WholeAt w v f)(U:IntAt w Z x)(K:Nat)(hK:∀n∈f,nl n.natAbs<=K)(ai:nl x.natAbs<=K)(ah:5*K+4<=aJ)(hl:f.length<=1073741824):
  Calls prog 71 #[v,Z] w fun e w'=>∃g,e= .returned (.slice (some ⟨g,0,none⟩) f.length f.length)∧w.1.size<=g∧OwnR w' g (tT f x)∧Below w.1.size w w':=by
 obtain⟨A,c,rfl,hc⟩:=hv.form;obtain⟨t,p,r,q,rfl⟩:=U.form;have Y:(tT f x).length=f.length:=cH _;have D:=aB Y;clear Y;have h:Bx (w.alloc (.cells #[.bool t,.slice p r q] 77)) (w.1.size) [.bool t,.slice p r q] 77:=Bx.newAt w [.bool t,.slice p r q] 77 (w.1.size) (by simp);have a:Below w.1.size w (w.alloc (.cells #[.bool t,.slice p r q] 77)):=(aG _ _).alloc (by simp) _;go_enter func71,ntmps71;go_wp2_with (at_make;refine jT rfl rfl 86 _ 4 64 underlying101 OC rfl (by decide) f.length rfl rfl rfl rfl (by omega) (by omega) ?_;intro w1 al S F);have L:OwnR w1 (w.1.size+1) (List.replicate f.length 0):=by
  have:=OwnR.made S;rw[World.size_alloc] at this;exact this
 replace h:=h.be F;replace a:=aC a F;clear S al F;go_loopg [13] f.length (fun k i wr=>∃j,Hid (j+k=f.length)∧i= .int .i64 j∧OwnR wr (w.1.size+1) ((tT f x).take j++List.replicate k 0)∧Bx wr w.1.size [.bool t,.slice p r q] 77∧Below w.1.size w wr)
 case atStart=>exact⟨0,by unfold Hid;omega,rfl,by simpa using L,h,a⟩
 case round=>
  clear L h a;obtain⟨j,u,rfl,R,h,a⟩:=hrel;generalize wr=o at *;have aw:(0:Int)<=(j:Int):=by omega
  cases gk with
  |zero=>
   have hj:j=f.length:=u.out;subst hj;rw[aq8,fH,cZ (by rw[D.out];exact aE)] at R;go_wp2;go_ret
   first
    |exact⟨_,rfl,Nat.le_succ _,R,a⟩
    |exact⟨R,a⟩
  |succ k=>
   obtain⟨n,hn⟩:∃n,f[j]? =some n:=⟨_,aR (by have:=u.out;omega)⟩;obtain⟨b,s,B,l,d,rfl,av,g0,g1,I⟩:=(hv.be a).at_ hn;have ak:=hK n (dG hn);have ax:(j:Int)<(f.length:Int):=by have:=u.out;omega
   have V:(tT f x)[j]? =some ((n:Rat)/x):=by unfold tT;rw[iK,hn];rfl
   have M:=rI (ys:=tT f x) (z:=(0:Rat)) (j:=j) (k:=k+1) (by rw[D.out];exact u.out);have N:=rH (z:=(0:Rat)) (k:=k) V;have O:j<((tT f x).take j++List.replicate (k+1) 0).length:=by rw[M,D.out];have:=u.out;omega
   have ag:=aB N;clear V M N hn;have J:=U.be a;have H:=fun W E h1 C=>I3 n x (.agg #[.bool s,.slice B l d]) (.agg #[.bool t,.slice p r q]) W E h1 C K ak ai ah;unfold iF at H;generalize (n:Rat)/x=y at *;have ac:∀m:Obj,(o.alloc m).cell? ⟨w.1.size,0,none⟩=some (.bool t):=fun m=>(h.alloc m).cell 0 rfl;have ae:∀m:Obj,(o.alloc m).frozen? ⟨w.1.size,0,none⟩=false:=fun m=>(h.alloc m).free 0;have ad:∀m:Obj,(o.alloc m).cell? ⟨w.1.size,1,none⟩=some (.slice p r q):=fun m=>(h.alloc m).cell 1 rfl;have af:∀m:Obj,(o.alloc m).frozen? ⟨w.1.size,1,none⟩=false:=fun m=>(h.alloc m).free 1;go_wp2_with fail;replace R:=R.be ((aG o.1.size o).alloc aE (.cells #[.bool s,.slice B l d] 77));have ap:=h.lt;have ay:=a.size;replace h:=h.alloc (.cells #[.bool s,.slice B l d] 77);have X:=Bx.newAt o [.bool s,.slice B l d] 77 (o.1.size) (by simp);replace a:=a.alloc a.size (.cells #[.bool s,.slice B l d] 77);replace P:=Keep.alloc o (.cells #[.bool s,.slice B l d] 77);replace I:=I.ke P;replace J:=J.ke P;generalize o.alloc (.cells #[.bool s,.slice B l d] 77)=W1 at *;replace an:=h.cell 0 rfl;replace ao:=h.cell 1 rfl;replace aq:=X.cell 0 rfl;replace ar:=X.cell 1 rfl;clear ac ad ae af g0 g1;refine(H _ (E.be a) I J).mono ?_;rintro e2 w2 ⟨v2,rfl,C,G⟩;obtain⟨s2,A2,k2,c2,s3,A3,k3,c3,rfl⟩:=C.form;replace R:=R.be G;replace h:=h.be G;replace a:=aC a G;obtain⟨s',B',l',d',a0,am,az,au,q0,q1,q2,q3, -⟩:=R.at_ (aR O);have f0:=R.free (j*4);have f1:=R.free (j*4+1);have f2:=R.free (j*4+2);have f3:=R.free (j*4+3);clear H;go_wp2_with fail;obtain⟨Q,T⟩:=R.stored O C;rw[ag.out] at Q;have ab:Bx _ w.1.size [.bool t,.slice p r q] 77:=(T.2.1 w.1.size (by omega)).trans h;have aj:=jD a T (by omega);go_roundg k
   case rel=>exact⟨j+1,by have:=u.out;unfold Hid;omega,by go_num,Q,ab,aj⟩
   case measure=>omega
def dzW(a:List Int)(x:Int)(v b:Value)(w:World)(f:Glob w)(hv:WholeAt w v a)(o:IntAt w b x)(K:Nat)(i:∀n∈a,nl n.natAbs<=K)(k:nl x.natAbs<=K)(j:5*K+4<=aJ)(m:a.length<=1073741824):
  Calls prog 71 #[v,b] w fun e w'=>∃d,e= .returned d∧RatsAt w' d (tT a x)∧Below w.1.size w w':=by
 refine(dzV a x v b w f hv o K i k j m).mono ?_;rintro e w' ⟨g,rfl, -,h,l⟩;have c:=h.rats a.length (by unfold tT;rw[cH];exact aE);rw[show(tT a x).length=a.length by unfold tT;exact cH _] at c;exact⟨_,rfl,c,l⟩
def eqY(b:List Int)(x:Int)(v r:Value)(w:World)(i:Glob w)(hv:WholeAt w v b)(o:IntAt w r x)(K:Nat)(j:∀n∈b,nl n.natAbs<=K)(k:nl x.natAbs<=K)(u:1<=K)(y:K<=1073741824)(l:b.length<=1073741824):
  Calls prog 34 #[v,r] w fun e w'=>∃p,e= .returned p∧StrsAt w' p ((tT b x).map cW)∧Below w.1.size w w':=by
 obtain⟨A,c,rfl,F⟩:=hv.form;obtain⟨h,d,g,f,rfl⟩:=o.form;have C:Bx (w.alloc (.cells #[.bool h,.slice d g f] 77)) (w.1.size) [.bool h,.slice d g f] 77:=Bx.newAt w [.bool h,.slice d g f] 77 (w.1.size) (by simp);have a:Below w.1.size w (w.alloc (.cells #[.bool h,.slice d g f] 77)):=(aG _ _).alloc (by simp) _;go_enter func34,ntmps34;go_wp2_with fail;generalize w.alloc (.cells #[.bool h,.slice d g f] 77)=W at *;refine(dzW b x _ _ _ (i.be a) (hv.be a) (o.be a) K j k (by unfold aJ;omega) l).mono ?_;rintro D I ⟨G,rfl,s,z⟩;replace a:=aC a z;go_wp2_with fail
 ((with_reducible refine(dxQ (tT b x) _ _ (i.be a) s K (fun q m=>by
  unfold tT at m;obtain⟨n,hn,rfl⟩:=List.mem_map.1 m;exact CA n x K (j n hn) k u) y (by unfold tT;rw[cH];exact l)).mono ?_))
 rintro E J ⟨H,rfl,t,B⟩;go_wp2;go_ret;exact⟨_,rfl,t,aC a B⟩
end Go.Proofs.YtmiaanioldpfgaaGreatDoor
namespace Go.Proofs.YtmiaanioldpfgaaGreatDoor
open Sos Lib
variable{s t:List UInt8}
def lF(s:List UInt8):List UInt8:=if s.head?==some 45 then s.tail else s
def WI(s:List UInt8):(lF s).length<=s.length:=by unfold lF;split<;>simp
structure CutN(t:List UInt8)(k:Nat):Prop where
 le:k<=t.length
 head:t.takeWhile cyH=t.take k
 rest:t.dropWhile cyH=t.drop k
def CutN.stop{k:Nat}(h:∀c∈t.take k,cyH c=true)(b:k<=t.length)(a:t.length<=k∨∃c,t[k]? =some c∧cyH c=false):CutN t k:=
 ⟨b,(wV h a).1,(wV h a).2⟩
structure Found(s:List UInt8)(q:Rat):Prop where
 ok:rd s=decide (cW q=s)
 val:∀r,cG s=some r->q=r
def WJ{q:Rat}(h:lU s=some q):Found s q:=by
 refine⟨?_,fun r b=> ?_⟩
 ·unfold rd;by_cases e:cW q=s
  ·rw[(xQ s).2 q h e,decide_eq_true e];rfl
  ·rw[decide_eq_false e];cases b:cG s with
   |none=>rfl
   |some r=>
    obtain⟨a,c⟩:=(xQ s).1 r b;rw[h] at a;injection a with a;exact absurd (by rw[a];exact c) e
 ·have:=((xQ s).1 r b).1;rw[h] at this;injection this
def CH(h:lU s=none):rd s=false∧∀q r:Rat,cG s=some r->q=r:=by
 have e:cG s=none:=by
  cases a:cG s with
  |none=>rfl
  |some r=>rw[((xQ s).1 r a).1] at h;cases h
 exact⟨by unfold rd;rw[e];rfl,fun q r a=>by rw[e] at a;cases a⟩
section
variable {s:List UInt8}{k:Nat}(h:CutN (lF s) k)
include h
def WK(hn:¬((lF s).take k≠[]∧((lF s).take k).all bO=true)):lU s=none:=by
 unfold lU;simp only[];rw[show(if (s.head?==some 45)=true then s.tail else s)=lF s from rfl,h.head,if_neg hn]
def WL(hn:(lF s).take k≠[]∧((lF s).take k).all bO=true)(a:k=(lF s).length):lU s=some ((fO (s.head?==some 45) (aO ((lF s).take k)):Int):Rat):=by
 unfold lU;simp only[];rw[show(if (s.head?==some 45)=true then s.tail else s)=lF s from rfl,h.head,h.rest,if_pos hn,a,azY]
def WM(hn:(lF s).take k≠[]∧((lF s).take k).all bO=true)(a:k<(lF s).length):
  lU s=if (lF s).drop (k+1)≠[]∧((lF s).drop (k+1)).all bO=true∧aO ((lF s).drop (k+1))≠0 then some (((fO (s.head?==some 45) (aO ((lF s).take k)):Int):Rat)/((aO ((lF s).drop (k+1)):Int):Rat)) else none:=by
 unfold lU;simp only[];rw[show(if (s.head?==some 45)=true then s.tail else s)=lF s from rfl,h.head,h.rest,if_pos hn,j5 a]
end
end Go.Proofs.YtmiaanioldpfgaaGreatDoor
namespace Go.Proofs.YtmiaanioldpfgaaGreatDoor
open Sos
def BR(x y:Rat)(h:Nat.gcd x.den y.den=1):(x+y).num=x.num*y.den+y.num*x.den∧(x+y).den=x.den*y.den:=by
 show(Rat.add x y).num=_∧(Rat.add x y).den=_
 unfold Rat.add;simp[h]
def BT{x y:Rat}(h:x.den=1):(x+y).num=x.num*y.den+y.num∧(x+y).den=y.den:=by
 obtain⟨a,b⟩:=BR x y (by rw[h];simp);rw[a,b,h];simp
end Go.Proofs.YtmiaanioldpfgaaGreatDoor
namespace Go.Proofs.YtmiaanioldpfgaaGreatDoor
open Go.RowKit Sos Tryz
variable{a l:List (List UInt8)}{E b c d g r:List Value}{D:Int}{B i k n:Nat}{w w':World}{R S e t t':TypeId}{u v:Value}{A:Option Addr}
def cC(a:List Rat)(D:Int):List Int:=a.map (fun q=>q.num*D.tdiv (q.den:Int))
def JC(a:List Rat)(D:Int)(h:∀q∈a,(q.den:Int)∣D)(i:Nat):((cf (cC a D) i:Int):Rat)=cf a i*D:=by
 unfold cC cf;rw[eF,eF,iK];cases hq:a[i]? with
 |none=>
  show((0:Int):Rat)=0*(D:Rat)
  rw[aq4];grind
 |some q=>exact xI q D (h q (dG hq))
def sA(a:List Rat)(D:Int)(K B:Nat)(c:∀q∈a,RL K q)(b:nl D.natAbs<=B):∀n∈cC a D,nl n.natAbs<=K+B:=by
 intro n hn;unfold cC at hn;obtain⟨q,d,rfl⟩:=List.mem_map.1 hn;exact gT _ _ _ _ (c q d).1 (jN _ _ _ b)
def VE(w:World)(a:List Rat)(B:Nat)(e:Ending)(w':World):Prop:=
 ∃b n c d D,e= .returned (.tuple #[.slice (some ⟨b,0,none⟩) n c,d])∧w.1.size<=b∧WholeAt w' (.slice (some ⟨b,0,none⟩) n c) (aW aV (cC a D))∧IntAt w' d D∧ComDen a D B∧Below w.1.size w w'
def JD(a:List Rat)(v:Value)(w:World)(hG:Glob w)(hv:RatsAt w v a)(K KB:Nat)(hK:∀q∈a,RL K q)(hl:a.length<=1073741824)(a3:1+a.length*K<=KB)(a4:K<=KB)(a5:6*KB+8<=aJ):
  Calls prog 59 #[v] w (VE w a (1+a.length*K)):=by
 obtain⟨A,c,rfl,hc⟩:=hv.form;have R:Bx (w.alloc (.cells #[.bool false,.slice none 0 0] 77)) (w.1.size) [.bool false,.slice none 0 0] 77:=Bx.newAt w [.bool false,.slice none 0 0] 77 (w.1.size) (by simp);have f:Below w.1.size w (w.alloc (.cells #[.bool false,.slice none 0 0] 77)):=(aG _ _).alloc (by simp) _;go_enter func59,ntmps59;go_wp2_with fail;generalize w.alloc (.cells #[.bool false,.slice none 0 0] 77)=W at *;refine(VM a _ _ (hG.be f) (hv.be f) K KB hK hl a3 a4 (by omega)).mono ?_;rintro e1 g ⟨v1,D,rfl,h1,ag,af⟩;obtain⟨s1,A1,k1,c1,rfl⟩:=h1.form;replace R:=R.be af;replace U:=R.cell 0 rfl;replace ad:=R.free 0;replace V:=R.cell 1 rfl;replace ae:=R.free 1;replace hk:=Keep.be af;replace f:=aC f af;have ak:=ag.nl_;have ax:(cC a D).length=a.length:=cH _;have I:=aB ax;have a9:=sA a D K _ hK ak;clear ax;go_wp2_with (at_make;refine jT rfl rfl 77 _ 2 32 underlying74 p6 rfl (by decide) a.length rfl rfl rfl rfl (by omega) (by omega) ?_;intro w2 ba au p);have R0:OwnW w2 (g.1.size+1) (List.replicate a.length 0):=by
  have:=OwnW.made au;rw[World.size_alloc] at this;exact this
 have bp:=R.lt;have Z:Below g.1.size g w2:=((aG _ _).alloc aE _).trans (p.mono (by simp));have aj:IntBx w2 g.1.size D:=⟨_,_,_,_,(Bx.new g [.bool s1,.slice A1 k1 c1] 77).be p,h1.be Z⟩;have al:=R.be Z;have am:=aC f Z;clear au ba p Z R h1 f U V ad ae hk;go_loopg [15] a.length (fun k i wr=>∃j,Hid (j+k=a.length)∧i= .int .i64 j∧OwnW wr (g.1.size+1) ((cC a D).take j++List.replicate k 0)∧IntBx wr g.1.size D∧Bx wr w.1.size [.bool false,.slice none 0 0] 77∧Below w.1.size w wr)
 case atStart=>exact⟨0,by unfold Hid;omega,rfl,by simpa using R0,aj,al,am⟩
 case round=>
  clear R0 aj al am;obtain⟨j,H,rfl,N,Y,R,f⟩:=hrel;generalize wr=F at *;have bn:(0:Int)<=(j:Int):=by omega
  obtain⟨P,J,O,L,C,o⟩:=id Y;cases gk with
  |zero=>
   have hj:j=a.length:=H.out;subst hj;rw[aq8,fH,cZ (by rw[I.out];exact aE)] at N;have hw:=N.whole a.length (by rw[I.out];exact aE);have ah:=fun W h=>ezL (cC a D) (some ⟨g.1.size+1,0,none⟩) a.length W h (K+(1+a.length*K)) a9 (by unfold aJ at a5;omega) (by rw[I.out];omega);rw[I.out] at ah hw;replace hw:=hw.drew;replace Y:=Y.be (aG _ _).drew;go_wp2_with fail;replace R:=R.drew;replace C:=C.drew;replace o:=o.drew;replace f:=f.drew;have ac:w.1.size≠g.1.size:=by omega
   replace U:=R.cell 0 rfl;replace ad:=R.free 0;replace V:=R.cell 1 rfl;replace ae:=R.free 1;replace Q:=C.cell 0 rfl;replace bb:=C.free 0;replace S:=C.cell 1 rfl;replace bc:=C.free 1;obtain⟨T,HT⟩:∃T,Hid (aW aV (cC a D)=T):=⟨_,rfl⟩;rw[HT.out] at ah
   go_region_held3 (fun w'=>w'.cell? ⟨g.1.size,0,none⟩=some (.bool P)∧w'.cell? ⟨g.1.size,1,none⟩=some (.slice J O L))
    (first|(with_reducible exact⟨Q,S⟩)|(with_reducible exact⟨(aL _ _ _ _ _ _ ac).trans ((aL _ _ _ _ _ _ ac).trans Q),(aL _ _ _ _ _ _ ac).trans ((aL _ _ _ _ _ _ ac).trans S)⟩))
    (first
     |(go_at_call 67;refine(ah _ hw).mono ?_;rintro e6 w6 ⟨rfl,h6,ab⟩;replace o:=o.be ab;replace R:=R.be ab;replace C:=C.be ab;replace Q:=C.cell 0 rfl;replace S:=C.cell 1 rfl;replace U:=R.cell 0 rfl;replace V:=R.cell 1 rfl;replace ad:=R.free 0;replace ae:=R.free 1;replace f:=aC f ab))
   go_wp2_with fail;obtain⟨-,x⟩:=IntBx.stored (w:=w6) (b:=w.1.size) (m:=0) ⟨_,_,_,_,R,IntAt.zero _⟩ o;have z6:=h6.step x (fun b e=>by injection e with e;injection e with e;omega);have zm:=o.ke x.1;have zb:=jD f x aE;obtain⟨z0,z1, -, -, -⟩:=jU (s:=P) (u:= .slice J O L) f aE R;clear x;generalize (w6.setCell ⟨w.1.size,0,none⟩ (.bool P)).setCell ⟨w.1.size,1,none⟩ (.slice J O L)=W6 at *;exact aM (v:= .tuple #[.slice (some ⟨g.1.size+1,0,none⟩) T.length a.length,.agg #[.bool P,.slice J O L]]) (by simp[results,results59,go_sem,z0,z1]) rfl ⟨_,_,_,_,D,rfl,by omega,by rw[HT.out];exact z6,zm,ag,zb⟩
  |succ k=>
   obtain⟨q,M⟩:∃q,a[j]? =some q:=⟨_,aR (by have:=H.out;omega)⟩;obtain⟨b,s,B,m,d,E,r,G,t,rfl,bm,g0,g1,g2,g3,hi⟩:=(hv.be f).at_ M;have a6:=hK q (dG M);have an:=ag.dvd q (dG M);have bo:(j:Int)<(a.length:Int):=by have:=H.out;omega
   have aw:(cC a D)[j]? =some (q.num*D.tdiv (q.den:Int)):=by unfold cC;rw[iK,M];rfl
   have ao:=rI (ys:=cC a D) (z:=(0:Int)) (j:=j) (k:=k+1) (by rw[I.out];exact H.out);have ap:=rH (z:=(0:Int)) (k:=k) aw;have aq:j<((cC a D).take j++List.replicate (k+1) 0).length:=by rw[ao,I.out];have:=H.out;omega
   have av:∀n:Int,(n:Rat)=q*D->n=q.num*D.tdiv (q.den:Int):=fun n h=>Rat.intCast_inj.1 (h.trans (xI q D an).symm);have ai:=aB av;have a2:=aB ap;clear aw ao ap M av;have ay:∀l:Obj,(F.alloc l).cell? ⟨g.1.size,0,none⟩=some (.bool P):=fun l=>(C.alloc l).cell 0 rfl;have a0:∀l:Obj,(F.alloc l).frozen? ⟨g.1.size,0,none⟩=false:=fun l=>(C.alloc l).free 0;have az:∀l:Obj,(F.alloc l).cell? ⟨g.1.size,1,none⟩=some (.slice J O L):=fun l=>(C.alloc l).cell 1 rfl;have a1:∀l:Obj,(F.alloc l).frozen? ⟨g.1.size,1,none⟩=false:=fun l=>(C.alloc l).free 1;go_wp2_with fail;replace N:=N.alloc (.cells #[.bool s,.slice B m d,.bool E,.slice r G t] 86);have bf:=C.lt;have bg:=R.lt;have bq:=f.size;replace C:=C.alloc (.cells #[.bool s,.slice B m d,.bool E,.slice r G t] 86);replace R:=R.alloc (.cells #[.bool s,.slice B m d,.bool E,.slice r G t] 86);have X:=Bx.newAt F [.bool s,.slice B m d,.bool E,.slice r G t] 86 (F.1.size) (by simp);replace f:=f.alloc f.size (.cells #[.bool s,.slice B m d,.bool E,.slice r G t] 86);replace hk:=Keep.alloc F (.cells #[.bool s,.slice B m d,.bool E,.slice r G t] 86);replace hi:=hi.ke hk;replace o:=o.ke hk;generalize F.alloc (.cells #[.bool s,.slice B m d,.bool E,.slice r G t] 86)=wa at *;replace Q:=C.cell 0 rfl;replace S:=C.cell 1 rfl;replace U:=R.cell 0 rfl;replace V:=R.cell 1 rfl;replace bh:=X.cell 0 rfl;replace bi:=X.cell 1 rfl;replace bj:=X.cell 2 rfl;replace bk:=X.cell 3 rfl;clear ay az a0 a1 g0 g1 g2 g3 Y;refine(VJ q D _ _ _ hi o an K (1+a.length*K) a6 ak (by omega)).mono ?_;rintro e2 br ⟨v2,n,rfl,h2,ar, -,p⟩;have a8:=ai.out n ar;subst a8;clear ar ai;obtain⟨s2,A2,k2,c2,rfl⟩:=h2.form;replace N:=N.be p;replace C:=C.be p;replace R:=R.be p;replace o:=o.be p;replace f:=aC f p;obtain⟨E,r,l',t,q0,q1, -⟩:=N.at_ (aR aq);have f0:=N.free (j*2);have f1:=N.free (j*2+1);generalize q.num*D.tdiv (q.den:Int)=y at *;go_wp2_with fail;obtain⟨hp,x⟩:=N.stored aq h2;rw[a2.out] at hp;have zC:=IntBx.step ⟨_,_,_,_,C,o⟩ x (by omega);have zR:Bx _ w.1.size [.bool false,.slice none 0 0] 77:=(x.2.1 w.1.size (by omega)).trans R;have a7:=jD f x (by omega);go_roundg k
   case rel=>exact⟨j+1,by have:=H.out;unfold Hid;omega,by go_num,hp,zC,zR,a7⟩
   case measure=>omega
def vl(a:List (List UInt8)):Bool:=decide (a.length<=65∧a.all rd=true∧(aU a).getLast?≠some 0)
def JB(b:List Rat):aN b↔b.getLast?≠some 0:=⟨fun h e=>h 0 e rfl,fun h a c e=>h (by rw[c,e])⟩
def pJ(h:vl a=true):a.length<=65∧a.all rd=true∧aN (aU a):=by
 unfold vl at h;rw[iQ] at h;exact⟨h.1,h.2.1,(JB _).2 h.2.2⟩
def oO{c:List Rat}(j:0<D)(i:∀q∈c,(q.den:Int)∣D)(h:aN c):aN (cC c D):=by
 intro a b e;unfold cC at b;rw[List.getLast?_map] at b;cases hq:c.getLast? with
 |none=>rw[hq] at b;simp at b
 |some q=>
  rw[hq] at b;simp only[bzX,Option.some.injEq] at b;have f:=xI q D (i q (List.mem_of_getLast? hq));rw[b,e,aq4] at f;have g:(D:Rat)≠0:=fun e=>(show D≠0 by omega) (Rat.intCast_inj.1 e);rcases Rat.mul_eq_zero.1 f.symm with d|d
  ·exact h q hq d
  ·exact g d
def VA(n c:Nat)(A:Option Addr)(w:World)(hn:n<=1073741824):Calls prog 56 #[.slice A n c] w fun e w'=>e= .returned (.bool (decide (n<=65)))∧w'=w:=by
 by_cases h:n<=65
 ·have b:(n:Int)<=65:=by omega
  have a:decide (n<=65)=true:=by simpa using h
  rw[a];go_enter func56,ntmps56;go_wp2;go_ret;exact⟨rfl,rfl⟩
 ·have b:¬(n:Int)<=65:=by omega
  have a:decide (n<=65)=false:=by simpa using h
  rw[a];go_enter func56,ntmps56;go_wp2;go_ret;exact⟨rfl,rfl⟩
def ComDen.mono{b:List Rat}{a:Nat}(h:ComDen b D B)(c:B<=a):ComDen b D a:=⟨h.pos,h.dvd,aH h.nl_ c⟩
def VB(w:World)(a:List (List UInt8))(B:Nat)(e:Ending)(w':World):Prop:=
 ∃v c b D,e= .returned (.tuple #[v,c,.bool (vl a)])∧WholeAt w' v b∧IntAt w' c D∧(vl a=true->b=cC (aU a) D∧ComDen (aU a) D B)∧Below w.1.size w w'
def VD(i:List (List UInt8))(v:Value)(w:World)(hG:Glob w)(hv:StrsAt w v i)(hl:i.length<=1073741824)(a7:i.length<=65->∀l∈i,l.length<=1073741824)(K KB L:Nat)(hK:i.length<=65->∀q∈aU i,RL K q)(hL:i.length<=65->i.length<=L)(a3:1<=L)(ba:1+L*K<=KB)(ak:6*KB+8<=aJ):
  Calls prog 30 #[v] w (VB w i (1+L*K)):=by
 have bb:K<=L*K:=byT K a3;obtain⟨A,c,rfl,hc⟩:=hv.form;obtain⟨W,eW,f,R⟩:=bI w [.bool false,.slice none 0 0] 77;have u:=R.g2;go_enter func30,ntmps30;go_wp2_with fail;(try rw[eW]);clear eW;refine(lL 1 _ (by decide) (by decide)).mono ?_;rintro e1 w1 ⟨v1,rfl,n,ar⟩;obtain⟨Z,J,V,P,rfl⟩:=n.form;replace R:=R.be ar;replace u:=R.g2;replace f:=aC f ar;go_wp2_with fail;have N:=R.lt;have T:=f.size;obtain⟨w2,aq,p,O⟩:=bI w1 [.bool Z,.slice J V P] 77;replace R:=R.be p;replace k:=Keep.be p;replace f:=aC f p;replace n:=n.ke k;rw[aq];clear aq;replace u:=aa R.g2 O.g2;refine(VA i.length c A _ hl).mono ?_;rintro e3 w3 ⟨rfl,rfl⟩;by_cases H:i.length<=65
 ·have z:decide (i.length<=65)=true:=by simpa using H
  rw[z];clear z;go_wp2_with fail;refine(T0 i _ _ (hG.be f) (hv.be f) hl (a7 H)).mono ?_;rintro e4 w4 ⟨v4,rfl,h4,ah⟩;replace R:=R.be ah;replace O:=O.be ah;replace u:=aa R.g2 O.g2;replace k:=Keep.be ah;replace n:=n.ke k;replace f:=aC f ah;cases hall:i.all rd with
  |false=>
   have t:vl i=false:=by unfold vl;rw[jA];exact fun h=>by rw[hall] at h;exact absurd h.2.1 (by simp)
   have G:=aB t;clear t h4;go_wp2_with fail;go_region
   all_goals (
    go_wp2_with fail;have N:=R.lt;have ac:=O.lt;have T:=f.size;obtain⟨W6,o,R,f,k,x⟩:=R.put2 f (by omega) (.bool Z) (.slice J V P) rfl rfl;replace O:=x O (by omega);replace n:=n.ke k;rw[o];clear o;replace u:=aa R.k2 O.k2;exact aM (v:= .tuple #[.slice none 0 0,.agg #[.bool Z,.slice J V P],.bool false]) (by simp[results,results30,go_sem,R.k2]) rfl ⟨_,_,[],1,by rw[G.out],WholeAt.nil _ _ _,n.drew,(fun h=>by rw[G.out] at h;cases h),f.drew⟩)
  |true=>
   have I:=h4 hall;obtain⟨A4,c4,rfl,bg⟩:=I.form;have a8:(aU i).length=i.length:=cH _;have ao:=aB hall;have aj:=hK H;clear h4 hall;generalize au:aU i=j at *;have ab:=aB au;have bh:j.length<=65:=by omega
   have ai:j.length<=L:=by have:=hL H;omega
   clear au a8;by_cases h0:j.length=0
   ·have am:j=[]:=bX h0;have ag:aN j:=fun a h=>by rw[am] at h;simp at h
    have t:vl i=true:=by unfold vl;rw[iQ,ab.out,ao.out,am];exact⟨H,rfl,by simp⟩
    have a2:¬(0:Int)<(j.length:Int):=by omega
    clear am h0;go_wp2_with fail;refine(JD j _ _ (hG.be f) I K KB aj (by omega) (by have:j.length*K<=L*K:=dK _ ai;omega) (by omega) ak).mono ?_;rintro S C ⟨b5,n5,c5,a9,D,rfl,a5,y,r,F,E⟩;rw[qB (oO F.pos F.dvd ag)] at y;obtain⟨A5,c9,S,a6⟩:=y.form;simp only[Value.slice.injEq] at S;obtain⟨-,rfl, -⟩:=S;have a4:=R.lt;obtain⟨s6,M,Y,Q,rfl⟩:=r.form;replace R:=R.be E;replace O:=O.be E;replace u:=aa R.g2 O.g2;replace k:=Keep.be E;replace n:=n.ke k;replace f:=aC f E;have ax:∀g:Obj,(C.alloc g).cell? ⟨w.1.size,0,none⟩=some (.bool false):=fun g=>(R.alloc g).cell 0 rfl;have az:∀g:Obj,(C.alloc g).frozen? ⟨w.1.size,0,none⟩=false:=fun g=>(R.alloc g).free 0;have ay:∀g:Obj,(C.alloc g).cell? ⟨w.1.size,1,none⟩=some (.slice none 0 0):=fun g=>(R.alloc g).cell 1 rfl;have a0:∀g:Obj,(C.alloc g).frozen? ⟨w.1.size,1,none⟩=false:=fun g=>(R.alloc g).free 1;have af:=F.mono (show 1+j.length*K<=1+L*K by have:j.length*K<=L*K:=dK _ ai;omega);have HN:=aB (show vl i=true∧cC j D=cC (aU i) D∧ComDen (aU i) D (1+L*K) from⟨t,by rw[ab.out],by rw[ab.out];exact af⟩);generalize cC j D=ns at *;clear F af ag t I;go_wp2_with fail;have N:=R.lt;have ac:=O.lt;have T:=f.size;obtain⟨w7,ad,p,X⟩:=bI C [.bool s6,.slice M Y Q] 77;replace R:=R.be p;replace O:=O.be p;replace k:=Keep.be p;replace f:=aC f p;replace n:=n.ke k;replace r:=r.ke k;rw[ad];clear ad;replace u:=aa R.g2 (aa O.k2 X.g2);replace y:=y.be p;go_region
    all_goals (
     go_wp2_with fail;obtain⟨-,an⟩:=IntBx.stored (w:=w7) (b:=w.1.size) (m:=0) ⟨_,_,_,_,R,IntAt.zero _⟩ r;have z5:=y.step an (fun b e=>by injection e with e;injection e with e;omega);have N:=R.lt;have ac:=O.lt;have a1:=X.lt;have T:=f.size;obtain⟨W6,o,R,f,k,x⟩:=R.put2 f (by omega) (.bool s6) (.slice M Y Q) rfl rfl;replace O:=x O (by omega);replace X:=x X (by omega);replace r:=r.ke k;rw[o];rw[o] at z5;clear o;replace u:=aa R.k2 (aa O.k2 X.k2);exact aM (v:= .tuple #[.slice (some ⟨b5,0,none⟩) ns.length c5,.agg #[.bool s6,.slice M Y Q],.bool true]) (by simp[results,results30,go_sem,R.k2]) rfl ⟨_,_,ns,D,by rw[HN.out.1],z5.drew,r.drew,(fun _=>HN.out.2),f.drew⟩)
   ·obtain⟨m,hm⟩:∃m,j.length=m+1:=⟨j.length-1,by omega⟩;have a2:(0:Int)<(j.length:Int):=by omega
    have e1:(j.length:Int)-1=(m:Int):=by omega
    have i0:(0:Int)<=(m:Int):=by omega
    have i1:(m:Int)<(j.length:Int):=by omega
    obtain⟨q,hq⟩:∃q,j[m]? =some q:=⟨_,aR (by omega)⟩;obtain⟨b,s,B,l,d,s',B',l',d',rfl,bf,g0,g1,g2,g3,hi⟩:=I.at_ hq;have al:j.getLast?=some q:=by rw[byO,hm];exact hq
    have bc:=(aj q (dG hq)).1;have av:vl i=decide (q≠0):=by
     unfold vl;rw[ab.out,ao.out,al,bxH,iQ,iQ];exact⟨fun h e=>h.2.2 (by rw[e]),fun h=>⟨H,rfl,fun e=>h (by injection e)⟩⟩
    have ap:=aB av;have aw:=aB al;clear hq hm h0 av al;go_wp2_with fail;refine(SV q _ _ hi (by unfold aJ at ak;omega)).mono ?_;rintro e8 w8 ⟨rfl,ae⟩;replace R:=R.be ae;replace O:=O.be ae;replace u:=aa R.g2 O.g2;replace k:=Keep.be ae;replace n:=n.ke k;replace f:=aC f ae;replace I:=I.be ae;by_cases U:q=0
    ·have z:decide (q=0)=true:=by simpa using U
     have t:vl i=false:=by rw[ap.out];simpa using U
     have G:=aB t;rw[z];clear z t U;go_wp2_with fail;go_region
     all_goals (
      go_wp2_with fail;have N:=R.lt;have ac:=O.lt;have T:=f.size;obtain⟨W6,o,R,f,k,x⟩:=R.put2 f (by omega) (.bool Z) (.slice J V P) rfl rfl;replace O:=x O (by omega);replace n:=n.ke k;rw[o];clear o;replace u:=aa R.k2 O.k2;exact aM (v:= .tuple #[.slice none 0 0,.agg #[.bool Z,.slice J V P],.bool false]) (by simp[results,results30,go_sem,R.k2]) rfl ⟨_,_,[],1,by rw[G.out],WholeAt.nil _ _ _,n.drew,(fun h=>by rw[G.out] at h;cases h),f.drew⟩)
    ·have z:decide (q=0)=false:=by simpa using U
     have t:vl i=true:=by rw[ap.out];simpa using U
     have ag:aN j:=(JB j).2 (by rw[aw.out];intro e;injection e with e;exact U e);rw[z];clear z U g0 g1 g2 g3 hi;go_wp2_with fail;refine(JD j _ _ (hG.be f) I K KB aj (by omega) (by have:j.length*K<=L*K:=dK _ ai;omega) (by omega) ak).mono ?_;rintro S C ⟨b5,n5,c5,a9,D,rfl,a5,y,r,F,E⟩;rw[qB (oO F.pos F.dvd ag)] at y;obtain⟨A5,c9,S,a6⟩:=y.form;simp only[Value.slice.injEq] at S;obtain⟨-,rfl, -⟩:=S;have a4:=R.lt;obtain⟨s6,M,Y,Q,rfl⟩:=r.form;replace R:=R.be E;replace O:=O.be E;replace u:=aa R.g2 O.g2;replace k:=Keep.be E;replace n:=n.ke k;replace f:=aC f E;have ax:∀g:Obj,(C.alloc g).cell? ⟨w.1.size,0,none⟩=some (.bool false):=fun g=>(R.alloc g).cell 0 rfl;have az:∀g:Obj,(C.alloc g).frozen? ⟨w.1.size,0,none⟩=false:=fun g=>(R.alloc g).free 0;have ay:∀g:Obj,(C.alloc g).cell? ⟨w.1.size,1,none⟩=some (.slice none 0 0):=fun g=>(R.alloc g).cell 1 rfl;have a0:∀g:Obj,(C.alloc g).frozen? ⟨w.1.size,1,none⟩=false:=fun g=>(R.alloc g).free 1;have af:=F.mono (show 1+j.length*K<=1+L*K by have:j.length*K<=L*K:=dK _ ai;omega);have HN:=aB (show vl i=true∧cC j D=cC (aU i) D∧ComDen (aU i) D (1+L*K) from⟨t,by rw[ab.out],by rw[ab.out];exact af⟩);generalize cC j D=ns at *;clear F af ag t I;go_wp2_with fail;have N:=R.lt;have ac:=O.lt;have T:=f.size;obtain⟨w7,ad,p,X⟩:=bI C [.bool s6,.slice M Y Q] 77;replace R:=R.be p;replace O:=O.be p;replace k:=Keep.be p;replace f:=aC f p;replace n:=n.ke k;replace r:=r.ke k;rw[ad];clear ad;replace u:=aa R.g2 (aa O.k2 X.g2);replace y:=y.be p;go_region
     all_goals (
      go_wp2_with fail;obtain⟨-,an⟩:=IntBx.stored (w:=w7) (b:=w.1.size) (m:=0) ⟨_,_,_,_,R,IntAt.zero _⟩ r;have z5:=y.step an (fun b e=>by injection e with e;injection e with e;omega);have N:=R.lt;have ac:=O.lt;have a1:=X.lt;have T:=f.size;obtain⟨W6,o,R,f,k,x⟩:=R.put2 f (by omega) (.bool s6) (.slice M Y Q) rfl rfl;replace O:=x O (by omega);replace X:=x X (by omega);replace r:=r.ke k;rw[o];rw[o] at z5;clear o;replace u:=aa R.k2 (aa O.k2 X.k2);exact aM (v:= .tuple #[.slice (some ⟨b5,0,none⟩) ns.length c5,.agg #[.bool s6,.slice M Y Q],.bool true]) (by simp[results,results30,go_sem,R.k2]) rfl ⟨_,_,ns,D,by rw[HN.out.1],z5.drew,r.drew,(fun _=>HN.out.2),f.drew⟩)
 ·have z:decide (i.length<=65)=false:=by simpa using H
  have t:vl i=false:=by unfold vl;rw[jA];exact fun h=>H h.1
  have G:=aB t;rw[z];clear z t;go_wp2_with fail;go_region
  all_goals (
   go_wp2_with fail;have N:=R.lt;have ac:=O.lt;have T:=f.size;obtain⟨W6,o,R,f,k,x⟩:=R.put2 f (by omega) (.bool Z) (.slice J V P) rfl rfl;replace O:=x O (by omega);replace n:=n.ke k;rw[o];clear o;replace u:=aa R.k2 O.k2;exact aM (v:= .tuple #[.slice none 0 0,.agg #[.bool Z,.slice J V P],.bool false]) (by simp[results,results30,go_sem,R.k2]) rfl ⟨_,_,[],1,by rw[G.out],WholeAt.nil _ _ _,n.drew,(fun h=>by rw[G.out] at h;cases h),f.drew⟩)
def eqZ(a:List (List UInt8))(v:Value)(w:World)(b:Glob w)(hv:StrsAt w v a)(f:a.length<=1073741824)(g:a.length<=65->∀l∈a,l.length<=1073741824)(K KB:Nat)(c:a.length<=65->∀q∈aU a,RL K q)(d:1+65*K<=KB)(e:6*KB+8<=aJ):
  Calls prog 30 #[v] w (VB w a (1+65*K)):=
 VD a v w b hv f g K KB 65 c id (by decide) d e
def oN(a:List Rat)(D:Int):(cC a D).length=a.length:=cH _
def V8(f:Nat->Int)(n M:Nat)(h:∀k,k<n->(f k).natAbs<=M):(bW f n).natAbs<=n*M:=by
 induction n with
 |zero=>simp[bW]
 |succ n a=>
  rw[bW,aq2];have b:=a (fun k e=>h k (by omega));have c:=h n (by omega);have d:=bz2 (bW f n) (f n);omega
def cqW(a b:List (List UInt8))(I J:Value)(w:World)(u:StrsAt w I a)(v:StrsAt w J b)(X:a.length<=1099511627776)(Y:b.length<=1099511627776):
  Calls prog 11 #[I,J] w fun e w'=>e= .returned (.bool (decide (a=b)))∧Below w.1.size w w':=by
 obtain⟨A,c,rfl,S⟩:=u.form;obtain⟨M,P,rfl,T⟩:=v.form;go_enter func11,ntmps11;by_cases f:a.length=b.length
 ·have H:((a.length:Int)==(b.length:Int))=true:=by rw[f];exact beq_self_eq_true _
  have q:=aB f;go_wp2_with fail;clear H f;go_loopg [5] a.length (fun k i wr=>∃j,Hid (j+k=a.length)∧i= .int .i64 j∧Hid (a.take j=b.take j)∧Below w.1.size w wr)
  case atStart=>exact⟨0,by unfold Hid;omega,rfl,rfl,aG _ _⟩
  case round=>
   obtain⟨j,l,rfl,r,d⟩:=hrel;generalize wr=wy at *;have U:(0:Int)<=(j:Int):=by omega
   cases gk with
   |zero=>
    have D:j=a.length:=l.out;have C:a=b:=by
     have:=r.out;rwa [D,aq9,q.out,aq9] at this
    have B:decide (a=b)=true:=decide_eq_true C;have K:=aB B;subst D;clear B C;go_wp2;go_ret;rw[K.out];exact⟨rfl,d⟩
   |succ k=>
    have o:j<a.length:=by have:=l.out;omega
    have E:j<b.length:=by rw[<-q.out];exact o
    have V:(j:Int)<(a.length:Int):=by omega
    have W:(j:Int)<(b.length:Int):=by omega
    have s:=aR o;have t:=aR E;have G:a[j]=b[j]->a.take (j+1)=b.take (j+1):=fun e=>by rw[bq4 o,bq4 E,r.out,e]
    have F:a[j]≠b[j]->decide (a=b)=false:=fun h=>decide_eq_false (fun e=>h (by simp[e]));have n:=aB (And.intro G F);obtain⟨N,oa,rfl,Z,Q⟩:=(u.be d).at_ s;obtain⟨O,ob,rfl,lb,R⟩:=(v.be d).at_ t;clear G F s t;generalize a[j]=x at *;generalize b[j]=y at *;have z:=d.drew;by_cases g:x=y
    ·have m:=aB (n.out.1 g);subst g;go_wp2_with fail;go_region
     all_goals (
      go_wp2;go_roundg k
      case rel=>exact⟨j+1,by have:=l.out;unfold Hid;omega,by go_num,m,z⟩
      case measure=>omega)
    ·have m:=aB (n.out.2 g);have p:(x==y)=false:=beq_eq_false_iff_ne.2 g;clear n;go_wp2_with fail;go_region
     all_goals (
      go_wp2;go_ret;rw[m.out];exact⟨rfl,z⟩)
 ·have H:((a.length:Int)==(b.length:Int))=false:=by rw[beq_eq_false_iff_ne];omega
  have p:decide (a=b)=false:=decide_eq_false (fun e=>f (by rw[e]));have L:=aB p;clear p;go_wp2;go_ret;rw[L.out];exact⟨rfl,aG _ _⟩
def uH(u:Value):Prop:=∃A n c,u= .slice A n c
def PRow(w:World)(B:Nat)(e:TypeId)(v:Value)(b:List Value):Prop:=
 (v= .slice none 0 0∧b=[])∨∃g c d,v= .slice (some ⟨g,0,none⟩) b.length c∧B<=g∧w.heap[g]? =some (.cells d e (0,0))∧b.length<=c∧c<=maxLen∧d.size=c∧d.toList.take b.length=b∧∀u∈d.toList,uH u
def PRow.nil(w:World)(B:Nat)(e:TypeId):PRow w B e (.slice none 0 0) []:= .inl ⟨rfl,rfl⟩
def PRow.be(h:PRow w B e v c)(j:Below w.1.size w w'):PRow w' B e v c:=by
 rcases h with h|⟨g,d,f,hv,i,b,h⟩
 ·exact .inl h
 ·exact .inr ⟨g,d,f,hv,i,(j.block g (Array.getElem?_eq_some_iff.1 b).1).trans b,h⟩
def PRow.ge(h:PRow w B e v c):∀g,v.ownBlock=some g->B<=g:=fun g b=>by
 rcases h with ⟨rfl,_⟩|⟨g',cap,cur,rfl,d,_⟩
 ·simp[Value.ownBlock] at b
 ·simp[Value.ownBlock] at b;omega
def PRow.form(h:PRow w B e v b):∃A c,v= .slice A b.length c∧b.length<=c:=by
 rcases h with ⟨rfl,rfl⟩|⟨i,f,g,rfl,j,_,d,_⟩
 ·exact⟨none,0,rfl,aE⟩
 ·exact⟨_,_,rfl,d⟩
def PRow.at_{l c:Nat}(h:PRow w B e (.slice A l c) g)(hi:g[i]? =some u):∃b,A=some ⟨b,0,none⟩∧b<w.1.size∧w.cell? ⟨b,i,none⟩=some u:=by
 rcases h with ⟨_,rfl⟩|⟨d,m,j,hv,n,f,p,q,r,k,hn⟩
 ·simp at hi
 ·simp only[Value.slice.injEq] at hv;refine⟨d,hv.1,(Array.getElem?_eq_some_iff.1 f).1,?_⟩;rw[cell_of_row w d i j e (0,0) f,<-Array.getElem?_toList];rw[<-k,fC] at hi;split at hi
  ·exact hi
  ·cases hi
def Y1{g:Nat}{cur cs:Array Value}(t:w.heap[g]? =some (.cells cur e (0,0)))(hn:∀u∈cur.toList,uH u)(h:NatAt w u n):NatAt (w.setRow g cs) u n:=by
 obtain⟨A,c,hv,r,d,y⟩:=h;have k:(w.setRow g cs).1.size=w.1.size:=by simp[World.setRow]
 refine⟨A,c,hv,r,?_,y.mono (by rw[k];exact aE)⟩;rcases d with d|⟨b,m,rfl,x,j⟩
 ·exact .inl d
 ·by_cases l:dg n=[]
  ·exact .inl l
  ·have q:b≠g:=fun p=>by
    subst p;have f:=j 0 (List.length_pos_iff.2 l);rw[cell_of_row w b (m+0) cur e (0,0) t,<-Array.getElem?_toList] at f;obtain⟨z,C,B,s⟩:=hn _ (dG f);cases s
   refine .inr ⟨b,m,rfl,by rw[k];exact x,fun i v=> ?_⟩;exact(World.cell?_of_block (setRow_other w g b cs q)).trans (j i v)
section
variable {P:Program}{ops:Array Oper}{rest:List Oper}{o:Oper}{a:Act}{Q:Exit->Act->World->Prop}{w:World}
def K4(ae:o.guard=none){s x:Operand}(ho:o.op= .call { callee:= .builtin .append,args:= #[s,x],argTypes:= #[t,t] })
  (e:TypeId)(R:Nat)(L:P.underlying t=some (.slice e))(hi:(P.info? e).map (fun i=>(i.zero,i.size,i.bytes))=some (some (.slice none 0 0),1,R))
  (B:Nat)(v:Value)(d:List Value)(hs:a.eval s=v)(ah:PRow w B e v d)(b:Nat)(u:Value)(O:a.eval x= .slice (some ⟨b,0,none⟩) 1 1)(hc:w.cell? ⟨b,0,none⟩=some u)(N:uH u)
  (V:(d.length+1)*R<=140737488355328)(T:d.length+1<=maxLen)(hB:B<=w.1.size)
  (h:∀p w',PRow w' B e p (d++[u])->Keep w w'->w.grownBy w' v.ownBlock->wpList P ops Q rest (a.put o.dst p) w'):
  wpList P ops Q (o :: rest) a w:=by
 obtain⟨i,H,hz,r,U⟩:=info_parts hi;have an:d.length+1<=9223372036854775807:=by simp only[maxLen] at T;omega
 have ag:u.oneCell'=true:=by obtain⟨A,n,c,rfl⟩:=N;rfl
 have J:∀j y,[u][j]? =some y->w.cell? ((⟨b,0,none⟩:Addr).add j)=some y:=fun j y m=>by
  match j,m with
  |0,m=>simp at m;subst m;simpa [Addr.add] using hc
 have S:∀(l F:Nat),l=grownCap w (d.length+1) F e->d.length+1<=l->l<=maxLen->∀ac,(∀y∈d,uH y)->
   PRow (w.drew.alloc (.cells (d.toArray++[u].toArray++Builtin.zeroCells (Value.slice none 0 0).cells (l-(d.length+1))) e)) B e (.slice (some ⟨w.1.size,0,none⟩) (d.length+1) l) (d++[u])∧
   Keep w (w.drew.alloc (.cells (d.toArray++[u].toArray++Builtin.zeroCells (Value.slice none 0 0).cells (l-(d.length+1))) e))∧
   w.grownBy (w.drew.alloc (.cells (d.toArray++[u].toArray++Builtin.zeroCells (Value.slice none 0 0).cells (l-(d.length+1))) e)) ac:=by
  intro l F _ C G ac hv;have al:(Builtin.zeroCells (Value.slice none 0 0).cells (l-(d.length+1))).size=l-(d.length+1):=by rw[size_zeroCells];simp[Value.cells]
  refine⟨.inr ⟨w.1.size,l,_,by rw[bN];rfl,hB,heap_alloc_new w.drew _,by rw[bN];exact C,G,?_,?_,?_⟩,Keep.be ((aG w.1.size w).drew.alloc aE _),⟨rfl,rfl,rfl,by simp,fun k I _=>heap_alloc_old w.drew _ I⟩⟩
  ·rw[Array.size_append,Array.size_append,al];simp;omega
  ·rw[bx5,bx5];exact List.take_left
  ·intro y f;rw[bx5,bx5] at f;rcases List.mem_append.1 f with f|f
   ·rcases List.mem_append.1 f with f|f
    ·exact hv y f
    ·have ak:y=u:=by simpa using f
     rw[ak];exact N
   ·have ab:y∈Builtin.zeroCells #[Value.slice none 0 0] (l-(d.length+1)):=Array.mem_toList_iff.1 f;unfold Builtin.zeroCells at ab;obtain⟨j,_,rfl⟩:=Array.mem_map.1 ab;simp only[bzA,eG,azS,bA,Nat.mod_one];exact⟨none,0,0,rfl⟩
 have am:∃p w',(Builtin.append_ #[t,t] o.type #[v,.slice (some ⟨b,0,none⟩) 1 1]).run P w= .ok p w'∧PRow w' B e p (d++[u])∧Keep w w'∧w.grownBy w' v.ownBlock:=by
  have X:=grownCap_ge w (d.length+1);have W:=fun F=>grownCap_le_maxLen w (d.length+1) F e T;rcases ah with ⟨rfl,rfl⟩|⟨g,l,z,rfl,ad,D,hl,hm,ao,M,hn⟩
  ·have q:=run_append_nil (P:=P) w t o.type e i (.slice none 0 0) L H hz ⟨b,0,none⟩ 1 1 [u] (by rw[r];rfl) J (by omega) (by omega) (by rw[U];simp at V;omega);have E:=S _ 0 rfl (X 0 e) (W 0) (Value.ownBlock (.slice none 0 0)) (fun y f=>by cases f);simp only[azS,bA,iM,Array.empty_append] at E⊢;exact⟨_,_,q,E⟩
  ·have Z:∀y∈d,uH y:=fun y f=>hn y (by rw[<-M] at f;exact lH f);by_cases Y:d.length+1<=l
   ·have q:=run_append_room (P:=P) w t o.type e i L H g d.length l z D ⟨b,0,none⟩ 1 1 [u] (by rw[r];rfl) J (fun y f=>by rw[List.mem_singleton.1 f];exact ag) Y (by rw[r];simp;omega);rw[r,az9,M] at q;refine⟨_,_,q,.inr ⟨g,l,_,by rw[bN];rfl,ad,setRow_heap w g z _ e _ D,by rw[bN];exact Y,hm,?_,?_,?_⟩,fun x n O=>Y1 D hn O,⟨rfl,rfl,rfl,by simp[World.setRow],fun k _ I=>setRow_other w g k _ (fun e=>I (by simp[Value.ownBlock,e]))⟩⟩
    ·simp[gG];omega
    ·exact List.take_left
    ·intro y f;have aj:y∈d++[u]++z.toList.drop (d.length+[u].length):=f;rcases List.mem_append.1 aj with f|f
     ·rcases List.mem_append.1 f with f|f
      ·exact Z y f
      ·rw[List.mem_singleton.1 f];exact N
     ·exact hn y (bxD f)
   ·have af:∀j y,d[j]? =some y->w.cell? ((⟨g,0,none⟩:Addr).add j)=some y:=fun j y m=>by
     have C:w.cell? ⟨g,j,none⟩=some y:=by
      rw[cell_of_row w g j z e (0,0) D,<-Array.getElem?_toList];rw[<-M,fC] at m;split at m
      ·exact m
      ·cases m
     unfold Addr.add;split
     ·rename_i h0;subst h0;simpa using C
     ·simpa using C
    have q:=run_append_grow (P:=P) w t o.type e i (.slice none 0 0) L H hz ⟨g,0,none⟩ d.length l d (by rw[r,az9]) af ⟨b,0,none⟩ 1 1 [u] (by rw[r];rfl) J (by omega) (by omega) (growslice_fits (by omega) (by rw[U];exact V));have E:=S _ l rfl (X l e) (W l) (Value.ownBlock (.slice (some ⟨g,0,none⟩) d.length l)) Z;exact⟨_,_,q,E⟩
 obtain⟨p,w',ai,G,h3,h4⟩:=am;refine wpList_plain ae fun K hK=> ?_;unfold Oper.wp execOp;simp only[ho,resolve,invoke,builtin,Sem.run_bind,Sem.run_pure,Result.andThen_ok,bxC,fM,aqJ,hs,O,ai];exact hK _ _ (h p w' G h3 h4)
end
def RowsAt{α:Type}(E:World->Value->α->Prop)(w:World)(B:Nat)(e:TypeId)(v:Value)(c:List α):Prop:=
 ∃b,PRow w B e v b∧b.length=c.length∧∀(i:Nat) (u:Value) (l:α),b[i]? =some u->c[i]? =some l->E w u l
def RowsAt.nil{α:Type}(E:World->Value->α->Prop)(w:World)(B:Nat)(e:TypeId):RowsAt E w B e (.slice none 0 0) []:=⟨[],PRow.nil _ _ _,rfl,fun i u l h=>by simp at h⟩
def RowsAt.form{α:Type}{E:World->Value->α->Prop}{b:List α}(h:RowsAt E w B e v b):∃A c,v= .slice A b.length c∧b.length<=c:=by
 obtain⟨g,d,f,_⟩:=h;rw[<-f];exact d.form
def RowsAt.at_{α:Type}{E:World->Value->α->Prop}{c:Nat}{f:List α}(h:RowsAt E w B e (.slice A n c) f){l:α}(hi:f[i]? =some l):∃b u,A=some ⟨b,0,none⟩∧b<w.1.size∧w.cell? ⟨b,i,none⟩=some u∧E w u l:=by
 obtain⟨r,g,j,k⟩:=h;have d:i<r.length:=by rw[j];exact(List.getElem?_eq_some_iff.1 hi).1
 obtain⟨b,m,p,q⟩:=g.at_ (aR d);exact⟨b,_,m,p,q,k i _ l (aR d) hi⟩
abbrev WsAt:=RowsAt WholeAt
abbrev TsAt:=RowsAt StrsAt
def WsAt.be{c:List (List Int)}(h:WsAt w B 74 v c)(b:Below w.1.size w w'):WsAt w' B 74 v c:=by
 obtain⟨k,d,e,f⟩:=h;exact⟨k,d.be b,e,fun i u l j g=>(f i u l j g).be b⟩
def TsAt.be{c:List (List (List UInt8))}(h:TsAt w B 25 v c)(b:Below w.1.size w w'):TsAt w' B 25 v c:=by
 obtain⟨k,d,e,f⟩:=h;exact⟨k,d.be b,e,fun i u l j g=>(f i u l j g).be b⟩
def WholeAt.grown{t:List Value}{l:List Int}(h:WholeAt w u l)(s:PRow w B 74 v t)(r:Keep w w')(n:w.grownBy w' v.ownBlock):WholeAt w' u l:=by
 obtain⟨A,c,e,m,h⟩:=h;refine⟨A,c,e,m,?_⟩;rcases h with h|⟨b,j,k,f,q⟩
 ·exact .inl h
 ·refine .inr ⟨b,j,k,⟨(n.block b f.lt (fun i=> ?_)).trans f.1,f.2⟩,q.ke r⟩;rcases s with ⟨rfl,_⟩|⟨g,x,y,rfl,_,p,_⟩
  ·simp[Value.ownBlock] at i
  ·simp[Value.ownBlock] at i;subst i;have d:w.heap[b]? =some (.cells j.flatten.toArray 77 (0,0)):=f.1;rw[p] at d;injection d with d;injection d with _ d;exact absurd d (by decide)
def StrsAt.grown(h:StrsAt w u l)(D:PRow w B e v E)(j:w.grownBy w' v.ownBlock):StrsAt w' u l:=by
 obtain⟨A,c,r,x,h⟩:=h;refine⟨A,c,r,x,?_⟩;rcases h with h|⟨b,p,s,m,k⟩
 ·exact .inl h
 ·by_cases C:l=[]
  ·exact .inl C
  ·refine .inr ⟨b,p,s,aZ m j.size,fun i t n=>(World.cell?_of_block (j.block b m (fun d=> ?_))).trans (k i t n)⟩;rcases D with ⟨rfl,_⟩|⟨g,H,q,rfl,_,z,_,_,_,_,hn⟩
   ·simp[Value.ownBlock] at d
   ·simp[Value.ownBlock] at d;subst d;have f:=k i t n;rw[cell_of_row w b (p+i) q e (0,0) z,<-Array.getElem?_toList] at f;obtain⟨F,I,G,y⟩:=hn _ (dG f);cases y
def WsAt.push{m:Value}{f:List (List Int)}{l:List Int}(g:PRow w B 74 v d)(h:d.length=f.length)(p:∀(i:Nat) (u:Value) (l:List Int),d[i]? =some u->f[i]? =some l->WholeAt w u l)(r:WholeAt w u l)
  (q:PRow w' B 74 m (d++[u]))(k:Keep w w')(j:w.grownBy w' v.ownBlock):WsAt w' B 74 m (f++[l]):=by
 refine⟨_,q,by rw[bN,bN,h];rfl,fun i x y b c=> ?_⟩;rcases dE i d.length with e|e
 ·rw[gA e] at b;rw[gA (by omega)] at c;exact(p i x y b c).grown g k j
 ·rw[fK e] at b;rw[fK (by omega),<-h] at c;have n:i-d.length=0:=by
   have:=(List.getElem?_eq_some_iff.1 b).1;simp at this;omega
  rw[n] at b c;simp at b c;subst b;subst c;exact r.grown g k j
def TsAt.push{k:Value}{f:List (List (List UInt8))}(g:PRow w B 25 v d)(h:d.length=f.length)(n:∀(i:Nat) (u:Value) (l:List (List UInt8)),d[i]? =some u->f[i]? =some l->StrsAt w u l)(q:StrsAt w u l)
  (p:PRow w' B 25 k (d++[u]))(j:w.grownBy w' v.ownBlock):TsAt w' B 25 k (f++[l]):=by
 refine⟨_,p,by rw[bN,bN,h];rfl,fun i x y b c=> ?_⟩;rcases dE i d.length with e|e
 ·rw[gA e] at b;rw[gA (by omega)] at c;exact(n i x y b c).grown g j
 ·rw[fK e] at b;rw[fK (by omega),<-h] at c;have m:i-d.length=0:=by
   have:=(List.getElem?_eq_some_iff.1 b).1;simp at this;omega
  rw[m] at b c;simp at b c;subst b;subst c;exact q.grown g j
def fy6{a:World}(h:Below B a w)(b:w.grownBy w' v.ownBlock)(f:PRow w B e v g)(d:B<=a.1.size):Below B a w':=
 ⟨b.os.trans h.os,b.tape.trans h.tape,b.output.trans h.output,aH h.size b.size,fun k c=>(b.block k (aZ c (aH d h.size)) (fun e=>by have:=f.ge k e.symm;omega)).trans (h.block k c)⟩
def Y3:(Tryz.prog.info? 74).map (fun i=>(i.zero,i.size,i.bytes))=some (some (.slice none 0 0),1,24):=by kernel_rfl
def fqS:(Tryz.prog.info? 25).map (fun i=>(i.zero,i.size,i.bytes))=some (some (.slice none 0 0),1,24):=by kernel_rfl
def DD(w:World)(v:Value):Prop:=∀g,v.ownBlock=some g->∀cur t f,w.heap[g]? =some (.cells cur t f)->∀y∈cur.toList,NoInt y
def GrowD(w:World)(base:Nat)(e:TypeId)(k:Nat)(v:Value)(rows:List (List Value)):Prop:=w.ownsRow base e k v rows.length rows.flatten∧(∀r∈rows,r.length=k)∧DD w v
section
variable {w w':World}{base:Nat}{e:TypeId}{k:Nat}{v:Value}{rows:List (List Value)}
def GrowD.nil:GrowD w base e k (.slice none 0 0) []:=⟨World.ownsRow_nil _ _ _ _,(fun _ h=>by cases h),fun g h=>by simp[Value.ownBlock] at h⟩
def GrowD.lt(h:GrowD w base e k v rows):∀g,v.ownBlock=some g->base<=g∧g<w.1.size:=fun g b=>by
 rcases h.1.2 with ⟨rfl,_⟩|⟨f,cap,cur,rfl,c,d,_⟩
 ·simp[Value.ownBlock] at b
 ·simp[Value.ownBlock] at b;subst b;exact⟨c,(Array.getElem?_eq_some_iff.1 d).1⟩
def GrowD.kept(h:GrowD w base e k v rows)(l:∀g,v.ownBlock=some g->w'.heap[g]? =w.heap[g]?):GrowD w' base e k v rows:=by
 obtain⟨j,n,q⟩:=h;refine⟨⟨j.1,?_⟩,n,fun g d b t f c=>q g d b t f ((l g d).symm.trans c)⟩;rcases j.2 with h|⟨i,m,b,rfl,p,c,h⟩
 ·exact .inl h
 ·exact .inr ⟨i,m,b,rfl,p,(l i (by simp[Value.ownBlock])).trans c,h⟩
def GrowD.be(h:GrowD w base e k v rows)(c:Below w.1.size w w'):GrowD w' base e k v rows:=h.kept (fun g b=>c.block g (h.lt g b).2)
def GrowD.up{a b:World}[u:Up a b](h:GrowD a base e k v rows):GrowD b base e k v rows:=h.be u.out
def GrowD.form(h:GrowD w base e k v rows):∃A c,v= .slice A rows.length c∧rows.length<=c:=by
 rcases h.1.2 with ⟨rfl,b⟩|⟨i,d,g,rfl,j,l,f,_⟩
 ·exact⟨none,0,by rw[b],by rw[b];exact aE⟩
 ·exact⟨_,d,rfl,f⟩
def GrowD.at_{l c:Nat}(h:GrowD w base e k (.slice A l c) rows)(hi:rows[i]? =some r):∃b,A=some ⟨b,0,none⟩∧base<=b∧b<w.1.size∧∀(j:Nat) (u:Value),r[j]? =some u->w.cell? ⟨b,i*k+j,none⟩=some u:=by
 obtain⟨q,g,B⟩:=h;have C:=(List.getElem?_eq_some_iff.1 hi).1;rcases q.2 with ⟨_,z⟩|⟨f,y,p,hv,s,m,D,E,F,x⟩
 ·omega
 ·simp only[Value.slice.injEq] at hv;refine⟨f,hv.1,s,(Array.getElem?_eq_some_iff.1 m).1,fun j u n=> ?_⟩;have t:j<k:=by rw[<-g r (dG hi)];exact(List.getElem?_eq_some_iff.1 n).1
  rw[cell_of_row w f _ p e (0,0) m,<-Array.getElem?_toList];have d:=mW g hi t;rw[n,<-x,fC] at d;split at d
  ·exact d
  ·cases d
end
def LA(w:World)(t N e:TypeId)(k O:Nat)(z:Value)(W:Tryz.prog.underlying t=some (.slice e))(hi:(Tryz.prog.info? e).map (fun i=>(i.zero,i.size,i.bytes))=some (some z,k,O))(av:z.cells.size=k)(hz:∀n,∀y∈Builtin.zeroCells z.cells n,NoInt y)(hk:0<k)(ai:O<=1024)
  {base:Nat}{rows:List (List Value)}(hG:GrowD w base e k v rows){g c:Nat}(hB:Bx w g r t')(H:r.length=k)(U:∀u∈r,NoInt u∧u.oneCell'=true)(hl:rows.length<=1073741824)(hb:base<=w.1.size):
  ∃E w',(Builtin.append_ #[t,t] N #[v,.slice (some ⟨g,0,none⟩) 1 c]).run prog w= .ok E w'∧GrowD w' base e k E (rows++[r])∧Keep w w'∧w.grownBy w' v.ownBlock∧(E.ownBlock=v.ownBlock∨E.ownBlock=some w.1.size):=by
 obtain⟨F,h3,hN⟩:=hG;obtain⟨i,hi,ab,I,ac⟩:=info_parts hi;have ae:(rows.length+1)*O<=140737488355328:=aH (aqK (show rows.length+1<=1073741825 by omega) ai) (by decide);have T:∀j u,r[j]? =some u->w.cell? ((⟨g,0,none⟩:Addr).add j)=some u:=fun j u M=>by
  have:=hB.cell j M;unfold Addr.add;split
  ·rename_i K;subst K;exact this
  ·simpa using this
 obtain⟨E,w',V,ho,S,_,ah⟩:=run_append_own_at (P:=prog) w base t N e i z k O W hi ab I ac av hk v rows.length _ F ⟨g,0,none⟩ 1 c r (by rw[H,aqD]) T (fun u M=>(U u M).2) (by unfold maxLen;omega) ae hb;have am:Keep w w':=fun x n D=>by
  obtain⟨A,c',hv,L,ar,ap⟩:=D;refine⟨A,c',hv,L,?_,ap.mono S.size⟩;rcases ar with h|⟨b,aw,rfl,af,ak⟩
  ·exact .inl h
  ·refine .inr ⟨b,aw,rfl,aZ af S.size,fun j G=> ?_⟩;have Z:=ak j G;by_cases R:v.ownBlock=some b
   ·rcases F.2 with ⟨rfl,_⟩|⟨p,q,l,rfl,_,C,_⟩
    ·simp[Value.ownBlock] at R
    ·have B:p=b:=by simpa [Value.ownBlock] using R
     subst B;rw[cell_of_row w p _ l _ (0,0) C,<-Array.getElem?_toList] at Z;exact absurd rfl (hN p R l _ _ C _ (dG Z) _ _)
   ·exact(World.cell?_of_block (S.block b af (fun e'=>R e'.symm))).trans Z
 have al:DD w' E:=by
  have ad:∀(X:List Value) (q m:Nat),(∀y∈X,NoInt y)->DD (w.drew.alloc (.cells (X.toArray++r.toArray++Builtin.zeroCells z.cells m) e)) (.slice (some ⟨w.1.size,0,none⟩) (rows.length+1) q):=fun X q m hv p J l t f L=>by
   simp[Value.ownBlock] at J;subst J;have:=heap_alloc_new w.drew (.cells (X.toArray++r.toArray++Builtin.zeroCells z.cells m) e);have h5:=this.symm.trans L;simp only[Option.some.injEq,Obj.cells.injEq] at h5;rw[<-h5.1];intro y d;rw[bx5,bx5] at d;rcases List.mem_append.1 d with d|d
   ·rcases List.mem_append.1 d with d|d
    ·exact hv y d
    ·exact(U y d).1
   ·exact hz m y (Array.mem_toList_iff.1 d)
  rcases F.2 with ⟨rfl,K⟩|⟨p,q,l,rfl,ay,C,ao,az,hs,a0⟩
  ·have s:=run_append_nil (P:=prog) w t N e i z W hi ab ⟨g,0,none⟩ 1 c r (by rw[I,H,aqD]) T (by decide) (by decide) (by rw[ac];omega);rw[V] at s;injection s with e1 B;subst e1 B;have:=ad [] (grownCap w 1 0 e) (grownCap w 1 0 e-1) (fun _ h=>by cases h);rw[K] at this;simpa using this
  ·have Y:∀y∈l.toList,NoInt y:=hN p rfl l _ _ C;by_cases ag:rows.length+1<=q
   ·have s:=run_append_room (P:=prog) w t N e i W hi p rows.length q l C ⟨g,0,none⟩ 1 c r (by rw[I,H,aqD]) T (fun u M=>(U u M).2) ag (by
     rw[I,hs,H];have:=dK k ag;rw[aqA,aqD] at this;exact this)
    rw[V] at s;injection s with e1 B;subst e1 B;intro g3 J ax t f L;simp[Value.ownBlock] at J;subst J;have h7:=(setRow_heap w p l _ e _ C).symm.trans L;simp only[Option.some.injEq,Obj.cells.injEq] at h7;rw[<-h7.1];intro y d;have au:y∈l.toList.take (rows.length*i.size)++r++l.toList.drop (rows.length*i.size+r.length):=d;rcases List.mem_append.1 au with d|d
    ·rcases List.mem_append.1 d with d|d
     ·exact Y y (lH d)
     ·exact(U y d).1
    ·exact Y y (bxD d)
   ·have aq:∀j y,(l.toList.take (rows.length*k))[j]? =some y->w.cell? ((⟨p,0,none⟩:Addr).add j)=some y:=fun j y G=>by
     have F:w.cell? ⟨p,j,none⟩=some y:=by
      rw[cell_of_row w p j l _ (0,0) C,<-Array.getElem?_toList];rw[fC] at G;split at G
      ·exact G
      ·cases G
     unfold Addr.add;split
     ·rename_i K;subst K;exact F
     ·simpa using F
    have an:(l.toList.take (rows.length*k)).length=rows.length*i.size:=by
     have aj:l.toList.length=q*k:=hs;rw[I,bK,aj];exact y8 (dK _ ao)
    have s:=run_append_grow (P:=prog) w t N e i z W hi ab ⟨p,0,none⟩ rows.length q (l.toList.take (rows.length*k)) an aq ⟨g,0,none⟩ 1 c r (by rw[I,H,aqD]) T (by omega) (by omega) (growslice_fits (by omega) (by rw[ac];exact ae));rw[V] at s;injection s with e1 B;subst e1 B;have:=ad (l.toList.take (rows.length*k)) (grownCap w (rows.length+1) q e) (grownCap w (rows.length+1) q e-(rows.length+1)) (fun y d=>Y y (lH d));simpa using this
 refine⟨E,w',V,⟨?_,fun x D=> ?_,al⟩,am,S,ah⟩
 ·rw[bN,byL];simpa using ho
 ·rcases List.mem_append.1 D with D|D
  ·exact h3 x D
  ·rw[List.mem_singleton.1 D];exact H
section
variable {ops:Array Oper}{rest:List Oper}{o:Oper}{a:Act}{Q:Exit->Act->World->Prop}{w:World}
def yE(D:o.guard=none){s x:Operand}(H:o.op= .call { callee:= .builtin .append,args:= #[s,x],argTypes:= #[t,t] })(e:TypeId)(k d:Nat)(z:Value)(M:Tryz.prog.underlying t=some (.slice e))(hi:(Tryz.prog.info? e).map (fun i=>(i.zero,i.size,i.bytes))=some (some z,k,d))(P:z.cells.size=k)(O:∀n,∀y∈Builtin.zeroCells z.cells n,NoInt y)(E:0<k)(C:d<=1024)
  {base:Nat}{rows:List (List Value)}(L:a.eval s=v)(q:GrowD w base e k v rows){g c:Nat}(N:a.eval x= .slice (some ⟨g,0,none⟩) 1 c)(p:Bx w g r R)(I:r.length=k)(G:∀u∈r,NoInt u∧u.oneCell'=true)(F:rows.length<=1073741824)(B:base<=w.1.size)
  (h:∀b w',GrowD w' base e k b (rows++[r])->Keep w w'->w.grownBy w' v.ownBlock->(b.ownBlock=v.ownBlock∨b.ownBlock=some w.1.size)->wpList prog ops Q rest (a.put o.dst b) w'):
  wpList prog ops Q (o :: rest) a w:=by
 obtain⟨b,w',J,f,j,l,m⟩:=LA w t o.type e k d z M hi P O E C q p I G F B (c:=c);refine wpList_plain D fun K A=> ?_;unfold Oper.wp execOp;simp only[H,resolve,invoke,builtin,Sem.run_bind,Sem.run_pure,Result.andThen_ok,bxC,fM,aqJ,L,N,J];exact A _ _ (h b w' f j l m)
def LB{K:Act->World->Prop}{E:Prop}(C:o.guard=none){s x:Operand}(H:o.op= .call { callee:= .builtin .append,args:= #[s,x],argTypes:= #[t,t] })(e:TypeId)(k d:Nat)(z:Value)(M:Tryz.prog.underlying t=some (.slice e))(hi:(Tryz.prog.info? e).map (fun i=>(i.zero,i.size,i.bytes))=some (some z,k,d))(R:z.cells.size=k)(P:∀n,∀y∈Builtin.zeroCells z.cells n,NoInt y)(D:0<k)(B:d<=1024)
  {base:Nat}{rows:List (List Value)}(L:a.eval s=v)(q:GrowD w base e k v rows){g c:Nat}(O:a.eval x= .slice (some ⟨g,0,none⟩) 1 c)(p:Bx w g r S)(I:r.length=k)(G:∀u∈r,NoInt u∧u.oneCell'=true)(F:rows.length<=1073741824)(A:base<=w.1.size)
  (h:∀b w',GrowD w' base e k b (rows++[r])->Keep w w'->w.grownBy w' v.ownBlock->(b.ownBlock=v.ownBlock∨b.ownBlock=some w.1.size)->K (a.put o.dst b) w'):if Region.wanted o (yielded ops a.tmps)=true then Oper.wp prog o a w K Q else E:=by
 have N:Region.wanted o (yielded ops a.tmps)=true:=by simp[Region.wanted,C]
 rw[if_pos N];obtain⟨b,w',J,f,j,l,m⟩:=LA w t o.type e k d z M hi R P D B q p I G F A (c:=c);unfold Oper.wp execOp;simp only[H,resolve,invoke,builtin,Sem.run_bind,Sem.run_pure,Result.andThen_ok,bxC,fM,aqJ,L,O,J];exact h b w' f j l m
end
def GrowD.left{base:Nat}{rows:List (List Value)}(h:GrowD w base e k v rows)(b:w.grownBy w' v.ownBlock)(c:base<=w.1.size):Below base w w':=⟨b.os,b.tape,b.output,b.size,fun k d=>b.block k (by omega) (fun e=>by have:=(h.lt k e.symm).1;omega)⟩
