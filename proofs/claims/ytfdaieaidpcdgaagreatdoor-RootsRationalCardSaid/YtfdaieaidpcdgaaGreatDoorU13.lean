/- Laws. -/
import Derived.Test.YtfdaieaidpcdgaaGreatDoorU10
import Derived.Test.YtfdaieaidpcdgaaGreatDoorU11
import Derived.Test.YtfdaieaidpcdgaaGreatDoorU12
set_option linter.all false
set_option maxHeartbeats 8000000
set_option maxRecDepth 99999
namespace Go.Proofs.YtfdaieaidpcdgaaGreatDoor
open Go.RowKit Sos Tryz
def VF(q:Rat):q=(q.num:Rat)/(q.den:Rat):=by
 conv=>lhs;rw[<-byC q,Rat.mkRat_eq_div]
def VG(q:Rat):(q.den:Rat)≠0:=fun e=>q.den_nz (by exact_mod_cast e)
def xI(q:Rat)(D:Int)(h:(q.den:Int)∣D):((q.num*D.tdiv (q.den:Int):Int):Rat)=q*D:=by
 obtain⟨t,rfl⟩:=h;have a:(q.den:Int)≠0:=by have:=q.den_nz;omega
 rw[Int.mul_tdiv_cancel_left _ a,eJ,eJ,aq3];have b:=VF q;have c:=VG q;generalize (q.num:Rat)=n at *;generalize (q.den:Rat)=d at *;rw[b];grind
def VH(q:Rat)(D:Int)(h:q.den=1):((q.num*D:Int):Rat)=q*D:=by
 rw[eJ];congr 1;exact Rat.ext rfl h.symm
def VI(w:World)(q:Rat)(D:Int)(B:Nat)(e:Ending)(w':World):Prop:=∃v n,e= .returned v∧IntAt w' v n∧(n:Rat)=q*D∧nl n.natAbs<=B∧Below w.1.size w w'
def VJ(q:Rat)(D:Int)(v u:Value)(w:World)(J:RatAt w v q)(g:IntAt w u D)(af:(q.den:Int)∣D)(K H:Nat)(hK:RL K q)(Y:nl D.natAbs<=H)(ad:5*K+H+8<=aJ):
  Calls prog 139 #[v,u] w (VI w q D (K+H)):=by
 unfold aJ at ad;obtain⟨s,A,k,c,s',M,k',Q,rfl⟩:=J.form;obtain⟨sD,P,kD,U,rfl⟩:=g.form;obtain⟨X,ai⟩:=hK;have aj:=mY q;obtain⟨W,V,d,a,b,R⟩:=gE w [.bool s,.slice A k c,.bool s',.slice M k' Q] 48 [.bool sD,.slice P kD U] 42 [.bool false,.slice none 0 0] 42;have l:=aa a.g4 (aa b.g2 R.g2);go_enter func139,ntmps139;go_wp2_with fail;(try rw[V]);clear V;have hn:=(J.be d).num;have j:=(J.be d).den;replace g:=g.be d;refine(g9 _ _ _ j (by omega)).mono ?_;rintro e1 w1 ⟨rfl,y⟩;replace a:=a.be y;replace b:=b.be y;replace R:=R.be y;replace l:=aa a.k4 (aa b.k2 R.g2);replace f:=Keep.be y;replace hn:=hn.ke f;replace j:=j.ke f;replace g:=g.ke f;replace d:=aC d y;by_cases h:bS q=0
 ·have C:decide (bS q=0)=true:=by simpa using h
  rw[C];have p:=VH q D (fV.1 h);have I:=gT q.num D _ _ X Y;have m:=fun W v u h i=>jB q.num D v u W h i (by omega);unfold dW at m;generalize q.num*D=n at *;have G:=aB p;clear C h p;go_wp2_with fail;refine(m _ _ _ hn g).mono ?_;rintro e2 w2 ⟨v2,rfl,i,F⟩;obtain⟨s2,N,k2,S,rfl⟩:=i.form;replace a:=a.be F;replace b:=b.be F;replace R:=R.be F;replace l:=aa a.k4 (aa b.k2 R.g2);replace d:=aC d F;clear m;go_wp2_with fail;obtain⟨W6,r,R,d,f,x⟩:=R.put2 d (by omega) (.bool s2) (.slice N k2 S) rfl rfl;replace a:=x a;replace b:=x b;replace i:=i.ke f;rw[r];clear r;replace l:=aa a.k4 (aa b.k2 R.k2);exact aM (v:= .agg #[.bool s2,.slice N k2 S]) (by simp[results,results139,go_sem,R.k2]) rfl ⟨_,n,rfl,i,G.out,I,d⟩
 ·have C:decide (bS q=0)=false:=by simpa using h
  have Z:bS q=q.den:=mI (fun e=>h (fV.2 e));rw[C];have p:=xI q D af;rw[<-Z] at p;have ae:=jN D (bS q) _ Y;have I:=gT q.num (D.tdiv (bS q)) _ _ X ae;have L:=fun W v u ac i=>mZ D (bS q) v u W ac i h (by omega);have m:=fun W v u h i=>jB q.num (D.tdiv (bS q)) v u W h i (by omega);unfold dW at m L;generalize q.num*D.tdiv (bS q)=n at *;generalize D.tdiv (bS q)=t at *;have G:=aB p;clear C h p Z;go_wp2_with fail;replace hn:=hn.drew;replace j:=j.drew;replace g:=g.drew;replace a:=a.drew;replace b:=b.drew;replace R:=R.drew;replace d:=d.drew;replace l:=aa a.k4 (aa b.k2 R.g2);have ag:w.1.size+1+1≠w.1.size:=by omega
  have ah:w.1.size+1+1≠w.1.size+1:=by omega
  go_region_held3 (fun w'=>C4 w' w.1.size (.bool s) (.slice A k c) (.bool s') (.slice M k' Q)∧C2 w' (w.1.size+1) (.bool sD) (.slice P kD U))
   (first|(with_reducible exact⟨a.k4,b.k2⟩)|(refine⟨?_,?_⟩<;>(repeat (first|with_reducible exact a.k4|with_reducible exact b.k2|with_reducible refine kK ag ?_|with_reducible refine fQ ah ?_))))
   (first
    |(go_at_call 44;refine(L _ _ _ g j).mono ?_;rintro e4 w4 ⟨v4,rfl,E,z⟩;obtain⟨s4,A4,k4,c4,rfl⟩:=E.form;replace a:=a.be z;replace b:=b.be z;replace R:=R.be z;replace l:=aa a.k4 (aa b.k2 R.g2);replace f:=Keep.be z;replace hn:=hn.ke f;replace j:=j.ke f;replace g:=g.ke f;(try replace o:=o.ke f);replace d:=aC d z)
    |(go_at_call 58;refine(m _ _ _ hn E).mono ?_;rintro e5 w5 ⟨v5,rfl,o,B⟩;obtain⟨s5,O,k5,T,rfl⟩:=o.form;replace a:=a.be B;replace b:=b.be B;replace R:=R.be B;replace l:=aa a.k4 (aa b.k2 R.g2);replace f:=Keep.be B;replace hn:=hn.ke f;replace j:=j.ke f;replace g:=g.ke f;(try replace E:=E.ke f);replace d:=aC d B))
  clear L m;go_wp2_with fail;obtain⟨W6,r,R,d,f,x⟩:=R.put2 d (by omega) (.bool s5) (.slice O k5 T) rfl rfl;replace a:=x a;replace b:=x b;replace o:=o.ke f;rw[r];clear r;replace l:=aa a.k4 (aa b.k2 R.k2);exact aM (v:= .agg #[.bool s5,.slice O k5 T]) (by simp[results,results139,go_sem,R.k2]) rfl ⟨_,n,rfl,o,G.out,I,d⟩
def tT(ns:List Int)(d:Int):List Rat:=ns.map (fun n:Int=>(n:Rat)/(d:Rat))
def CA(n d:Int)(K:Nat)(hn:nl n.natAbs<=K)(b:nl d.natAbs<=K)(a:1<=K):RL K ((n:Rat)/d):=by
 rw[<-Rat.divInt_eq_div];unfold RL;rw[Rat.num_divInt,Rat.den_divInt];constructor
 ·refine aH (cK ?_) hn;rw[Int.natAbs_ediv_of_dvd]
  ·refine aH (azK _ _) ?_;rw[fL];have:d.sign.natAbs<=1:=by
    rcases aqL d 0 with h|h|h
    ·rw[aqT h];decide
    ·rw[h];decide
    ·rw[aqI h];decide
   calc d.sign.natAbs*n.natAbs<=1*n.natAbs:=dK _ this
    _=n.natAbs:=aqD _
  ·exact bxJ (Int.gcd_dvd_right ..)
 ·split
  ·rw[mJ (by decide) (by decide)];exact a
  ·exact aH (cK (azK _ _)) b
end Go.Proofs.YtfdaieaidpcdgaaGreatDoor
namespace Go.Proofs.YtfdaieaidpcdgaaGreatDoor
open Sos Lib
variable{s t:List UInt8}
def gI(s:List UInt8):List UInt8:=if s.head?==some 45 then s.tail else s
def WI(s:List UInt8):(gI s).length<=s.length:=by unfold gI;split<;>simp
structure CutN(t:List UInt8)(k:Nat):Prop where
 le:k<=t.length
 head:t.takeWhile cyH=t.take k
 rest:t.dropWhile cyH=t.drop k
def CutN.stop{k:Nat}(h:∀c∈t.take k,cyH c=true)(b:k<=t.length)(a:t.length<=k∨∃c,t[k]? =some c∧cyH c=false):CutN t k:=
 ⟨b,(wV h a).1,(wV h a).2⟩
structure Found(s:List UInt8)(q:Rat):Prop where
 ok:rd s=decide (cW q=s)
 val:∀r,bD s=some r->q=r
def WJ{q:Rat}(h:lU s=some q):Found s q:=by
 refine⟨?_,fun r b=> ?_⟩
 ·unfold rd;by_cases e:cW q=s
  ·rw[(xQ s).2 q h e,decide_eq_true e];rfl
  ·rw[decide_eq_false e];cases b:bD s with
   |none=>rfl
   |some r=>
    obtain⟨a,c⟩:=(xQ s).1 r b;rw[h] at a;injection a with a;exact absurd (by rw[a];exact c) e
 ·have:=((xQ s).1 r b).1;rw[h] at this;injection this
def CH(h:lU s=none):rd s=false∧∀q r:Rat,bD s=some r->q=r:=by
 have e:bD s=none:=by
  cases a:bD s with
  |none=>rfl
  |some r=>rw[((xQ s).1 r a).1] at h;cases h
 exact⟨by unfold rd;rw[e];rfl,fun q r a=>by rw[e] at a;cases a⟩
section
variable {s:List UInt8}{k:Nat}(h:CutN (gI s) k)
include h
def WK(hn:¬((gI s).take k≠[]∧((gI s).take k).all bO=true)):lU s=none:=by
 unfold lU;simp only[];rw[show(if (s.head?==some 45)=true then s.tail else s)=gI s from rfl,h.head,if_neg hn]
def WL(hn:(gI s).take k≠[]∧((gI s).take k).all bO=true)(a:k=(gI s).length):lU s=some ((fO (s.head?==some 45) (aO ((gI s).take k)):Int):Rat):=by
 unfold lU;simp only[];rw[show(if (s.head?==some 45)=true then s.tail else s)=gI s from rfl,h.head,h.rest,if_pos hn,a,azY]
def WM(hn:(gI s).take k≠[]∧((gI s).take k).all bO=true)(a:k<(gI s).length):
  lU s=if (gI s).drop (k+1)≠[]∧((gI s).drop (k+1)).all bO=true∧aO ((gI s).drop (k+1))≠0 then some (((fO (s.head?==some 45) (aO ((gI s).take k)):Int):Rat)/((aO ((gI s).drop (k+1)):Int):Rat)) else none:=by
 unfold lU;simp only[];rw[show(if (s.head?==some 45)=true then s.tail else s)=gI s from rfl,h.head,h.rest,if_pos hn,j5 a]
end
end Go.Proofs.YtfdaieaidpcdgaaGreatDoor
namespace Go.Proofs.YtfdaieaidpcdgaaGreatDoor
open Go.RowKit Sos Tryz
variable{b c:List Rat}{D:Int}
def cC(a:List Rat)(D:Int):List Int:=a.map (fun q=>q.num*D.tdiv (q.den:Int))
def JC(a:List Rat)(D:Int)(h:∀q∈a,(q.den:Int)∣D)(i:Nat):((cf (cC a D) i:Int):Rat)=cf a i*D:=by
 unfold cC cf;rw[eE,eE,iK];cases hq:a[i]? with
 |none=>
  show((0:Int):Rat)=0*(D:Rat)
  rw[aq4];grind
 |some q=>exact xI q D (h q (dG hq))
def sA(a:List Rat)(D:Int)(K B:Nat)(c:∀q∈a,RL K q)(b:nl D.natAbs<=B):∀n∈cC a D,nl n.natAbs<=K+B:=by
 intro n hn;unfold cC at hn;obtain⟨q,d,rfl⟩:=List.mem_map.1 hn;exact gT _ _ _ _ (c q d).1 (jN _ _ _ b)
def VE(w:World)(a:List Rat)(B:Nat)(e:Ending)(w':World):Prop:=
 ∃b n c d D,e= .returned (.tuple #[.slice (some ⟨b,0,none⟩) n c,d])∧w.1.size<=b∧WholeAt w' (.slice (some ⟨b,0,none⟩) n c) (aW aV (cC a D))∧IntAt w' d D∧ComDen a D B∧Below w.1.size w w'
def JD(a:List Rat)(v:Value)(w:World)(hG:Glob w)(hv:RatsAt w v a)(K U:Nat)(hK:∀q∈a,RL K q)(hl:a.length<=1073741824)(a5:1+a.length*K<=U)(a6:K<=U)(a7:6*U+8<=aJ):
  Calls prog 92 #[v] w (VE w a (1+a.length*K)):=by
 obtain⟨A,c,rfl,hc⟩:=hv.form;have R:Bx (w.alloc (.cells #[.bool false,.slice none 0 0] 42)) (w.1.size) [.bool false,.slice none 0 0] 42:=Bx.newAt w [.bool false,.slice none 0 0] 42 (w.1.size) (by simp);have f:Below w.1.size w (w.alloc (.cells #[.bool false,.slice none 0 0] 42)):=(aG _ _).alloc (by simp) _;go_enter func92,ntmps92;go_wp2_with fail;generalize w.alloc (.cells #[.bool false,.slice none 0 0] 42)=W at *;refine(VM a _ _ (hG.be f) (hv.be f) K U hK hl a5 a6 (by omega)).mono ?_;rintro e1 g ⟨v1,D,rfl,h1,ai,ah⟩;obtain⟨s1,A1,k1,c1,rfl⟩:=h1.form;replace R:=R.be ah;replace V:=R.cell 0 rfl;replace af:=R.free 0;replace Y:=R.cell 1 rfl;replace ag:=R.free 1;replace hk:=Keep.be ah;replace f:=aC f ah;have am:=ai.nl_;have az:(cC a D).length=a.length:=cH _;have I:=aB az;have bb:=sA a D K _ hK am;clear az;go_wp2_with (at_make;refine jT rfl rfl 42 _ 2 32 underlying39 p6 rfl (by decide) a.length rfl rfl rfl rfl (by omega) (by omega) ?_;intro w2 bc aw p);have R0:OwnW w2 (g.1.size+1) (List.replicate a.length 0):=by
  have:=OwnW.made aw;rw[World.size_alloc] at this;exact this
 have br:=R.lt;have ac:Below g.1.size g w2:=((aG _ _).alloc aE _).trans (p.mono (by simp));have al:IntBx w2 g.1.size D:=⟨_,_,_,_,(Bx.new g [.bool s1,.slice A1 k1 c1] 42).be p,h1.be ac⟩;have an:=R.be ac;have ao:=aC f ac;clear aw bc p ac R h1 f V Y af ag hk;go_loopg [15] a.length (fun k i wr=>∃j,Hid (j+k=a.length)∧i= .int .i64 j∧OwnW wr (g.1.size+1) ((cC a D).take j++List.replicate k 0)∧IntBx wr g.1.size D∧Bx wr w.1.size [.bool false,.slice none 0 0] 42∧Below w.1.size w wr)
 case atStart=>exact⟨0,by unfold Hid;omega,rfl,by simpa using R0,al,an,ao⟩
 case round=>
  clear R0 al an ao;obtain⟨j,H,rfl,N,Z,R,f⟩:=hrel;generalize wr=F at *;have bp:(0:Int)<=(j:Int):=by omega
  obtain⟨P,J,O,L,C,o⟩:=id Z;cases gk with
  |zero=>
   have hj:j=a.length:=H.out;subst hj;rw[aq8,fH,cZ (by rw[I.out];exact aE)] at N;have hw:=N.whole a.length (by rw[I.out];exact aE);have aj:=fun W h=>sP (cC a D) (some ⟨g.1.size+1,0,none⟩) a.length W h (K+(1+a.length*K)) bb (by unfold aJ at a7;omega) (by rw[I.out];omega);rw[I.out] at aj hw;replace hw:=hw.drew;replace Z:=Z.be (aG _ _).drew;go_wp2_with fail;replace R:=R.drew;replace C:=C.drew;replace o:=o.drew;replace f:=f.drew;have ae:w.1.size≠g.1.size:=by omega
   replace V:=R.cell 0 rfl;replace af:=R.free 0;replace Y:=R.cell 1 rfl;replace ag:=R.free 1;replace Q:=C.cell 0 rfl;replace bf:=C.free 0;replace S:=C.cell 1 rfl;replace bg:=C.free 1;obtain⟨T,HT⟩:∃T,Hid (aW aV (cC a D)=T):=⟨_,rfl⟩;rw[HT.out] at aj
   go_region_held3 (fun w'=>w'.cell? ⟨g.1.size,0,none⟩=some (.bool P)∧w'.cell? ⟨g.1.size,1,none⟩=some (.slice J O L))
    (first|(with_reducible exact⟨Q,S⟩)|(with_reducible exact⟨(aL _ _ _ _ _ _ ae).trans ((aL _ _ _ _ _ _ ae).trans Q),(aL _ _ _ _ _ _ ae).trans ((aL _ _ _ _ _ _ ae).trans S)⟩))
    (first
     |(go_at_call 96;refine(aj _ hw).mono ?_;rintro e6 w6 ⟨rfl,h6,ad⟩;replace o:=o.be ad;replace R:=R.be ad;replace C:=C.be ad;replace Q:=C.cell 0 rfl;replace S:=C.cell 1 rfl;replace V:=R.cell 0 rfl;replace Y:=R.cell 1 rfl;replace af:=R.free 0;replace ag:=R.free 1;replace f:=aC f ad))
   go_wp2_with fail;obtain⟨-,x⟩:=IntBx.stored (w:=w6) (b:=w.1.size) (m:=0) ⟨_,_,_,_,R,IntAt.zero _⟩ o;have z6:=h6.step x (fun b e=>by injection e with e;injection e with e;omega);have zm:=o.ke x.1;have zb:=jD f x aE;obtain⟨z0,z1, -, -, -⟩:=jU (s:=P) (u:= .slice J O L) f aE R;clear x;generalize (w6.setCell ⟨w.1.size,0,none⟩ (.bool P)).setCell ⟨w.1.size,1,none⟩ (.slice J O L)=W6 at *;exact aM (v:= .tuple #[.slice (some ⟨g.1.size+1,0,none⟩) T.length a.length,.agg #[.bool P,.slice J O L]]) (by simp[results,results92,go_sem,z0,z1]) rfl ⟨_,_,_,_,D,rfl,by omega,by rw[HT.out];exact z6,zm,ai,zb⟩
  |succ k=>
   obtain⟨q,M⟩:∃q,a[j]? =some q:=⟨_,aR (by have:=H.out;omega)⟩;obtain⟨b,s,B,m,d,E,r,G,t,rfl,bo,g0,g1,g2,g3,hi⟩:=(hv.be f).at_ M;have a8:=hK q (dG M);have ap:=ai.dvd q (dG M);have bq:(j:Int)<(a.length:Int):=by have:=H.out;omega
   have ay:(cC a D)[j]? =some (q.num*D.tdiv (q.den:Int)):=by unfold cC;rw[iK,M];rfl
   have aq:=rI (ys:=cC a D) (z:=(0:Int)) (j:=j) (k:=k+1) (by rw[I.out];exact H.out);have ar:=rH (z:=(0:Int)) (k:=k) ay;have au:j<((cC a D).take j++List.replicate (k+1) 0).length:=by rw[aq,I.out];have:=H.out;omega
   have ax:∀n:Int,(n:Rat)=q*D->n=q.num*D.tdiv (q.den:Int):=fun n h=>Rat.intCast_inj.1 (h.trans (xI q D ap).symm);have ak:=aB ax;have a4:=aB ar;clear ay aq ar M ax;have a0:∀l:Obj,(F.alloc l).cell? ⟨g.1.size,0,none⟩=some (.bool P):=fun l=>(C.alloc l).cell 0 rfl;have a2:∀l:Obj,(F.alloc l).frozen? ⟨g.1.size,0,none⟩=false:=fun l=>(C.alloc l).free 0;have a1:∀l:Obj,(F.alloc l).cell? ⟨g.1.size,1,none⟩=some (.slice J O L):=fun l=>(C.alloc l).cell 1 rfl;have a3:∀l:Obj,(F.alloc l).frozen? ⟨g.1.size,1,none⟩=false:=fun l=>(C.alloc l).free 1;go_wp2_with fail;replace N:=N.alloc (.cells #[.bool s,.slice B m d,.bool E,.slice r G t] 48);have bh:=C.lt;have bi:=R.lt;have bs:=f.size;replace C:=C.alloc (.cells #[.bool s,.slice B m d,.bool E,.slice r G t] 48);replace R:=R.alloc (.cells #[.bool s,.slice B m d,.bool E,.slice r G t] 48);have X:=Bx.newAt F [.bool s,.slice B m d,.bool E,.slice r G t] 48 (F.1.size) (by simp);replace f:=f.alloc f.size (.cells #[.bool s,.slice B m d,.bool E,.slice r G t] 48);replace hk:=Keep.alloc F (.cells #[.bool s,.slice B m d,.bool E,.slice r G t] 48);replace hi:=hi.ke hk;replace o:=o.ke hk;generalize F.alloc (.cells #[.bool s,.slice B m d,.bool E,.slice r G t] 48)=wa at *;replace Q:=C.cell 0 rfl;replace S:=C.cell 1 rfl;replace V:=R.cell 0 rfl;replace Y:=R.cell 1 rfl;replace bj:=X.cell 0 rfl;replace bk:=X.cell 1 rfl;replace bm:=X.cell 2 rfl;replace bn:=X.cell 3 rfl;clear a0 a1 a2 a3 g0 g1 g2 g3 Z;refine(VJ q D _ _ _ hi o ap K (1+a.length*K) a8 am (by omega)).mono ?_;rintro e2 bt ⟨v2,n,rfl,h2,av, -,p⟩;have ba:=ak.out n av;subst ba;clear av ak;obtain⟨s2,A2,k2,c2,rfl⟩:=h2.form;replace N:=N.be p;replace C:=C.be p;replace R:=R.be p;replace o:=o.be p;replace f:=aC f p;obtain⟨E,r,l',t,q0,q1, -⟩:=N.at_ (aR au);have f0:=N.free (j*2);have f1:=N.free (j*2+1);generalize q.num*D.tdiv (q.den:Int)=y at *;go_wp2_with fail;obtain⟨hp,x⟩:=N.stored au h2;rw[a4.out] at hp;have zC:=IntBx.step ⟨_,_,_,_,C,o⟩ x (by omega);have zR:Bx _ w.1.size [.bool false,.slice none 0 0] 42:=(x.2.1 w.1.size (by omega)).trans R;have a9:=jD f x (by omega);go_roundg k
   case rel=>exact⟨j+1,by have:=H.out;unfold Hid;omega,by go_num,hp,zC,zR,a9⟩
   case measure=>omega
def vl(a:List (List UInt8)):Bool:=decide (a.length<=65∧a.all rd=true∧(aU a).getLast?≠some 0)
def JB(b:List Rat):aN b↔b.getLast?≠some 0:=⟨fun h e=>h 0 e rfl,fun h a c e=>h (by rw[c,e])⟩
def pJ{a:List (List UInt8)}(h:vl a=true):a.length<=65∧a.all rd=true∧aN (aU a):=by
 unfold vl at h;rw[iQ] at h;exact⟨h.1,h.2.1,(JB _).2 h.2.2⟩
def oO(j:0<D)(i:∀q∈c,(q.den:Int)∣D)(h:aN c):aN (cC c D):=by
 intro a b e;unfold cC at b;rw[List.getLast?_map] at b;cases hq:c.getLast? with
 |none=>rw[hq] at b;simp at b
 |some q=>
  rw[hq] at b;simp only[bzX,Option.some.injEq] at b;have f:=xI q D (i q (List.mem_of_getLast? hq));rw[b,e,aq4] at f;have g:(D:Rat)≠0:=fun e=>(show D≠0 by omega) (Rat.intCast_inj.1 e);rcases Rat.mul_eq_zero.1 f.symm with d|d
  ·exact h q hq d
  ·exact g d
def VA(n c:Nat)(A:Option Addr)(w:World)(hn:n<=1073741824):Calls prog 89 #[.slice A n c] w fun e w'=>e= .returned (.bool (decide (n<=65)))∧w'=w:=by
 by_cases h:n<=65
 ·have b:(n:Int)<=65:=by omega
  have a:decide (n<=65)=true:=by simpa using h
  rw[a];go_enter func89,ntmps89;go_wp2;go_ret;exact⟨rfl,rfl⟩
 ·have b:¬(n:Int)<=65:=by omega
  have a:decide (n<=65)=false:=by simpa using h
  rw[a];go_enter func89,ntmps89;go_wp2;go_ret;exact⟨rfl,rfl⟩
def ComDen.mono{B a:Nat}(h:ComDen b D B)(c:B<=a):ComDen b D a:=⟨h.pos,h.dvd,aH h.nl_ c⟩
def VB(w:World)(a:List (List UInt8))(B:Nat)(e:Ending)(w':World):Prop:=
 ∃v c b D,e= .returned (.tuple #[v,c,.bool (vl a)])∧WholeAt w' v b∧IntAt w' c D∧(vl a=true->b=cC (aU a) D∧ComDen (aU a) D B)∧Below w.1.size w w'
def VD(i:List (List UInt8))(v:Value)(w:World)(hG:Glob w)(hv:StrsAt w v i)(hl:i.length<=1073741824)(a8:i.length<=65->∀l∈i,l.length<=1073741824)(K KB L:Nat)(hK:i.length<=65->∀q∈aU i,RL K q)(hL:i.length<=65->i.length<=L)(a4:1<=L)(bb:1+L*K<=KB)(al:6*KB+8<=aJ):
  Calls prog 35 #[v] w (VB w i (1+L*K)):=by
 have bc:K<=L*K:=byT K a4;obtain⟨A,c,rfl,hc⟩:=hv.form;obtain⟨W,eW,f,R⟩:=bI w [.bool false,.slice none 0 0] 42;have u:=R.g2;go_enter func35,ntmps35;go_wp2_with fail;(try rw[eW]);clear eW;refine(lL 1 _ (by decide) (by decide)).mono ?_;rintro e1 w1 ⟨v1,rfl,n,au⟩;obtain⟨Z,J,V,P,rfl⟩:=n.form;replace R:=R.be au;replace u:=R.g2;replace f:=aC f au;go_wp2_with fail;have N:=R.lt;have T:=f.size;obtain⟨w2,ar,p,O⟩:=bI w1 [.bool Z,.slice J V P] 42;replace R:=R.be p;replace k:=Keep.be p;replace f:=aC f p;replace n:=n.ke k;rw[ar];clear ar;replace u:=aa R.g2 O.g2;refine(VA i.length c A _ hl).mono ?_;rintro e3 w3 ⟨rfl,rfl⟩;by_cases H:i.length<=65
 ·have z:decide (i.length<=65)=true:=by simpa using H
  rw[z];clear z;go_wp2_with fail;refine(T0 i _ _ (hG.be f) (hv.be f) hl (a8 H)).mono ?_;rintro e4 w4 ⟨v4,rfl,h4,ai⟩;replace R:=R.be ai;replace O:=O.be ai;replace u:=aa R.g2 O.g2;replace k:=Keep.be ai;replace n:=n.ke k;replace f:=aC f ai;cases hall:i.all rd with
  |false=>
   have t:vl i=false:=by unfold vl;rw[jA];exact fun h=>by rw[hall] at h;exact absurd h.2.1 (by simp)
   have G:=aB t;clear t h4;go_wp2_with fail;go_region
   all_goals (
    go_wp2_with fail;have N:=R.lt;have ad:=O.lt;have T:=f.size;obtain⟨W6,o,R,f,k,x⟩:=R.put2 f (by omega) (.bool Z) (.slice J V P) rfl rfl;replace O:=x O;replace n:=n.ke k;rw[o];clear o;replace u:=aa R.k2 O.k2;exact aM (v:= .tuple #[.slice none 0 0,.agg #[.bool Z,.slice J V P],.bool false]) (by simp[results,results35,go_sem,R.k2]) rfl ⟨_,_,[],1,by rw[G.out],WholeAt.nil _ _ _,n.drew,(fun h=>by rw[G.out] at h;cases h),f.drew⟩)
  |true=>
   have I:=h4 hall;obtain⟨A4,c4,rfl,bh⟩:=I.form;have a9:(aU i).length=i.length:=cH _;have ap:=aB hall;have ak:=hK H;clear h4 hall;generalize av:aU i=j at *;have ac:=aB av;have bi:j.length<=65:=by omega
   have aj:j.length<=L:=by have:=hL H;omega
   clear av a9;by_cases h0:j.length=0
   ·have an:j=[]:=bX h0;have ah:aN j:=fun a h=>by rw[an] at h;simp at h
    have t:vl i=true:=by unfold vl;rw[iQ,ac.out,ap.out,an];exact⟨H,rfl,by simp⟩
    have a3:¬(0:Int)<(j.length:Int):=by omega
    clear an h0;go_wp2_with fail;refine(JD j _ _ (hG.be f) I K KB ak (by omega) (by have:j.length*K<=L*K:=dK _ aj;omega) (by omega) al).mono ?_;rintro S C ⟨b5,n5,c5,ba,D,rfl,a6,y,r,F,E⟩;rw[qB (oO F.pos F.dvd ah)] at y;obtain⟨A5,c9,S,a7⟩:=y.form;simp only[Value.slice.injEq] at S;obtain⟨-,rfl, -⟩:=S;have a5:=R.lt;obtain⟨s6,M,Y,Q,rfl⟩:=r.form;replace R:=R.be E;replace O:=O.be E;replace u:=aa R.g2 O.g2;replace k:=Keep.be E;replace n:=n.ke k;replace f:=aC f E;have ay:∀g:Obj,(C.alloc g).cell? ⟨w.1.size,0,none⟩=some (.bool false):=fun g=>(R.alloc g).cell 0 rfl;have a0:∀g:Obj,(C.alloc g).frozen? ⟨w.1.size,0,none⟩=false:=fun g=>(R.alloc g).free 0;have az:∀g:Obj,(C.alloc g).cell? ⟨w.1.size,1,none⟩=some (.slice none 0 0):=fun g=>(R.alloc g).cell 1 rfl;have a1:∀g:Obj,(C.alloc g).frozen? ⟨w.1.size,1,none⟩=false:=fun g=>(R.alloc g).free 1;have ag:=F.mono (show 1+j.length*K<=1+L*K by have:j.length*K<=L*K:=dK _ aj;omega);have HN:=aB (show vl i=true∧cC j D=cC (aU i) D∧ComDen (aU i) D (1+L*K) from⟨t,by rw[ac.out],by rw[ac.out];exact ag⟩);generalize cC j D=ns at *;clear F ag ah t I;go_wp2_with fail;have N:=R.lt;have ad:=O.lt;have T:=f.size;obtain⟨w7,ae,p,X⟩:=bI C [.bool s6,.slice M Y Q] 42;replace R:=R.be p;replace O:=O.be p;replace k:=Keep.be p;replace f:=aC f p;replace n:=n.ke k;replace r:=r.ke k;rw[ae];clear ae;replace u:=aa R.g2 (aa O.k2 X.g2);replace y:=y.be p;go_region
    all_goals (
     go_wp2_with fail;obtain⟨-,ao⟩:=IntBx.stored (w:=w7) (b:=w.1.size) (m:=0) ⟨_,_,_,_,R,IntAt.zero _⟩ r;have z5:=y.step ao (fun b e=>by injection e with e;injection e with e;omega);have N:=R.lt;have ad:=O.lt;have a2:=X.lt;have T:=f.size;obtain⟨W6,o,R,f,k,x⟩:=R.put2 f (by omega) (.bool s6) (.slice M Y Q) rfl rfl;replace O:=x O;replace X:=x X;replace r:=r.ke k;rw[o];rw[o] at z5;clear o;replace u:=aa R.k2 (aa O.k2 X.k2);exact aM (v:= .tuple #[.slice (some ⟨b5,0,none⟩) ns.length c5,.agg #[.bool s6,.slice M Y Q],.bool true]) (by simp[results,results35,go_sem,R.k2]) rfl ⟨_,_,ns,D,by rw[HN.out.1],z5.drew,r.drew,(fun _=>HN.out.2),f.drew⟩)
   ·obtain⟨m,hm⟩:∃m,j.length=m+1:=⟨j.length-1,by omega⟩;have a3:(0:Int)<(j.length:Int):=by omega
    have e1:(j.length:Int)-1=(m:Int):=by omega
    have i0:(0:Int)<=(m:Int):=by omega
    have i1:(m:Int)<(j.length:Int):=by omega
    obtain⟨q,hq⟩:∃q,j[m]? =some q:=⟨_,aR (by omega)⟩;obtain⟨b,s,B,l,d,s',B',l',d',rfl,bg,g0,g1,g2,g3,hi⟩:=I.at_ hq;have am:j.getLast?=some q:=by rw[byO,hm];exact hq
    have bf:=(ak q (dG hq)).1;have aw:vl i=decide (q≠0):=by
     unfold vl;rw[ac.out,ap.out,am,bxH,iQ,iQ];exact⟨fun h e=>h.2.2 (by rw[e]),fun h=>⟨H,rfl,fun e=>h (by injection e)⟩⟩
    have aq:=aB aw;have ax:=aB am;clear hq hm h0 aw am;go_wp2_with fail;refine(SV q _ _ hi (by unfold aJ at al;omega)).mono ?_;rintro e8 w8 ⟨rfl,af⟩;replace R:=R.be af;replace O:=O.be af;replace u:=aa R.g2 O.g2;replace k:=Keep.be af;replace n:=n.ke k;replace f:=aC f af;replace I:=I.be af;by_cases U:q=0
    ·have z:decide (q=0)=true:=by simpa using U
     have t:vl i=false:=by rw[aq.out];simpa using U
     have G:=aB t;rw[z];clear z t U;go_wp2_with fail;go_region
     all_goals (
      go_wp2_with fail;have N:=R.lt;have ad:=O.lt;have T:=f.size;obtain⟨W6,o,R,f,k,x⟩:=R.put2 f (by omega) (.bool Z) (.slice J V P) rfl rfl;replace O:=x O;replace n:=n.ke k;rw[o];clear o;replace u:=aa R.k2 O.k2;exact aM (v:= .tuple #[.slice none 0 0,.agg #[.bool Z,.slice J V P],.bool false]) (by simp[results,results35,go_sem,R.k2]) rfl ⟨_,_,[],1,by rw[G.out],WholeAt.nil _ _ _,n.drew,(fun h=>by rw[G.out] at h;cases h),f.drew⟩)
    ·have z:decide (q=0)=false:=by simpa using U
     have t:vl i=true:=by rw[aq.out];simpa using U
     have ah:aN j:=(JB j).2 (by rw[ax.out];intro e;injection e with e;exact U e);rw[z];clear z U g0 g1 g2 g3 hi;go_wp2_with fail;refine(JD j _ _ (hG.be f) I K KB ak (by omega) (by have:j.length*K<=L*K:=dK _ aj;omega) (by omega) al).mono ?_;rintro S C ⟨b5,n5,c5,ba,D,rfl,a6,y,r,F,E⟩;rw[qB (oO F.pos F.dvd ah)] at y;obtain⟨A5,c9,S,a7⟩:=y.form;simp only[Value.slice.injEq] at S;obtain⟨-,rfl, -⟩:=S;have a5:=R.lt;obtain⟨s6,M,Y,Q,rfl⟩:=r.form;replace R:=R.be E;replace O:=O.be E;replace u:=aa R.g2 O.g2;replace k:=Keep.be E;replace n:=n.ke k;replace f:=aC f E;have ay:∀g:Obj,(C.alloc g).cell? ⟨w.1.size,0,none⟩=some (.bool false):=fun g=>(R.alloc g).cell 0 rfl;have a0:∀g:Obj,(C.alloc g).frozen? ⟨w.1.size,0,none⟩=false:=fun g=>(R.alloc g).free 0;have az:∀g:Obj,(C.alloc g).cell? ⟨w.1.size,1,none⟩=some (.slice none 0 0):=fun g=>(R.alloc g).cell 1 rfl;have a1:∀g:Obj,(C.alloc g).frozen? ⟨w.1.size,1,none⟩=false:=fun g=>(R.alloc g).free 1;have ag:=F.mono (show 1+j.length*K<=1+L*K by have:j.length*K<=L*K:=dK _ aj;omega);have HN:=aB (show vl i=true∧cC j D=cC (aU i) D∧ComDen (aU i) D (1+L*K) from⟨t,by rw[ac.out],by rw[ac.out];exact ag⟩);generalize cC j D=ns at *;clear F ag ah t I;go_wp2_with fail;have N:=R.lt;have ad:=O.lt;have T:=f.size;obtain⟨w7,ae,p,X⟩:=bI C [.bool s6,.slice M Y Q] 42;replace R:=R.be p;replace O:=O.be p;replace k:=Keep.be p;replace f:=aC f p;replace n:=n.ke k;replace r:=r.ke k;rw[ae];clear ae;replace u:=aa R.g2 (aa O.k2 X.g2);replace y:=y.be p;go_region
     all_goals (
      go_wp2_with fail;obtain⟨-,ao⟩:=IntBx.stored (w:=w7) (b:=w.1.size) (m:=0) ⟨_,_,_,_,R,IntAt.zero _⟩ r;have z5:=y.step ao (fun b e=>by injection e with e;injection e with e;omega);have N:=R.lt;have ad:=O.lt;have a2:=X.lt;have T:=f.size;obtain⟨W6,o,R,f,k,x⟩:=R.put2 f (by omega) (.bool s6) (.slice M Y Q) rfl rfl;replace O:=x O;replace X:=x X;replace r:=r.ke k;rw[o];rw[o] at z5;clear o;replace u:=aa R.k2 (aa O.k2 X.k2);exact aM (v:= .tuple #[.slice (some ⟨b5,0,none⟩) ns.length c5,.agg #[.bool s6,.slice M Y Q],.bool true]) (by simp[results,results35,go_sem,R.k2]) rfl ⟨_,_,ns,D,by rw[HN.out.1],z5.drew,r.drew,(fun _=>HN.out.2),f.drew⟩)
 ·have z:decide (i.length<=65)=false:=by simpa using H
  have t:vl i=false:=by unfold vl;rw[jA];exact fun h=>H h.1
  have G:=aB t;rw[z];clear z t;go_wp2_with fail;go_region
  all_goals (
   go_wp2_with fail;have N:=R.lt;have ad:=O.lt;have T:=f.size;obtain⟨W6,o,R,f,k,x⟩:=R.put2 f (by omega) (.bool Z) (.slice J V P) rfl rfl;replace O:=x O;replace n:=n.ke k;rw[o];clear o;replace u:=aa R.k2 O.k2;exact aM (v:= .tuple #[.slice none 0 0,.agg #[.bool Z,.slice J V P],.bool false]) (by simp[results,results35,go_sem,R.k2]) rfl ⟨_,_,[],1,by rw[G.out],WholeAt.nil _ _ _,n.drew,(fun h=>by rw[G.out] at h;cases h),f.drew⟩)
def oN(a:List Rat)(D:Int):(cC a D).length=a.length:=cH _
def V8(f:Nat->Int)(n M:Nat)(h:∀k,k<n->(f k).natAbs<=M):(bW f n).natAbs<=n*M:=by
 induction n with
 |zero=>simp[bW]
 |succ n a=>
  rw[bW,aq2];have b:=a (fun k e=>h k (by omega));have c:=h n (by omega);have d:=bz2 (bW f n) (f n);omega
end Go.Proofs.YtfdaieaidpcdgaaGreatDoor
namespace Go.Proofs.YtfdaieaidpcdgaaGreatDoor
open Sos Lib
variable{K:Nat}{q:Rat}
def iG(h:1<=K):RL K 0:=⟨by show nl 0<=K;rw[dO];omega,by show nl 1<=K;exact aH (cJ (by decide)) h⟩
def C7(h:RL K q):RL K (-q):=⟨by rw[show(-q).num= -q.num from rfl,azJ];exact h.1,h.2⟩
def bU{L:Nat}(h:RL K q)(a:K<=L):RL L q:=⟨aH h.1 a,aH h.2 a⟩
def JA{n k:Nat}(h:(decDigits n).length<=k)(d:k<=18):nl n<=1:=by
 refine cJ ?_;have a:=tI (oL n);rw[mQ] at a;have b:10^(decDigits n).length<=10^18:=cO (by decide) (by omega);have c:10^18<BN^1:=by decide
 omega
def tS{t:List UInt8}(h:bD t=some q)(c:t.length<=18):RL 1 q:=by
 have e:=tL h;have a:(cW q).length<=18:=by rw[e];exact c
 unfold cW at a;rw[bE,bE] at a;refine⟨JA (k:=18) (by omega) (by decide),?_⟩;by_cases b:q.den=1
 ·rw[b];exact cJ (by decide)
 ·rw[if_neg b,eG] at a;exact JA (k:=18) (by omega) (by decide)
def pI{a:List (List UInt8)}(h:∀l∈a,l.length<=18):∀q∈aU a,RL 1 q:=fun q c=>by
 obtain⟨l,b,rfl⟩:=List.mem_map.1 c;cases hr:bD l with
 |none=>exact iG (mC 1)
 |some q=>exact tS hr (h l b)
end Go.Proofs.YtfdaieaidpcdgaaGreatDoor
namespace Go.Proofs.YtfdaieaidpcdgaaGreatDoor
variable{a b l:List Nat}{d i x y:Nat}
def aD:Nat:=4294967296
def mV:0<aD:=by decide
def nv:List Nat->Nat
 |[]=>0
 |d :: l=>d+aD*nv l
def Dg(l:List Nat):Prop:=∀d∈l,d<aD
def rB:nv []=0:=rfl
def mF(l m:List Nat):nv (l++m)=nv l+aD^l.length*nv m:=by
 induction l with
 |nil=>simp[nv]
 |cons d l a=>
  rw[List.cons_append,nv,nv,a,List.length_cons,Nat.pow_succ,Nat.mul_add,Nat.mul_comm (aD^l.length) aD,Nat.mul_assoc];omega
def NV(n:Nat):nv (List.replicate n 0)=0:=by
 induction n with
 |zero=>rfl
 |succ n a=>rw[List.replicate_succ,nv,a];rfl
def nO(h:Dg l):nv l<aD^l.length:=by
 induction l with
 |nil=>simp[nv]
 |cons d l e=>
  have a:=e (fun x c=>h x (List.mem_cons_of_mem _ c));have f:=h d List.mem_cons_self;rw[nv,List.length_cons,Nat.pow_succ,Nat.mul_comm];have b:(nv l+1)*aD<=aD^l.length*aD:=Nat.mul_le_mul_right _ a;rw[Nat.add_mul] at b;omega
def NW(h:l[i]? =some d):nv (l.take (i+1))=nv (l.take i)+aD^i*d:=by
 have a:=(List.getElem?_eq_some_iff.1 h).1;rw[List.take_succ_eq_append_getElem a,mF,nv,rB,Nat.mul_zero,Nat.add_zero,List.length_take,Nat.min_eq_left (Nat.le_of_lt a)];rw[List.getElem?_eq_getElem a] at h;injection h with h;rw[h]
def zM(h:l[i]? =some d):nv (l.drop i)=d+aD*nv (l.drop (i+1)):=by
 have a:=(List.getElem?_eq_some_iff.1 h).1;rw[List.drop_eq_getElem_cons a,nv];rw[List.getElem?_eq_getElem a] at h;injection h with h;rw[h]
def Dg.set(h:Dg l)(i:Nat)(c:x<aD):Dg (l.set i x):=fun d b=>by
 rcases List.mem_or_eq_of_mem_set b with a|a
 ·exact h d a
 ·rw[a];exact c
def Dg.zeros(n:Nat):Dg (List.replicate n 0):=fun d a=>by rw[(List.mem_replicate.1 a).2];exact mV
def Dg.take(h:Dg l)(n:Nat):Dg (l.take n):=fun d a=>h d (List.mem_of_mem_take a)
def Dg.get(h:Dg l)(hi:l[i]? =some d):d<aD:=h d (List.mem_of_getElem? hi)
def Dg.trim(h:Dg l):Dg (aW aV l):=fun d a=>h d (rC a)
def EZ(l:List Nat):nv (aW aV l)=nv l:=by
 obtain⟨m,b,c, -⟩:=pZ aV l;have i:nv m=0:=by
  clear b;induction m with
  |nil=>rfl
  |cons d m j=>
   have h:=c d List.mem_cons_self;have f:d=0:=by simpa [aV] using h
   rw[nv,j (fun a g=>c a (List.mem_cons_of_mem _ g)),f];rfl
 have e:=mF (aW aV l) m;rw[<-b,i,Nat.mul_zero,Nat.add_zero] at e;exact e.symm
def zN(b:aN l)(a:l≠[]):aD^(l.length-1)<=nv l:=by
 obtain⟨m,d,rfl⟩:∃m d,l=m++[d]:=⟨l.dropLast,l.getLast a,(List.dropLast_concat_getLast a).symm⟩;have c:d≠0:=b d (by simp);rw[mF,nv,rB,Nat.mul_zero,Nat.add_zero,List.length_append,List.length_singleton,Nat.add_sub_cancel];have:aD^m.length*1<=aD^m.length*d:=Nat.mul_le_mul_left _ (by omega);omega
def vI(d:Dg a)(f:aN b)(h:a.length<b.length):nv a<nv b:=by
 have c:b≠[]:=fun e=>by rw[e] at h;simp at h
 have g:=nO d;have i:=zN f c;have j:aD^a.length<=aD^(b.length-1):=Nat.pow_le_pow_right mV (by omega);omega
def NX(b:aN l)(h:nv l=0):l=[]:=by
 by_cases a:l=[]
 ·exact a
 ·have:=zN b a;have c:0<aD^(l.length-1):=Nat.pow_pos mV;omega
def F0(j:Dg a)(n:Dg b)(d:a[i]? =some x)(l:b[i]? =some y)(o:a.length=b.length)(k:a.drop (i+1)=b.drop (i+1))(h:x<y):nv a<nv b:=by
 have c:=(List.getElem?_eq_some_iff.1 d).1;have e:nv a=nv (a.take i)+aD^i*(x+aD*nv (a.drop (i+1))):=by
  rw[<-zM d];conv=>lhs;rw[<-List.take_append_drop i a,mF,List.length_take,Nat.min_eq_left (Nat.le_of_lt c)]
 have f:nv b=nv (b.take i)+aD^i*(y+aD*nv (b.drop (i+1))):=by
  rw[<-zM l];conv=>lhs;rw[<-List.take_append_drop i b,mF,List.length_take,Nat.min_eq_left (by omega)]
 have g:=nO (j.take i);rw[List.length_take,Nat.min_eq_left (Nat.le_of_lt c)] at g;rw[e,f,k];have m:aD^i*(x+aD*nv (b.drop (i+1)))+aD^i<=aD^i*(y+aD*nv (b.drop (i+1))):=by
  rw[<-Nat.mul_succ];exact Nat.mul_le_mul_left _ (by omega)
 omega
def zO{s:Nat}(a:x<2^s):2^s*y ||| x=2^s*y+x:=(Nat.two_pow_add_eq_or_of_lt a y).symm
