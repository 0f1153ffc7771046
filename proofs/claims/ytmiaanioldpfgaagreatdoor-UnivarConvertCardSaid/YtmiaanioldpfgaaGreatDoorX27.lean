/- Laws. -/
import Derived.Test.YtmiaanioldpfgaaGreatDoorX26
set_option linter.all false
set_option maxHeartbeats 8000000
set_option maxRecDepth 99999
namespace Go.Proofs.YtmiaanioldpfgaaGreatDoor
open Go.RowKit Sos Tryz
variable{D:Int}
def fyV(a:0<D)(x:Int):(bC [x*D,D]:Int)=D:=by
 rw[CK,CK,JP,Nat.gcd_zero_left,fL,azD,Nat.gcd_mul_left_left];omega
def fyW(a:0<D)(x:Int):jX [x*D,D] D=[x,1]:=by
 unfold jX;show[(x*D).tdiv D,D.tdiv D]=[x,1]
 rw[Int.mul_tdiv_cancel _ (by omega),Int.tdiv_self (by omega)]
def fyX(a:0<D):(D:Rat)/(D:Rat)=((1:Int):Rat):=by
 have h:(D:Rat)≠0:=fun e=>(show D≠0 by omega) (Rat.intCast_inj.1 e);rw[azE,Rat.mul_inv_cancel _ h];rfl
def gyZ(D E:Int)(al:0<D)(an:0<E)(am:nl D.natAbs<=1000)(ao:nl E.natAbs<=1000)(va vb vd ve:Value)(w:World)(V:Glob w)(ha:WholeAt w va [-1*D,D])(ac:WholeAt w vb [-3*E,E])(r:IntAt w vd D)(x:IntAt w ve E):
  Calls prog 35 #[va,vb,vd,ve] w (iF w ((-2:Int):Rat)):=by
 obtain⟨A,c,rfl,hc⟩:=ha.form;obtain⟨Y,Z,rfl,bw⟩:=ac.form;replace ha:WholeAt w (.slice A 2 c) [-1*D,D]:=ha;replace ac:WholeAt w (.slice Y 2 Z) [-3*E,E]:=ac;obtain⟨sd,Ad,kd,cd,rfl⟩:=r.form;obtain⟨se,Ae,ke,ce,rfl⟩:=x.form;have n1:nl (1:Int).natAbs<=1:=SP (by decide);have n2:nl (-2:Int).natAbs<=1:=SP (by decide);have n3:nl (-1:Int).natAbs<=1:=SP (by decide);have n4:nl (-3:Int).natAbs<=1:=SP (by decide);have kA:∀n∈[-1*D,D],nl n.natAbs<=1001:=fun n hn=>by
  simp only[List.mem_cons,List.not_mem_nil,or_false] at hn;rcases hn with rfl|rfl
  ·exact aH (gT _ _ _ _ n3 am) (by decide)
  ·omega
 have kB:∀n∈[-3*E,E],nl n.natAbs<=1001:=fun n hn=>by
  simp only[List.mem_cons,List.not_mem_nil,or_false] at hn;rcases hn with rfl|rfl
  ·exact aH (gT _ _ _ _ n4 ao) (by decide)
  ·omega
 have bg:∀W,Glob W->WholeAt W (.slice A 2 c) [-1*D,D]->Calls prog 72 #[.slice A 2 c] W (dW W D):=fun W i j=>by
  have:=WX [-1*D,D] (.slice A 2 c) W i j 1001 kA (by unfold aJ;decide) (by show 2<=1099511627776;decide);rw[fyV al] at this;exact this
 have bh:∀W,Glob W->WholeAt W (.slice Y 2 Z) [-3*E,E]->Calls prog 72 #[.slice Y 2 Z] W (dW W E):=fun W i j=>by
  have:=WX [-3*E,E] (.slice Y 2 Z) W i j 1001 kB (by unfold aJ;decide) (by show 2<=1099511627776;decide);rw[fyV an] at this;exact this
 have az:∀W u,WholeAt W (.slice A 2 c) [-1*D,D]->IntAt W u D->Calls prog 78 #[.slice A 2 c,u] W fun e z=>∃v',e= .returned v'∧WholeAt z v' [-1,1]∧Below W.1.size W z:=fun W u i j=>by
  have:=dq4 [-1*D,D] D (.slice A 2 c) u W i j (fun _=>by omega) 1001 kA (by omega) (by unfold aJ;decide) (by show 2<=1099511627776;decide);rw[fyW al] at this;exact this
 have a0:∀W u,WholeAt W (.slice Y 2 Z) [-3*E,E]->IntAt W u E->Calls prog 78 #[.slice Y 2 Z,u] W fun e z=>∃v',e= .returned v'∧WholeAt z v' [-3,1]∧Below W.1.size W z:=fun W u i j=>by
  have:=dq4 [-3*E,E] E (.slice Y 2 Z) u W i j (fun _=>by omega) 1001 kB (by omega) (by unfold aJ;decide) (by show 2<=1099511627776;decide);rw[fyW an] at this;exact this
 have a3:∀W v u,Glob W->IntAt W v D->IntAt W u D->Calls prog 73 #[v,u] W (iF W ((1:Int):Rat)):=fun W v u V i j=>by
  have:=I3 D D v u W V i j 1000 am am (by unfold aJ;decide);rw[fyX al] at this;exact this
 have a4:∀W v u,Glob W->IntAt W v E->IntAt W u E->Calls prog 73 #[v,u] W (iF W ((1:Int):Rat)):=fun W v u V i j=>by
  have:=I3 E E v u W V i j 1000 ao ao (by unfold aJ;decide);rw[fyX an] at this;exact this
 have ap:∀W v,RatAt W v ((1:Int):Rat)->Calls prog 74 #[v,.int .u64 1] W (iF W ((1:Int):Rat)):=fun W v h=>fqN 1 1 v W h (by decide) (by unfold aJ;omega);have a5:∀W v u,RatAt W v ((1:Int):Rat)->RatAt W u ((1:Int):Rat)->Calls prog 76 #[v,u] W (iF W ((1:Int):Rat)):=fun W v u i j=>cqY 1 1 v u W i j (by omega);have bi:∀W v u,RatAt W v ((1:Int):Rat)->RatAt W u ((-2:Int):Rat)->Calls prog 76 #[v,u] W (iF W ((-2:Int):Rat)):=fun W v u i j=>cqY 1 (-2) v u W i j (by omega);have a1:∀(B:Option Addr) (d:Nat) (W:World),Calls prog 75 #[.slice B 2 d] W fun e z=>e= .returned (.int .i64 1)∧W=z:=fun B d W=>(JO 2 d B W (by decide)).mono (fun e z h=>⟨h.1,h.2.symm⟩);have a2:∀(B:Option Addr) (d:Nat) (W:World),Calls prog 75 #[.slice B 2 d] W fun e z=>e= .returned (.int .i64 1)∧Below W.1.size W z:=fun B d W=>(JO 2 d B W (by decide)).mono (fun e z h=>⟨h.1,by rw[h.2];exact aG _ _⟩);have bz:IntKind.u64.wrap 1=1:=by decide
 obtain⟨W,eW,g,m,o,R⟩:=gE w [.bool sd,.slice Ad kd cd] 77 [.bool se,.slice Ae ke ce] 77 [.bool false,.slice none 0 0,.bool false,.slice none 0 0] 86;have C:=aa m.g2 (aa o.g2 R.g4);go_enter func35,ntmps35;go_wp2_with fail;(try rw[eW]);clear eW;replace r:=r.be g;replace x:=x.be g;refine(bg _ (V.be g) (ha.be g)).mono ?_;rintro e1 w1 ⟨v1,rfl,i,ae⟩;obtain⟨s1,A1,k1,c1,rfl⟩:=i.form;replace m:=m.be ae;replace o:=o.be ae;replace R:=R.be ae;replace C:=aa m.k2 (aa o.k2 R.g4);replace f:=Keep.be ae;replace r:=r.ke f;replace x:=x.ke f;replace g:=aC g ae;go_wp2_with fail;refine(bh _ (V.be g) (ac.be g)).mono ?_;rintro e2 Q ⟨v2,rfl,j,af⟩;obtain⟨s2,A2,k2,c2,rfl⟩:=j.form;replace m:=m.be af;replace o:=o.be af;replace R:=R.be af;replace C:=aa m.k2 (aa o.k2 R.g4);replace f:=Keep.be af;replace r:=r.ke f;replace x:=x.ke f;replace i:=i.ke f;replace g:=aC g af;have a7:∀G H:Obj,((Q.alloc G).alloc H).cell? ⟨w.1.size,0,none⟩=some (.bool sd):=fun G H=>((m.alloc G).alloc H).cell 0 rfl;have a9:∀G H:Obj,((Q.alloc G).alloc H).frozen? ⟨w.1.size,0,none⟩=false:=fun G H=>((m.alloc G).alloc H).free 0;have a8:∀G H:Obj,((Q.alloc G).alloc H).cell? ⟨w.1.size,1,none⟩=some (.slice Ad kd cd):=fun G H=>((m.alloc G).alloc H).cell 1 rfl;have ba:∀G H:Obj,((Q.alloc G).alloc H).frozen? ⟨w.1.size,1,none⟩=false:=fun G H=>((m.alloc G).alloc H).free 1;go_wp2_with fail;have ar:=m.lt;have au:=o.lt;have ai:=R.lt;have aq:=g.size;obtain⟨w3,av,K,C1,q⟩:=DA Q [.bool s1,.slice A1 k1 c1] 77 [.bool s2,.slice A2 k2 c2] 77;replace m:=m.be K;replace o:=o.be K;replace R:=R.be K;replace f:=Keep.be K;replace g:=aC g K;replace r:=r.ke f;replace x:=x.ke f;replace i:=i.ke f;replace j:=j.ke f;rw[av];clear av;replace C:=aa m.k2 (aa o.k2 (aa R.g4 (aa C1.k2 q.k2)));clear a7 a8 a9 ba;refine(a3 _ _ _ (V.be g) i r).mono ?_;rintro e4 w4 ⟨v4,rfl,h4,P⟩;replace m:=m.be P;replace o:=o.be P;replace R:=R.be P;replace C1:=C1.be P;replace q:=q.be P;replace C:=aa m.k2 (aa o.k2 (aa R.g4 (aa C1.k2 q.k2)));replace f:=Keep.be P;replace r:=r.ke f;replace x:=x.ke f;replace i:=i.ke f;replace j:=j.ke f;replace g:=aC g P;go_wp2_with (go_at_call 75;refine(a1 _ _ _).mono ?_;rintro eD wD ⟨rfl,rfl⟩);refine(ap _ _ h4).mono ?_;rintro e5 w5 ⟨v5,rfl,F,ab⟩;replace m:=m.be ab;replace o:=o.be ab;replace R:=R.be ab;replace C1:=C1.be ab;replace q:=q.be ab;replace C:=aa m.k2 (aa o.k2 (aa R.g4 (aa C1.k2 q.k2)));replace f:=Keep.be ab;replace r:=r.ke f;replace x:=x.ke f;replace i:=i.ke f;replace j:=j.ke f;replace g:=aC g ab;obtain⟨s5,A5,k5,c5,t5,E5,l5,d5,rfl⟩:=F.form;go_upto_region 5 with fail;have ar:=m.lt;have au:=o.lt;have ai:=R.lt;have bb:=C1.lt;have bc:=q.lt;have aq:=g.size;obtain⟨w6,aw,K,p⟩:=bI w5 [.bool s5,.slice A5 k5 c5,.bool t5,.slice E5 l5 d5] 86;replace m:=m.be K;replace o:=o.be K;replace R:=R.be K;replace C1:=C1.be K;replace q:=q.be K;replace f:=Keep.be K;replace g:=aC g K;replace r:=r.ke f;replace x:=x.ke f;replace i:=i.ke f;replace j:=j.ke f;replace F:=F.ke f;rw[aw];clear aw;replace C:=aa m.k2 (aa o.k2 (aa R.g4 (aa C1.k2 (aa q.k2 p.g4))))
 go_cut [] (fun N=>∃s A k c t E' l d,Bx N w5.1.size [.bool s,.slice A k c,.bool t,.slice E' l d] 86∧RatAt N (.agg #[.bool s,.slice A k c,.bool t,.slice E' l d]) ((1:Int):Rat)∧Bx N Q.1.size [.bool s1,.slice A1 k1 c1] 77∧Bx N (Q.1.size+1) [.bool s2,.slice A2 k2 c2] 77∧
  Bx N (w.1.size+1+1) [.bool false,.slice none 0 0,.bool false,.slice none 0 0] 86∧IntAt N (.agg #[.bool s1,.slice A1 k1 c1]) D∧IntAt N (.agg #[.bool s2,.slice A2 k2 c2]) E∧Below w.1.size w N)
 case first=>
  replace r:=r.drew;replace x:=x.drew;replace i:=i.drew;replace j:=j.drew;replace F:=F.drew;replace m:=m.drew;replace o:=o.drew;replace R:=R.drew;replace C1:=C1.drew;replace q:=q.drew;replace p:=p.drew;replace g:=g.drew;have b2:w5.1.size≠Q.1.size+1:=by omega
  have b1:w5.1.size≠w.1.size+1:=by omega
  go_region_with (first
    |(go_at_call 73;refine(a4 _ _ _ (V.be g) j x).mono ?_;rintro e7 w7 ⟨v7,rfl,O,L⟩;replace m:=m.be L;replace o:=o.be L;replace R:=R.be L;replace C1:=C1.be L;replace q:=q.be L;replace p:=p.be L;replace C:=aa m.k2 (aa o.k2 (aa R.g4 (aa C1.k2 (aa q.k2 p.g4))));replace f:=Keep.be L;replace r:=r.ke f;replace x:=x.ke f;replace i:=i.ke f;replace j:=j.ke f;replace F:=F.ke f;(try replace S:=S.ke f);(try replace I:=I.ke f);(try replace y:=y.ke f);replace g:=aC g L)
    |(go_at_call 75;refine(a2 _ _ _).mono ?_;rintro e8 w8 ⟨rfl,M⟩;replace m:=m.be M;replace o:=o.be M;replace R:=R.be M;replace C1:=C1.be M;replace q:=q.be M;replace p:=p.be M;replace C:=aa m.k2 (aa o.k2 (aa R.g4 (aa C1.k2 (aa q.k2 p.g4))));replace f:=Keep.be M;replace r:=r.ke f;replace x:=x.ke f;replace i:=i.ke f;replace j:=j.ke f;replace F:=F.ke f;(try replace O:=O.ke f);(try replace I:=I.ke f);(try replace y:=y.ke f);replace g:=aC g M)
    |(go_at_call 74;refine(ap _ _ O).mono ?_;rintro e9 w9 ⟨v9,rfl,I,J⟩;replace m:=m.be J;replace o:=o.be J;replace R:=R.be J;replace C1:=C1.be J;replace q:=q.be J;replace p:=p.be J;replace C:=aa m.k2 (aa o.k2 (aa R.g4 (aa C1.k2 (aa q.k2 p.g4))));replace f:=Keep.be J;replace r:=r.ke f;replace x:=x.ke f;replace i:=i.ke f;replace j:=j.ke f;replace F:=F.ke f;(try replace O:=O.ke f);(try replace S:=S.ke f);(try replace y:=y.ke f);replace g:=aC g J)
    |(go_at_call 76;refine(a5 _ _ _ F I).mono ?_;rintro e0 w0 ⟨v0,rfl,y,X⟩;obtain⟨s0,A0,k0,c0,t0,E0,l0,d0,rfl⟩:=y.form;replace m:=m.be X;replace o:=o.be X;replace R:=R.be X;replace C1:=C1.be X;replace q:=q.be X;replace p:=p.be X;replace C:=aa m.k2 (aa o.k2 (aa R.g4 (aa C1.k2 (aa q.k2 p.g4))));replace f:=Keep.be X;replace r:=r.ke f;replace x:=x.ke f;replace i:=i.ke f;replace j:=j.ke f;replace F:=F.ke f;(try replace O:=O.ke f);(try replace S:=S.ke f);(try replace I:=I.ke f);replace g:=aC g X))
  all_goals (
   go_wp2_with fail;have ar:=m.lt;have au:=o.lt;have ai:=R.lt;have bb:=C1.lt;have bc:=q.lt;have bf:=p.lt;have aq:=g.size;obtain⟨W6,ad,p,g,f,U⟩:=p.put4 g (by omega) (.bool s0) (.slice A0 k0 c0) (.bool t0) (.slice E0 l0 d0) rfl rfl;replace m:=U m (by omega);replace o:=U o (by omega);replace R:=U R (by omega);replace C1:=U C1 (by omega);replace q:=U q (by omega);replace i:=i.ke f;replace j:=j.ke f;replace y:=y.ke f;rw[ad];clear ad;replace C:=aa m.k2 (aa o.k2 (aa R.k4 (aa C1.k2 (aa q.k2 p.k4))));go_meet;exact⟨s0,A0,k0,c0,t0,E0,l0,d0,p,y,C1,q,R,i,j,g⟩)
 case rest=>
  clear r x i j F m o R C1 q p g f a3 a4 ap a5 a1 a2;obtain⟨s0,A0,k0,c0,t0,E0,l0,d0,p,y,C1,q,R,i,j,g⟩:=hcut;have ax:=ha.be g;have ay:=ac.be g;have a6:=fun W v u i j=>gz2 v u W i j;clear ha ac;go_upto_region 6 with fail;have bo:=C1.lt;have bp:=q.lt;go_cut [12] (fun bn N=>∃ak,bn= .pointer (some ⟨ak,0,none⟩)∧wc.1.size<=ak∧IntBx N ak (-2)∧Below wc.1.size wc N)
  case first=>
   go_region_held3 (fun z=>C2 z Q.1.size (.bool s1) (.slice A1 k1 c1)∧C2 z (Q.1.size+1) (.bool s2) (.slice A2 k2 c2))
    (with_reducible exact⟨C1.up.k2,q.up.k2⟩)
    (first
     |(go_at_call 78;(with_reducible refine(az _ _ ax.up i.up).mono ?_);rintro e4 w4 ⟨v4,rfl,h4,P⟩;have l4:=P.size;(try simp at l4);have:=St.mk P;skip)
     |(go_at_call 78;(with_reducible refine(a0 _ _ ay.up j.up).mono ?_);rintro e7 w7 ⟨v7,rfl,O,L⟩;have l7:=L.size;(try simp at l7);have:=St.mk L;skip)
     |(go_at_call 77;refine(a6 _ _ _ h4.up O.up).mono ?_;rintro e8 w8 ⟨v8,rfl,S,M⟩;have l8:=M.size;(try simp at l8);have:=St.mk M;have aj:=Up.out (a:=wc) (b:=w8);have b0:=aj.size;have br:=h4.up (b:=w8);have bs:=O.up (b:=w8);(try have⟨_,_,_,_,_⟩:=nG wc w8);(try have⟨_,_,_,_,_⟩:=nG w4 w8);(try have⟨_,_,_,_,_⟩:=nG w7 w8);obtain⟨s8,A8,k8,c8,rfl⟩:=S.form))
   all_goals (
    go_wp2;go_meet;refine⟨_,rfl,by omega,?_⟩
    first|(with_reducible exact V4 S aj)|(with_reducible exact V6 (zb ‹_›) S aj (by omega)))
  case rest=>
   obtain⟨gd,rfl,bx,⟨sT,AT,kT,cT,T,hT⟩,ah⟩:=hcut;have bt:=p.lt;have bv:=R.lt;replace p:=p.be ah;replace R:=R.be ah;replace y:=y.be ah;replace g:=aC g ah;have bj:=fun W v h=>BZ (-2) v W h;clear ah ax ay i j C1 q az a0 a6;have bu:w.1.size+1+1<w5.1.size:=ai;go_upto_region 7 with fail;replace hT:=hT.drew;replace y:=y.drew;replace p:=p.drew;replace T:=T.drew;replace R:=R.drew;replace g:=g.drew;replace C:=aa p.k4 (aa T.k2 R.g4);have bk:w.1.size+1+1≠w5.1.size:=by omega
   have bm:w.1.size+1+1≠gd:=by omega
   go_region_held3 (fun z=>C4 z w5.1.size (.bool s0) (.slice A0 k0 c0) (.bool t0) (.slice E0 l0 d0)∧C2 z gd (.bool sT) (.slice AT kT cT))
    (first|(with_reducible exact⟨p.k4,T.k2⟩)|(refine⟨?_,?_⟩<;>(repeat (first|with_reducible exact p.k4|with_reducible exact T.k2|with_reducible refine kK bk ?_|with_reducible refine fQ bm ?_))))
    (first
     |(go_at_call 79;refine(bj _ _ hT).mono ?_;rintro e6 w6 ⟨v6,rfl,h6,ag⟩;replace p:=p.be ag;replace T:=T.be ag;replace R:=R.be ag;replace C:=aa p.k4 (aa T.k2 R.g4);replace f:=Keep.be ag;replace hT:=hT.ke f;replace y:=y.ke f;(try replace I:=I.ke f);replace g:=aC g ag)
     |(go_at_call 76;refine(bi _ _ _ y h6).mono ?_;rintro e9 w9 ⟨v9,rfl,I,J⟩;obtain⟨s9,A9,k9,c9,t9,E9,l9,d9,rfl⟩:=I.form;replace p:=p.be J;replace T:=T.be J;replace R:=R.be J;replace C:=aa p.k4 (aa T.k2 R.g4);replace f:=Keep.be J;replace hT:=hT.ke f;replace y:=y.ke f;(try replace h6:=h6.ke f);replace g:=aC g J))
   all_goals (
    go_wp2_with fail;have bf:=p.lt;have bq:=T.lt;have ai:=R.lt;have aq:=g.size;obtain⟨W6,ad,R,g,f,U⟩:=R.put4 g (by omega) (.bool s9) (.slice A9 k9 c9) (.bool t9) (.slice E9 l9 d9) rfl rfl;replace p:=U p (by omega);replace T:=U T (by omega);replace I:=I.ke f;rw[ad];clear ad;replace C:=aa p.k4 (aa T.k2 R.k4);exact aM (v:= .agg #[.bool s9,.slice A9 k9 c9,.bool t9,.slice E9 l9 d9]) (by simp[results,results35,go_sem,R.k4]) rfl ⟨_,rfl,I,g⟩;)
