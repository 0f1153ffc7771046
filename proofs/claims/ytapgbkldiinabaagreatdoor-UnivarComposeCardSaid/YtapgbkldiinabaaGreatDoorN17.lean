/- Laws. -/
import Derived.Test.YtapgbkldiinabaaGreatDoorN16
set_option linter.all false
set_option maxHeartbeats 8000000
set_option maxRecDepth 99999
namespace Go.Proofs.YtapgbkldiinabaaGreatDoor
open Go.RowKit Sos Tryz
def aq3{D:Int}(a:0<D)(x:Int):(bN [x*D,D]:Int)=D:=by
 rw[I7,I7,JP,Nat.gcd_zero_left,fL,Nat.gcd_comm,Nat.gcd_mul_left_left];omega
def aq4{D:Int}(a:0<D)(x:Int):jX [x*D,D] D=[x,1]:=by
 unfold jX;show[(x*D).tdiv D,D.tdiv D]=[x,1]
 rw[Int.mul_tdiv_cancel _ (by omega),Int.tdiv_self (by omega)]
def aq5{D:Int}(a:0<D):(D:Rat)/(D:Rat)=((1:Int):Rat):=by
 have h:(D:Rat)≠0:=fun e=>(show D≠0 by omega) (Rat.intCast_inj.1 e);rw[Rat.div_def,Rat.mul_inv_cancel _ h];rfl
def cyH(D E:Int)(am:0<D)(ao:0<E)(an:nl D.natAbs<=1000)(ap:nl E.natAbs<=1000)(va vb vd ve:Value)(w:World)(U:Glob w)(ha:WholeAt w va [-1*D,D])(ad:WholeAt w vb [-3*E,E])(q:IntAt w vd D)(r:IntAt w ve E):
  Calls prog 40 #[va,vb,vd,ve] w (iF w ((-2:Int):Rat)):=by
 obtain⟨A,c,rfl,hc⟩:=ha.form;obtain⟨X,Y,rfl,bx⟩:=ad.form;replace ha:WholeAt w (.slice A 2 c) [-1*D,D]:=ha;replace ad:WholeAt w (.slice X 2 Y) [-3*E,E]:=ad;obtain⟨sd,Ad,kd,cd,rfl⟩:=q.form;obtain⟨se,Ae,ke,ce,rfl⟩:=r.form;have n1:nl (1:Int).natAbs<=1:=P8 (by decide);have n2:nl (-2:Int).natAbs<=1:=P8 (by decide);have n3:nl (-1:Int).natAbs<=1:=P8 (by decide);have n4:nl (-3:Int).natAbs<=1:=P8 (by decide);have kA:∀n∈[-1*D,D],nl n.natAbs<=1001:=fun n hn=>by
  simp only[List.mem_cons,List.not_mem_nil,or_false] at hn;rcases hn with rfl|rfl
  ·exact aH (gT _ _ _ _ n3 an) (by decide)
  ·omega
 have kB:∀n∈[-3*E,E],nl n.natAbs<=1001:=fun n hn=>by
  simp only[List.mem_cons,List.not_mem_nil,or_false] at hn;rcases hn with rfl|rfl
  ·exact aH (gT _ _ _ _ n4 ap) (by decide)
  ·omega
 have bh:∀W,Glob W->WholeAt W (.slice A 2 c) [-1*D,D]->Calls prog 70 #[.slice A 2 c] W (dW W D):=fun W i j=>by
  have:=WX [-1*D,D] (.slice A 2 c) W i j 1001 kA (by unfold aJ;decide) (by show 2<=1099511627776;decide);rw[aq3 am] at this;exact this
 have bi:∀W,Glob W->WholeAt W (.slice X 2 Y) [-3*E,E]->Calls prog 70 #[.slice X 2 Y] W (dW W E):=fun W i j=>by
  have:=WX [-3*E,E] (.slice X 2 Y) W i j 1001 kB (by unfold aJ;decide) (by show 2<=1099511627776;decide);rw[aq3 ao] at this;exact this
 have a0:∀W u,WholeAt W (.slice A 2 c) [-1*D,D]->IntAt W u D->Calls prog 74 #[.slice A 2 c,u] W fun e y=>∃v',e= .returned v'∧WholeAt y v' [-1,1]∧Below W.heap.size W y:=fun W u i j=>by
  have:=X4 [-1*D,D] D (.slice A 2 c) u W i j (fun _=>by omega) 1001 kA (by omega) (by unfold aJ;decide) (by show 2<=1099511627776;decide);rw[aq4 am] at this;exact this
 have a1:∀W u,WholeAt W (.slice X 2 Y) [-3*E,E]->IntAt W u E->Calls prog 74 #[.slice X 2 Y,u] W fun e y=>∃v',e= .returned v'∧WholeAt y v' [-3,1]∧Below W.heap.size W y:=fun W u i j=>by
  have:=X4 [-3*E,E] E (.slice X 2 Y) u W i j (fun _=>by omega) 1001 kB (by omega) (by unfold aJ;decide) (by show 2<=1099511627776;decide);rw[aq4 ao] at this;exact this
 have a4:∀W v u,Glob W->IntAt W v D->IntAt W u D->Calls prog 67 #[v,u] W (iF W ((1:Int):Rat)):=fun W v u U i j=>by
  have:=I3 D D v u W U i j 1000 an an (by unfold aJ;decide);rw[aq5 am] at this;exact this
 have a5:∀W v u,Glob W->IntAt W v E->IntAt W u E->Calls prog 67 #[v,u] W (iF W ((1:Int):Rat)):=fun W v u U i j=>by
  have:=I3 E E v u W U i j 1000 ap ap (by unfold aJ;decide);rw[aq5 ao] at this;exact this
 have aq:∀W v,RatAt W v ((1:Int):Rat)->Calls prog 71 #[v,.int .u64 1] W (iF W ((1:Int):Rat)):=fun W v h=>byX 1 1 v W h (by decide) (by unfold aJ;omega);have a6:∀W v u,RatAt W v ((1:Int):Rat)->RatAt W u ((1:Int):Rat)->Calls prog 72 #[v,u] W (iF W ((1:Int):Rat)):=fun W v u i j=>aqI 1 1 v u W i j (by omega);have bj:∀W v u,RatAt W v ((1:Int):Rat)->RatAt W u ((-2:Int):Rat)->Calls prog 72 #[v,u] W (iF W ((-2:Int):Rat)):=fun W v u i j=>aqI 1 (-2) v u W i j (by omega);have a2:∀(B:Option Addr) (d:Nat) (W:World),Calls prog 20 #[.slice B 2 d] W fun e y=>e= .returned (.int .i64 1)∧W=y:=fun B d W=>(JO 2 d B W (by decide)).mono (fun e y h=>⟨h.1,h.2.symm⟩);have a3:∀(B:Option Addr) (d:Nat) (W:World),Calls prog 20 #[.slice B 2 d] W fun e y=>e= .returned (.int .i64 1)∧Below W.heap.size W y:=fun B d W=>(JO 2 d B W (by decide)).mono (fun e y h=>⟨h.1,by rw[h.2];exact aG _ _⟩);have b0:IntKind.u64.wrap 1=1:=by decide
 obtain⟨W,eW,g,m,o,R⟩:=gE w [.bool sd,.slice Ad kd cd] 44 [.bool se,.slice Ae ke ce] 44 [.bool false,.slice none 0 0,.bool false,.slice none 0 0] 73;have z:=aa m.g2 (aa o.g2 R.g4);go_enter func40,ntmps40;go_wp2_with fail;(try rw[eW]);clear eW;replace q:=q.be g;replace r:=r.be g;refine(bh _ (U.be g) (ha.be g)).mono ?_;rintro e1 w1 ⟨v1,rfl,i,af⟩;obtain⟨s1,A1,k1,c1,rfl⟩:=i.form;replace m:=m.be af;replace o:=o.be af;replace R:=R.be af;replace z:=aa m.k2 (aa o.k2 R.g4);replace f:=Keep.be af;replace q:=q.ke f;replace r:=r.ke f;replace g:=aC g af;go_wp2_with fail;refine(bi _ (U.be g) (ad.be g)).mono ?_;rintro e2 K ⟨v2,rfl,j,ag⟩;obtain⟨s2,A2,k2,c2,rfl⟩:=j.form;replace m:=m.be ag;replace o:=o.be ag;replace R:=R.be ag;replace z:=aa m.k2 (aa o.k2 R.g4);replace f:=Keep.be ag;replace q:=q.ke f;replace r:=r.ke f;replace i:=i.ke f;replace g:=aC g ag;have a8:∀F G:Obj,((K.alloc F).alloc G).cell? ⟨w.heap.size,0,none⟩=some (.bool sd):=fun F G=>((m.alloc F).alloc G).cell 0 rfl;have ba:∀F G:Obj,((K.alloc F).alloc G).frozen? ⟨w.heap.size,0,none⟩=false:=fun F G=>((m.alloc F).alloc G).free 0;have a9:∀F G:Obj,((K.alloc F).alloc G).cell? ⟨w.heap.size,1,none⟩=some (.slice Ad kd cd):=fun F G=>((m.alloc F).alloc G).cell 1 rfl;have bb:∀F G:Obj,((K.alloc F).alloc G).frozen? ⟨w.heap.size,1,none⟩=false:=fun F G=>((m.alloc F).alloc G).free 1;go_wp2_with fail;have au:=m.lt;have av:=o.lt;have aj:=R.lt;have ar:=g.size;obtain⟨w3,aw,J,C1,C2⟩:=KF K [.bool s1,.slice A1 k1 c1] 44 [.bool s2,.slice A2 k2 c2] 44;replace m:=m.be J;replace o:=o.be J;replace R:=R.be J;replace f:=Keep.be J;replace g:=aC g J;replace q:=q.ke f;replace r:=r.ke f;replace i:=i.ke f;replace j:=j.ke f;rw[aw];clear aw;replace z:=aa m.k2 (aa o.k2 (aa R.g4 (aa C1.k2 C2.k2)));clear a8 a9 ba bb;refine(a4 _ _ _ (U.be g) i q).mono ?_;rintro e4 w4 ⟨v4,rfl,h4,P⟩;replace m:=m.be P;replace o:=o.be P;replace R:=R.be P;replace C1:=C1.be P;replace C2:=C2.be P;replace z:=aa m.k2 (aa o.k2 (aa R.g4 (aa C1.k2 C2.k2)));replace f:=Keep.be P;replace q:=q.ke f;replace r:=r.ke f;replace i:=i.ke f;replace j:=j.ke f;replace g:=aC g P;go_wp2_with (go_at_call 20;refine(a2 _ _ _).mono ?_;rintro eD wD ⟨rfl,rfl⟩);refine(aq _ _ h4).mono ?_;rintro e5 w5 ⟨v5,rfl,C,ac⟩;replace m:=m.be ac;replace o:=o.be ac;replace R:=R.be ac;replace C1:=C1.be ac;replace C2:=C2.be ac;replace z:=aa m.k2 (aa o.k2 (aa R.g4 (aa C1.k2 C2.k2)));replace f:=Keep.be ac;replace q:=q.ke f;replace r:=r.ke f;replace i:=i.ke f;replace j:=j.ke f;replace g:=aC g ac;obtain⟨s5,A5,k5,c5,t5,E5,l5,d5,rfl⟩:=C.form;go_upto_region 5 with fail;have au:=m.lt;have av:=o.lt;have aj:=R.lt;have bc:=C1.lt;have bf:=C2.lt;have ar:=g.size;obtain⟨w6,ax,J,p⟩:=bI w5 [.bool s5,.slice A5 k5 c5,.bool t5,.slice E5 l5 d5] 73;replace m:=m.be J;replace o:=o.be J;replace R:=R.be J;replace C1:=C1.be J;replace C2:=C2.be J;replace f:=Keep.be J;replace g:=aC g J;replace q:=q.ke f;replace r:=r.ke f;replace i:=i.ke f;replace j:=j.ke f;replace C:=C.ke f;rw[ax];clear ax;replace z:=aa m.k2 (aa o.k2 (aa R.g4 (aa C1.k2 (aa C2.k2 p.g4))))
 go_cut [] (fun N=>∃s A k c t E' l d,Bx N w5.heap.size [.bool s,.slice A k c,.bool t,.slice E' l d] 73∧RatAt N (.agg #[.bool s,.slice A k c,.bool t,.slice E' l d]) ((1:Int):Rat)∧Bx N K.heap.size [.bool s1,.slice A1 k1 c1] 44∧Bx N (K.heap.size+1) [.bool s2,.slice A2 k2 c2] 44∧
  Bx N (w.heap.size+1+1) [.bool false,.slice none 0 0,.bool false,.slice none 0 0] 73∧IntAt N (.agg #[.bool s1,.slice A1 k1 c1]) D∧IntAt N (.agg #[.bool s2,.slice A2 k2 c2]) E∧Below w.heap.size w N)
 case first=>
  replace q:=q.drew;replace r:=r.drew;replace i:=i.drew;replace j:=j.drew;replace C:=C.drew;replace m:=m.drew;replace o:=o.drew;replace R:=R.drew;replace C1:=C1.drew;replace C2:=C2.drew;replace p:=p.drew;replace g:=g.drew;have b3:w5.heap.size≠K.heap.size+1:=by omega
  have b2:w5.heap.size≠w.heap.size+1:=by omega
  go_region_with (first
    |(go_at_call 67;refine(a5 _ _ _ (U.be g) j r).mono ?_;rintro e7 w7 ⟨v7,rfl,O,L⟩;replace m:=m.be L;replace o:=o.be L;replace R:=R.be L;replace C1:=C1.be L;replace C2:=C2.be L;replace p:=p.be L;replace z:=aa m.k2 (aa o.k2 (aa R.g4 (aa C1.k2 (aa C2.k2 p.g4))));replace f:=Keep.be L;replace q:=q.ke f;replace r:=r.ke f;replace i:=i.ke f;replace j:=j.ke f;replace C:=C.ke f;(try replace Q:=Q.ke f);(try replace H:=H.ke f);(try replace x:=x.ke f);replace g:=aC g L)
    |(go_at_call 20;refine(a3 _ _ _).mono ?_;rintro e8 w8 ⟨rfl,M⟩;replace m:=m.be M;replace o:=o.be M;replace R:=R.be M;replace C1:=C1.be M;replace C2:=C2.be M;replace p:=p.be M;replace z:=aa m.k2 (aa o.k2 (aa R.g4 (aa C1.k2 (aa C2.k2 p.g4))));replace f:=Keep.be M;replace q:=q.ke f;replace r:=r.ke f;replace i:=i.ke f;replace j:=j.ke f;replace C:=C.ke f;(try replace O:=O.ke f);(try replace H:=H.ke f);(try replace x:=x.ke f);replace g:=aC g M)
    |(go_at_call 71;refine(aq _ _ O).mono ?_;rintro e9 w9 ⟨v9,rfl,H,I⟩;replace m:=m.be I;replace o:=o.be I;replace R:=R.be I;replace C1:=C1.be I;replace C2:=C2.be I;replace p:=p.be I;replace z:=aa m.k2 (aa o.k2 (aa R.g4 (aa C1.k2 (aa C2.k2 p.g4))));replace f:=Keep.be I;replace q:=q.ke f;replace r:=r.ke f;replace i:=i.ke f;replace j:=j.ke f;replace C:=C.ke f;(try replace O:=O.ke f);(try replace Q:=Q.ke f);(try replace x:=x.ke f);replace g:=aC g I)
    |(go_at_call 72;refine(a6 _ _ _ C H).mono ?_;rintro e0 w0 ⟨v0,rfl,x,V⟩;obtain⟨s0,A0,k0,c0,t0,E0,l0,d0,rfl⟩:=x.form;replace m:=m.be V;replace o:=o.be V;replace R:=R.be V;replace C1:=C1.be V;replace C2:=C2.be V;replace p:=p.be V;replace z:=aa m.k2 (aa o.k2 (aa R.g4 (aa C1.k2 (aa C2.k2 p.g4))));replace f:=Keep.be V;replace q:=q.ke f;replace r:=r.ke f;replace i:=i.ke f;replace j:=j.ke f;replace C:=C.ke f;(try replace O:=O.ke f);(try replace Q:=Q.ke f);(try replace H:=H.ke f);replace g:=aC g V))
  all_goals (
   go_wp2_with fail;have au:=m.lt;have av:=o.lt;have aj:=R.lt;have bc:=C1.lt;have bf:=C2.lt;have bg:=p.lt;have ar:=g.size;obtain⟨W6,ae,p,g,f,S⟩:=p.put4 g (by omega) (.bool s0) (.slice A0 k0 c0) (.bool t0) (.slice E0 l0 d0) rfl rfl;replace m:=S m (by omega);replace o:=S o (by omega);replace R:=S R (by omega);replace C1:=S C1 (by omega);replace C2:=S C2 (by omega);replace i:=i.ke f;replace j:=j.ke f;replace x:=x.ke f;rw[ae];clear ae;replace z:=aa m.k2 (aa o.k2 (aa R.k4 (aa C1.k2 (aa C2.k2 p.k4))));go_meet;exact⟨s0,A0,k0,c0,t0,E0,l0,d0,p,x,C1,C2,R,i,j,g⟩)
 case rest=>
  clear q r i j C m o R C1 C2 p g f a4 a5 aq a6 a2 a3;obtain⟨s0,A0,k0,c0,t0,E0,l0,d0,p,x,C1,C2,R,i,j,g⟩:=hcut;have ay:=ha.be g;have az:=ad.be g;have a7:=fun W v u i j=>byK v u W i j;clear ha ad;go_upto_region 6 with fail;have bp:=C1.lt;have bq:=C2.lt;go_cut [12] (fun bo N=>∃al,bo= .pointer (some ⟨al,0,none⟩)∧wc.heap.size<=al∧IntBx N al (-2)∧Below wc.heap.size wc N)
  case first=>
   go_region_held3 (fun y=>y.cell? ⟨K.heap.size,0,none⟩=some (.bool s1)∧y.cell? ⟨K.heap.size,1,none⟩=some (.slice A1 k1 c1)∧y.cell? ⟨K.heap.size+1,0,none⟩=some (.bool s2)∧y.cell? ⟨K.heap.size+1,1,none⟩=some (.slice A2 k2 c2))
    (with_reducible exact⟨C1.up.cell 0 rfl,C1.up.cell 1 rfl,C2.up.cell 0 rfl,C2.up.cell 1 rfl⟩)
    (first
     |(go_at_call 74;(with_reducible refine(a0 _ _ ay.up i.up).mono ?_);rintro e4 w4 ⟨v4,rfl,h4,P⟩;have l4:=P.size;(try simp at l4);have:=St.mk P;skip)
     |(go_at_call 74;(with_reducible refine(a1 _ _ az.up j.up).mono ?_);rintro e7 w7 ⟨v7,rfl,O,L⟩;have l7:=L.size;(try simp at l7);have:=St.mk L;skip)
     |(go_at_call 73;refine(a7 _ _ _ h4.up O.up).mono ?_;rintro e8 w8 ⟨v8,rfl,Q,M⟩;have l8:=M.size;(try simp at l8);have:=St.mk M;have ak:=Up.out (a:=wc) (b:=w8);have b1:=ak.size;have bs:=h4.up (b:=w8);have bt:=O.up (b:=w8);(try have⟨_,_,_,_,_⟩:=nG wc w8);(try have⟨_,_,_,_,_⟩:=nG w4 w8);(try have⟨_,_,_,_,_⟩:=nG w7 w8);obtain⟨s8,A8,k8,c8,rfl⟩:=Q.form))
   all_goals (
    go_wp2;go_meet;refine⟨_,rfl,by omega,?_⟩
    first|(with_reducible exact V4 Q ak)|(with_reducible exact V6 (zb ‹_›) Q ak (by omega)))
  case rest=>
   obtain⟨gd,rfl,bz,⟨sT,AT,kT,cT,T,Z⟩,ai⟩:=hcut;have bu:=p.lt;have bw:=R.lt;replace p:=p.be ai;replace R:=R.be ai;replace x:=x.be ai;replace g:=aC g ai;have bk:=fun W v h=>BZ (-2) v W h;clear ai ay az i j C1 C2 a0 a1 a7;have bv:w.heap.size+1+1<w5.heap.size:=aj;go_upto_region 7 with fail;replace Z:=Z.drew;replace x:=x.drew;replace p:=p.drew;replace T:=T.drew;replace R:=R.drew;replace g:=g.drew;replace z:=aa p.k4 (aa T.k2 R.g4);have bm:w.heap.size+1+1≠w5.heap.size:=by omega
   have bn:w.heap.size+1+1≠gd:=by omega
   go_region_held3 (fun y=>C4 y w5.heap.size (.bool s0) (.slice A0 k0 c0) (.bool t0) (.slice E0 l0 d0)∧C2 y gd (.bool sT) (.slice AT kT cT))
    (first|(with_reducible exact⟨p.k4,T.k2⟩)|(refine⟨?_,?_⟩<;>(repeat (first|with_reducible exact p.k4|with_reducible exact T.k2|with_reducible refine kK bm ?_|with_reducible refine fQ bn ?_))))
    (first
     |(go_at_call 75;refine(bk _ _ Z).mono ?_;rintro e6 w6 ⟨v6,rfl,h6,ah⟩;replace p:=p.be ah;replace T:=T.be ah;replace R:=R.be ah;replace z:=aa p.k4 (aa T.k2 R.g4);replace f:=Keep.be ah;replace Z:=Z.ke f;replace x:=x.ke f;(try replace H:=H.ke f);replace g:=aC g ah)
     |(go_at_call 72;refine(bj _ _ _ x h6).mono ?_;rintro e9 w9 ⟨v9,rfl,H,I⟩;obtain⟨s9,A9,k9,c9,t9,E9,l9,d9,rfl⟩:=H.form;replace p:=p.be I;replace T:=T.be I;replace R:=R.be I;replace z:=aa p.k4 (aa T.k2 R.g4);replace f:=Keep.be I;replace Z:=Z.ke f;replace x:=x.ke f;(try replace h6:=h6.ke f);replace g:=aC g I))
   all_goals (
    go_wp2_with fail;have bg:=p.lt;have br:=T.lt;have aj:=R.lt;have ar:=g.size;obtain⟨W6,ae,R,g,f,S⟩:=R.put4 g (by omega) (.bool s9) (.slice A9 k9 c9) (.bool t9) (.slice E9 l9 d9) rfl rfl;replace p:=S p (by omega);replace T:=S T (by omega);replace H:=H.ke f;rw[ae];clear ae;replace z:=aa p.k4 (aa T.k2 R.k4);exact aM (v:= .agg #[.bool s9,.slice A9 k9 c9,.bool t9,.slice E9 l9 d9]) (by simp[results,results40,go_sem,R.k4]) rfl ⟨_,rfl,H,g⟩;)
