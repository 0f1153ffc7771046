/-
  Contracts, laws: RcoJ.
-/
import Derived.Test.YthfnenohhindpaaGreatDoorD45
set_option linter.all false
set_option maxHeartbeats 8000000
set_option maxRecDepth 100000
namespace Go.Proofs.YthfnenohhindpaaGreatDoor
open Go.RowKit Sos
theorem V0 {A:List Rat} {K:Nat} (h:∀q∈A,RL K q) (a:1<=K):RL (4*K+1) (gQ A):=by
 unfold gQ;exact bU (xE (K:=K+K) (GE h (jE h (fU a) _) a _) (bU p9 (by omega))) (by omega)
theorem V3 (x y:Rat):0<(x-y).num.sign↔y<x:=by
 rcases jU (x-y) with h|h|h
 ·rw[(fJ _).2 h];exact⟨fun k=>absurd k (by decide),fun k=>by grind⟩
 ·rw[h];exact⟨fun k=>absurd k (by decide),fun k=>by grind⟩
 ·rw[(fJ _).1 h];exact⟨fun _=>by grind,fun _=>by decide⟩
theorem V4 (p:List Rat) (v:Value) (w:World) (hv:QsAt w v p) (ab:cf p (p.length-1)≠0) (K:Nat) (Z:∀q∈p,RL K q) (hl:p.length<=1024) (h1:1<=K) (a0:4*K+1<=549755813888):
  Calls Tryz.prog 65 #[v] w (fC w (gQ p)):=by
 obtain⟨A,c,rfl,hc⟩:=hv.form;have a9:1<=p.length:=by
  rcases Nat.eq_zero_or_pos p.length with h|h
  ·exact absurd (by rw[bM h];rfl) ab
  ·exact h
 obtain⟨m,hm⟩:∃m,p.length-1=m:=⟨_,rfl⟩;have av:m<p.length:=by omega
 have a8:(p.length:Int)-1=(m:Int):=by omega
 have ba:IntKind.i64.wrap (m:Int)=(m:Int):=IntWalk.i64_in _ ⟨by omega,by omega⟩;have a6:(0:Int)<=(m:Int):=by omega
 have a7:(m:Int)<(p.length:Int):=by omega
 unfold gQ;rw[hm] at ab⊢;have kl:RL K (cf p m):=jE Z (fU h1) m;have kb:=fun j=>GE Z kl h1 j;have aj:∀W,Calls Tryz.prog 93 #[.int .i64 1] W (fC W 1):=fun W=>uT 1 W (by decide);have af:=fun W u v h L=>rK (iV (cf p m) (p.take m)) 1 u v W h L (K+K) (kb m) (bU p9 (by omega)) (by omega);unfold fC at aj af;unfold fC;generalize iV (cf p m) (p.take m)+1=y at *;obtain⟨W,eW,e,R,G⟩:=dI w [.bool false,.slice none 0 0,.bool false,.slice none 0 0] 81 [.bool false,.slice none 0 0,.bool false,.slice none 0 0] 81;have cM:=aa R.g4 G.g4;go_enter Tryz.func65,Tryz.ntmps65;go_wp2_with fail;(try rw[eW]);clear eW;obtain⟨W1,am,G,e,o,g⟩:=G.mut4 e (by omega) (.bool false) (.slice none 0 0) (.bool false) (.slice none 0 0) rfl rfl;replace R:=g R (by omega);rw[am];clear am;replace cM:=aa R.g4 G.g4;have HK:=aB Z;have ap:=aB ab;clear Z ab hm;go_loopg [4] m (fun k i wr=>∃j:Nat,Hid (j+k=m)∧i= .int .i64 j∧Bx wr w.heap.size [.bool false,.slice none 0 0,.bool false,.slice none 0 0] 81∧QVar wr (w.heap.size+1) (iV (cf p m) (p.take j))∧Below w.heap.size w wr)
 case atStart=>exact⟨0,by unfold Hid;omega,rfl,R,⟨_,_,_,_,_,_,_,_,G,NQ.zero _⟩,e⟩
 case round=>
  clear R G e;obtain⟨j,Y,rfl,R,⟨s3,A3,k3,c3,s4,A4,k4,c4,G,f⟩,e⟩:=hrel;generalize wr=z at *;have a2:(0:Int)<=(j:Int):=by omega
  have cG:=G.g4;cases gk with
  |zero=>
   have hj:j=m:=Y.out;subst hj;go_wp2_with fail
   go_region_with (first
    |(go_at_call 93;(with_reducible refine(aj _).mono ?_);rintro e7 w7 ⟨v7,rfl,t,ag⟩;obtain⟨s7,A7,k7,c7,s8,A8,k8,c8,rfl⟩:=t.form;have:=St.mk ag;have ay:=(G.up (b:=w7)).g4)
    |(go_at_call 136;(with_reducible refine(af _ _ _ f.up t.up).mono ?_);rintro e9 w9 ⟨v9,rfl,h9,aq⟩;obtain⟨X,C,U,H,V,B,T,E,rfl⟩:=h9.form;have:=St.mk aq;have R9:=R.up (b:=w9);have az:=R9.g4))
   all_goals (
    go_wp2_with fail;obtain⟨W6,s,R6,O,o,g⟩:=R9.mut4 (eG (b:=w9) e) aE (.bool X) (.slice C U H) (.bool V) (.slice B T E) rfl rfl;rw[s];exact aK (v:= .agg #[.bool X,.slice C U H,.bool V,.slice B T E]) (by simp[results,Tryz.results65,go_sem,R6.k4]) rfl ⟨_,rfl,h9.keep o,O⟩)
  |succ k=>
   have a5:j<m:=by have:=Y.out;omega
   have a3:(j:Int)<(m:Int):=by omega
   have a4:(j:Int)<(p.length:Int):=by omega
   obtain⟨q,hq⟩:∃q,p[j]? =some q:=⟨_,aL (by omega)⟩;have kq:=HK.out q (cH hq);have an:=GB (d:=cf p m) hq;obtain⟨b,s5,A5,k5,c5,s6,A6,k6,c6,hA,ar,g0,hi⟩:=(hv.below e).at_ hq;obtain⟨b2,t5,B5,l5,d5,t6,B6,l6,d6,M,au,i0,ao⟩:=(hv.below e).cell av;subst hA;injection M with M;injection M with M;subst M;have kD:=uA kq kl;have kA:=GD kD;have ah:=fun W u v h L=>uV q (cf p m) u v W h L K kq kl (by omega) ap.out;have ak:=fun W v h=>mZ (q/cf p m) v W h (by have:=kD.1;omega);have ai:=fun W v h=>AB (q/cf p m) v W h (by have:=kD.1;omega);have ac:=fun W u v h L=>zO (fX (q/cf p m)) (iV (cf p m) (p.take j)) u v W h L (K+K) kA (kb j) (by omega);have ae:=V3 (fX (q/cf p m)) (iV (cf p m) (p.take j));have N:fX (q/cf p m)=if (q/cf p m).num.sign<0 then -(q/cf p m) else q/cf p m:=rfl;have ad:=aB an;unfold fC at ah ai;unfold dK at ak ac;clear an hq kD kA kq aj af;generalize (fX (q/cf p m)-iV (cf p m) (p.take j)).num.sign=P at *;generalize fX (q/cf p m)=D' at *;generalize q/cf p m=D at *;generalize iV (cf p m) (p.take j)=gr at *;generalize cf p m=cl at *;have bb:=e.size;go_wp2_with fail;go_cut [5] (fun aw r=>∃J,aw= .pointer (some ⟨J,0,none⟩)∧z.heap.size<=J∧QVar r J D∧Below z.heap.size z r)
   case first=>
    go_region_held3 (fun w'=>R4 w' b (j*4) (.bool s5) (.slice A5 k5 c5) (.bool s6) (.slice A6 k6 c6)∧R4 w' b (m*4) (.bool t5) (.slice B5 l5 d5) (.bool t6) (.slice B6 l6 d6))
     (with_reducible exact⟨g0.up ar,i0.up au⟩)
     (first|(go_at_call 135;(with_reducible refine(ah _ _ _ hi.up ao.up).mono ?_);rintro e7 w7 ⟨v7,rfl,t,ag⟩;obtain⟨s7,A7,k7,c7,s8,A8,k8,c8,rfl⟩:=t.form;have:=St.mk ag;have TT:=Up.out (a:=z) (b:=w7);have ll:=TT.size;(try (have D7:=(Bx.newAt z zR 81 z.heap.size rfl).up (b:=w7);have ax:=D7.g4))))
    all_goals (
     go_wp2_with fail;go_meet;refine⟨_,rfl,by omega,?_⟩
     first|(with_reducible exact GN t TT)|(with_reducible exact GO D7 t TT (by omega)))
   case rest=>
    clear ah g0 i0 hi ao cG;obtain⟨J,rfl,a1,F,Q⟩:=hcut;generalize wc=wz at *;have gl:=G.lt;replace R:=R.below Q;replace G:=G.below Q;replace f:=f.below Q;replace e:=aC e Q;clear Q;obtain⟨X,C,U,H,V,B,T,E,F,hF⟩:=F;have I:=F.k4;go_wp2_with fail;refine(ak _ _ hF).mono ?_;rintro e2 w2 ⟨rfl,l⟩;replace F:=F.below l;replace hF:=hF.below l;replace R:=R.below l;replace G:=G.below l;replace f:=f.below l;replace e:=aC e l;clear l;clear ak;generalize D.num.sign=S at *;replace I:=F.g4;go_upto_if 27 with fail;go_cut [] (fun r=>Bx r w.heap.size [.bool false,.slice none 0 0,.bool false,.slice none 0 0] 81∧QVar r (w.heap.size+1) gr∧QVar r J D'∧Below w.heap.size w r)
    case first=>
     clear ac ae ad;by_cases hS:S<0
     ·rw[if_pos hS] at N;subst N;go_wp2_with fail;refine(ai _ _ hF).mono ?_;rintro e4 w4 ⟨v4,rfl,h4,x⟩;obtain⟨s7,A7,k7,c7,s8,A8,k8,c8,rfl⟩:=h4.form;replace F:=F.below x;replace R:=R.below x;replace G:=G.below x;replace f:=f.below x;replace e:=aC e x;clear x;replace I:=F.g4;go_wp2_with fail;go_meet;obtain⟨W6,s,F6,O,o,g⟩:=F.mut4 e (by omega) (.bool s7) (.slice A7 k7 c7) (.bool s8) (.slice A8 k8 c8) rfl rfl;rw[s];exact⟨g R (by omega),⟨_,_,_,_,_,_,_,_,g G (by omega),f.keep o⟩,⟨_,_,_,_,_,_,_,_,F6,h4.keep o⟩,O⟩
     ·rw[if_neg hS] at N;subst N;go_wp2_with fail;go_meet;exact⟨R,⟨_,_,_,_,_,_,_,_,G,f⟩,⟨_,_,_,_,_,_,_,_,F,hF⟩,e⟩
    case rest=>
     clear F hF R G f e I ai N;obtain⟨R,⟨s3,A3,k3,c3,s4,A4,k4,c4,G,f⟩,⟨X,C,U,H,V,B,T,E,F,hF⟩,e⟩:=hcut;generalize wc=wa at *;have I:=aa F.g4 G.g4;go_wp2_with fail;refine(ac _ _ _ hF f).mono ?_;rintro e5 w5 ⟨rfl,n⟩;replace F:=F.below n;replace hF:=hF.below n;replace R:=R.below n;replace G:=G.below n;replace f:=f.below n;replace e:=aC e n;clear n;replace I:=aa F.g4 G.g4;have al:=aB ae;clear ac ae;by_cases hP:0<P
     ·go_wp2_with fail;obtain⟨W6,s,G6,O,o,g⟩:=G.mut4 e (by omega) (.bool X) (.slice C U H) (.bool V) (.slice B T E) rfl rfl;rw[s];clear s;go_roundg k
      case rel=>exact⟨j+1,by have:=Y.out;unfold Hid;omega,by go_num,g R (by omega),⟨_,_,_,_,_,_,_,_,G6,by rw[ad.out,if_pos (al.out.1 hP)];exact hF.keep o⟩,O⟩
      case measure=>omega
     ·go_wp2_with fail;go_roundg k
      case rel=>exact⟨j+1,by have:=Y.out;unfold Hid;omega,by go_num,R,⟨_,_,_,_,_,_,_,_,G,by rw[ad.out,if_neg (fun h=>by have:=al.out.2 h;omega)];exact f⟩,e⟩
      case measure=>omega
theorem V5 (ls:List (List UInt8)) (v:Value) (w:World) (hv:StrsAt w v ls) (j:ls.length<=7) (B:∀l∈ls,l.length<=6):
  Calls Tryz.prog 28 #[v] w fun e w'=>e= .returned (.tuple #[.string ⟨(nW ls).toArray⟩,.int .i64 (d8 ls)])∧Below w.heap.size w w':=by
 obtain⟨A,c,rfl,N⟩:=hv.form;have b:=fun W h=>zA ls (.slice A ls.length c) W h j B;have i:∀q∈aN ls,RL 1 q:=mC (fun l j=>aG (B l j) (by decide));have I:(aN ls).length=ls.length:=bK _;have a:nW ls=if d8 ls=0 then bD (gQ (aN ls)) else []:=rfl;have x:=uO ls;unfold rD at b;obtain⟨T,s⟩:∃T,nW ls=T:=⟨_,rfl⟩;rw[s] at a⊢;obtain⟨E,p⟩:∃E,d8 ls=E:=⟨_,rfl⟩;rw[p] at b a x⊢;clear s p;rcases x with ⟨rfl,J,g,r⟩|⟨rfl, -, -⟩|⟨rfl, -, -⟩
 ·rw[if_pos rfl] at a;rw[r] at b g;have z:aN ls≠[]:=fun e=>g (by rw[e];rfl);have u:=(fV z).1 (lJ J).2.2;have y:=fun W v h=>V4 (aN ls) v W h u 1 i (by omega) (by decide) (by decide);have C:RL 5 (gQ (aN ls)):=bU (V0 i (by decide)) (by decide);have k:=fun W v h=>y7 (gQ (aN ls)) v W h 5 C (by decide);rw[<-a] at k;unfold fC at y;unfold y8 at k;clear a C u z g r i I;generalize gQ (aN ls)=K at *;go_enter Tryz.func28,Tryz.ntmps28;go_wp2_with fail;refine(b _ hv).mono ?_;rintro o F ⟨D,rfl,d,f⟩;obtain⟨m,n,rfl, -⟩:=d.form;clear b;go_wp2_with fail;refine(y _ _ d).mono ?_;rintro L P ⟨O,rfl,G,t⟩;go_wp2_with fail;refine(k _ _ G).mono ?_;rintro M Q ⟨rfl,H⟩;go_wp2_with fail;go_ret2;exact⟨rfl,f.trans ((aC t H).mono f.size)⟩
 ·skip;rw[if_neg (by decide)] at a;subst a;go_enter Tryz.func28,Tryz.ntmps28;go_wp2_with fail;refine(b _ hv).mono ?_;rintro o F ⟨D,rfl,d,f⟩;obtain⟨m,n,rfl, -⟩:=d.form;clear b;go_wp2_with fail;go_ret2;exact⟨rfl,f⟩
 ·skip;rw[if_neg (by decide)] at a;subst a;go_enter Tryz.func28,Tryz.ntmps28;go_wp2_with fail;refine(b _ hv).mono ?_;rintro o F ⟨D,rfl,d,f⟩;obtain⟨m,n,rfl, -⟩:=d.form;clear b;go_wp2_with fail;go_ret2;exact⟨rfl,f⟩
