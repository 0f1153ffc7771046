/- Laws. -/
import Derived.Test.YtfdaieaidpcdgaaGreatDoorU15
set_option linter.all false
set_option maxHeartbeats 8000000
set_option maxRecDepth 99999
namespace Go.Proofs.YtfdaieaidpcdgaaGreatDoor
open Go.RowKit Sos Tryz
variable{v:Value}
section
variable {a b:World}[u:Up a b]
def NI.up{n:Int}(h:NI a v n):NI b v n:=h.be u.out
def NQ.up{n:Rat}(h:NQ a v n):NQ b v n:=h.be u.out
end
def EB(x y:Rat):((x.num*(y.den:Int)+y.num*(x.den:Int):Int):Rat)/(((x.den:Int)*(y.den:Int):Int):Rat)=x+y:=by
 have c:(y.den:Rat)≠0:=fun e=>y.den_nz (by have:=Rat.intCast_inj.1 (show((y.den:Int):Rat)=((0:Int):Rat) from e);omega);have d:(x.den:Rat)≠0:=fun e=>x.den_nz (by have:=Rat.intCast_inj.1 (show((x.den:Int):Rat)=((0:Int):Rat) from e);omega);conv=>rhs;rw[oU x,oU y]
 rw[aqE,eJ,eJ,eJ,aq3,aq3];grind
def sK(x y:Rat)(vx vy:Value)(w:World)(q:NQ w vx x)(r:NQ w vy y)(K:Nat)(kx:RL K x)(ky:RL K y)(hK:2*K+1<=549755813888):Calls prog 135 #[vx,vy] w (eS w (x+y)):=by
 obtain⟨s,A,k,c,P,H,z,J,rfl⟩:=q.form;obtain⟨t,C,l,d,Q,I,B,L,rfl⟩:=r.form;obtain⟨m,k2⟩:=kx;obtain⟨k3,k4⟩:=ky;have M:=q.len;have O:=r.len;by_cases e:x.den=1∧y.den=1
 ·have r1:((z:Int)==0)=true:=by rw[M];simpa using e.1
  have r2:((B:Int)==0)=true:=by rw[O];simpa using e.2
  have HZ:Hid ((x+y).num=x.num+y.num∧(x+y).den=1):=by
   obtain⟨i,e2⟩:=BT (y:=y) e.1;rw[e.2] at i e2;exact⟨by rw[i];simp,e2⟩
  clear M O e;obtain⟨W,G,g,X,Y,R⟩:=gE w [.bool s,.slice A k c,.bool P,.slice H z J] 108 [.bool t,.slice C l d,.bool Q,.slice I B L] 108 [.bool false,.slice none 0 0,.bool false,.slice none 0 0] 108;have S:=aa X.g4 (aa Y.g4 R.g4);go_enter func135,ntmps135;go_wp2_with fail;(try rw[G]);clear G;refine(EL x.num y.num _ _ _ (q.be g).num (r.be g).num (by omega) (by omega)).mono ?_;rintro i F ⟨E,rfl,e,f⟩;obtain⟨p,n,m,o,rfl⟩:=e.form;replace X:=X.be f;replace Y:=Y.be f;replace R:=R.be f;replace S:=aa X.k4 (aa Y.k4 R.g4);replace g:=aC g f;go_wp2_with fail;obtain⟨W6,ac,R,g,hk,T⟩:=R.mut4 g (by omega) (.bool p) (.slice n m o) (.bool false) (.slice none 0 0) rfl rfl;replace X:=T X;replace Y:=T Y;replace e:=e.ke hk;rw[ac];clear ac;replace S:=aa X.k4 (aa Y.k4 R.k4);exact aM (v:= .agg #[.bool p,.slice n m o,.bool false,.slice none 0 0]) (by simp[results,results135,go_sem,R.k4]) rfl ⟨_,rfl,NQ.of e (NI.zero _) HZ.out.1 (fV.2 HZ.out.2),g⟩
 ·have ap:((z:Int)==0)=false∨((z:Int)==0)=true∧((B:Int)==0)=false:=by
   rw[M,O];by_cases U:x.den=1
   ·exact .inr ⟨by simpa using U,by simpa using fun h=>e ⟨U,h⟩⟩
   ·exact .inl (by simpa using U)
  have l1:nl (x.num*(y.den:Int)).natAbs<=2*K:=by rw[fL,dD];have:=fI x.num.natAbs y.den;omega
  have l2:nl (y.num*(x.den:Int)).natAbs<=2*K:=by rw[fL,dD];have:=fI y.num.natAbs x.den;omega
  have l3:nl ((x.den:Int)*(y.den:Int)).natAbs<=549755813888:=by rw[fL,dD,dD];have:=fI x.den y.den;omega
  have l4:nl (x.num*(y.den:Int)+y.num*(x.den:Int)).natAbs<=549755813888:=by
   have e:nl (x.num*(y.den:Int)+y.num*(x.den:Int)).natAbs<=nl ((x.num*(y.den:Int)).natAbs+(y.num*(x.den:Int)).natAbs):=cK (by omega);have:=rK (x.num*(y.den:Int)).natAbs (y.num*(x.den:Int)).natAbs;omega
  have ad:(x.den:Int)*(y.den:Int)≠0:=bxK (by have:=x.den_nz;omega) (by have:=y.den_nz;omega);have ae:=fun W u v h j=>vE (x.num*(y.den:Int)+y.num*(x.den:Int)) ((x.den:Int)*(y.den:Int)) u v W h j ad l4 l3;rw[EB] at ae;have am:=fun W v h j=>oV x.num (y.den:Int) (.agg #[.bool s,.slice A k c]) v W h j (by omega) (by rw[dD];omega);have an:=fun W v h j=>oV y.num (x.den:Int) (.agg #[.bool t,.slice C l d]) v W h j (by omega) (by rw[dD];omega);have ao:=fun W u v h j=>oV (x.den:Int) (y.den:Int) u v W h j (by rw[dD];omega) (by rw[dD];omega);have af:=fun W u v h j=>EL (x.num*(y.den:Int)) (y.num*(x.den:Int)) u v W h j (by omega) (by omega);have aj:=fun W h=>r8 x (.agg #[.bool s,.slice A k c,.bool P,.slice H z J]) W h (by omega);have ak:=fun W h=>r8 y (.agg #[.bool t,.slice C l d,.bool Q,.slice I B L]) W h (by omega);clear M O e l1 l2 l3 l4 ad;generalize x.num*(y.den:Int)+y.num*(x.den:Int)=N at *;generalize (x.den:Int)*(y.den:Int)=D at *;generalize x.num*(y.den:Int)=xn at *;generalize y.num*(x.den:Int)=yn at *;rcases ap with r1|⟨r1,r2⟩
  all_goals (
   obtain⟨W,G,g,X,Y,R⟩:=gE w [.bool s,.slice A k c,.bool P,.slice H z J] 108 [.bool t,.slice C l d,.bool Q,.slice I B L] 108 [.bool false,.slice none 0 0,.bool false,.slice none 0 0] 108;have S:=aa X.g4 (aa Y.g4 R.g4);go_enter func135,ntmps135;go_wp2_with fail;(try rw[G]);clear G;replace q:=q.be g;replace r:=r.be g;have n1:w.1.size+1+1≠w.1.size:=by omega
   have n2:w.1.size+1+1≠w.1.size+1:=by omega
   go_region_held3 (fun w'=>C4 w' w.1.size (.bool s) (.slice A k c) (.bool P) (.slice H z J)∧C4 w' (w.1.size+1) (.bool t) (.slice C l d) (.bool Q) (.slice I B L))
    (first|(with_reducible exact⟨X.up.k4,Y.up.k4⟩)|(refine⟨?_,?_⟩<;>(repeat (first|with_reducible exact X.up.k4|with_reducible exact Y.up.k4|with_reducible refine kK n1 ?_|with_reducible refine kK n2 ?_))))
    (first
     |(go_at_call 120;(with_reducible refine(aj _ q.up).mono ?_);rintro i F ⟨E,rfl,e,f⟩;obtain⟨p,n,m,o,rfl⟩:=e.form;have:=St.mk f)
     |(go_at_call 120;(with_reducible refine(ak _ r.up).mono ?_);rintro i F ⟨E,rfl,e,f⟩;obtain⟨p,n,m,o,rfl⟩:=e.form;have:=St.mk f)
     |(go_at_call 77;(with_reducible refine(am _ _ q.num.up (NI.up (by assumption))).mono ?_);rintro i F ⟨E,rfl,e,f⟩;obtain⟨p,n,m,o,rfl⟩:=e.form;have:=St.mk f)
     |(go_at_call 77;(with_reducible refine(an _ _ r.num.up (NI.up (by assumption))).mono ?_);rintro i F ⟨E,rfl,e,f⟩;obtain⟨p,n,m,o,rfl⟩:=e.form;have:=St.mk f)
     |(go_at_call 77;(with_reducible refine(ao _ _ _ (NI.up (by assumption)) (NI.up (by assumption))).mono ?_);rintro i F ⟨E,rfl,e,f⟩;obtain⟨p,n,m,o,rfl⟩:=e.form;have:=St.mk f)
     |(go_at_call 167;refine(af _ _ _ (NI.up (by assumption)) (NI.up (by assumption))).mono ?_;rintro i F ⟨E,rfl,e,f⟩;obtain⟨p,n,m,o,rfl⟩:=e.form;have:=St.mk f)
     |(go_at_call 81;refine(ae _ _ _ (NI.up (by assumption)) (NI.up (by assumption))).mono ?_;rintro e5 w5 ⟨v5,rfl,h5,ag⟩;obtain⟨s5,V,k5,c5,s6,Z,k6,c6,rfl⟩:=h5.form;have:=St.mk ag;have U5:=R.up (b:=w5);have ah:=bJ (b:=w5) g;have cR:=U5.g4))
   all_goals (
    go_wp2_with fail;obtain⟨W6,e6,U6,ai,al,T⟩:=U5.mut4 ah (by omega) (.bool s5) (.slice V k5 c5) (.bool s6) (.slice Z k6 c6) rfl rfl;rw[e6];clear e6;exact aM (v:= .agg #[.bool s5,.slice V k5 c5,.bool s6,.slice Z k6 c6]) (by simp[results,results135,go_sem,U6.k4]) rfl ⟨_,rfl,h5.ke al,ai⟩))
def EC(x y:Rat)(vx vy:Value)(w:World)(f:NQ w vx x)(g:NQ w vy y)(K:Nat)(U:RL K x)(r:RL K y)(hK:2*K+1<=549755813888):Calls prog 127 #[vx,vy] w (eS w (x-y)):=by
 obtain⟨s,A,k,c,H,z,F,D,rfl⟩:=f.form;obtain⟨t,C,l,d,I,B,G,E,rfl⟩:=g.form;have o:RL K (-y):=⟨by rw[show(-y).num= -y.num from rfl,azJ];exact r.1,r.2⟩;have ac:=fun W h=>yW y (.agg #[.bool t,.slice C l d,.bool I,.slice B G E]) W h (aH r.1 (by omega));have S:=fun W v h h'=>sK x (-y) (.agg #[.bool s,.slice A k c,.bool H,.slice z F D]) v W h h' K U o hK;rw[<-Rat.sub_eq_add_neg] at S;clear U r o;obtain⟨W,O,e,X,Y,R⟩:=gE w [.bool s,.slice A k c,.bool H,.slice z F D] 108 [.bool t,.slice C l d,.bool I,.slice B G E] 108 [.bool false,.slice none 0 0,.bool false,.slice none 0 0] 108;have p:=aa X.g4 (aa Y.g4 R.g4);go_enter func127,ntmps127;go_wp2_with fail;(try rw[O]);clear O;replace f:=f.be e;replace g:=g.be e;replace f:=f.drew;replace g:=g.drew;replace X:=X.drew;replace Y:=Y.drew;replace R:=R.drew;replace e:=e.drew;replace p:=aa X.k4 (aa Y.k4 R.g4);have ad:w.1.size+1+1≠w.1.size:=by omega
 have ae:w.1.size+1+1≠w.1.size+1:=by omega
 go_region_held3 (fun w'=>C4 w' w.1.size (.bool s) (.slice A k c) (.bool H) (.slice z F D)∧C4 w' (w.1.size+1) (.bool t) (.slice C l d) (.bool I) (.slice B G E))
  (first|(with_reducible exact⟨X.k4,Y.k4⟩)|(refine⟨?_,?_⟩<;>(repeat (first|with_reducible exact X.k4|with_reducible exact Y.k4|with_reducible refine kK ad ?_|with_reducible refine kK ae ?_))))
  (first
   |(go_at_call 126;refine(ac _ g).mono ?_;rintro e1 w1 ⟨v1,rfl,q,m⟩;obtain⟨s1,A1,k1,c1,s2,A2,k2,c2,rfl⟩:=q.form;replace X:=X.be m;replace Y:=Y.be m;replace R:=R.be m;replace p:=aa X.k4 (aa Y.k4 R.g4);replace i:=KM.be m;replace f:=f.ke i;replace g:=g.ke i;(try replace j:=j.ke i);replace e:=aC e m)
   |(go_at_call 135;refine(S _ _ f q).mono ?_;rintro e5 w5 ⟨v5,rfl,j,n⟩;obtain⟨V,J,o,M,Z,L,T,N,rfl⟩:=j.form;replace X:=X.be n;replace Y:=Y.be n;replace R:=R.be n;replace p:=aa X.k4 (aa Y.k4 R.g4);replace i:=KM.be n;replace f:=f.ke i;replace g:=g.ke i;(try replace q:=q.ke i);replace e:=aC e n))
 all_goals (
  go_wp2_with fail;obtain⟨W6,P,R,e,i,Q⟩:=R.mut4 e (by omega) (.bool V) (.slice J o M) (.bool Z) (.slice L T N) rfl rfl;replace X:=Q X;replace Y:=Q Y;replace j:=j.ke i;rw[P];clear P;replace p:=aa X.k4 (aa Y.k4 R.k4);exact aM (v:= .agg #[.bool V,.slice J o M,.bool Z,.slice L T N]) (by simp[results,results127,go_sem,R.k4]) rfl ⟨_,rfl,j,e⟩;)
def r7(n:Nat)(w:World)(hn:n<=1000000):Calls prog 122 #[.int .i64 (n:Int)] w (eS w (n:Rat)):=by
 have f:Hid (((n:Nat):Rat).num=n∧bS ((n:Nat):Rat)=0):=⟨rfl,fV.2 rfl⟩;have o:=fun W=>EJ n W hn;obtain⟨W,i,c,R⟩:=bI w [.bool false,.slice none 0 0,.bool false,.slice none 0 0] 108;have h:=R.g4;go_enter func122,ntmps122;go_wp2_with fail;(try rw[i]);clear i;refine(o _).mono ?_;rintro r x ⟨t,rfl,d,k⟩;obtain⟨m,e,l,g,rfl⟩:=d.form;replace R:=R.be k;replace h:=R.g4;replace c:=aC c k;go_wp2_with fail;obtain⟨q,j,R,c,p,s⟩:=R.mut4 c (by omega) (.bool m) (.slice e l g) (.bool false) (.slice none 0 0) rfl rfl;replace d:=d.ke p;rw[j];clear j;replace h:=R.k4;exact aM (v:= .agg #[.bool m,.slice e l g,.bool false,.slice none 0 0]) (by simp[results,results122,go_sem,R.k4]) rfl ⟨_,rfl,NQ.of d (NI.zero _) f.out.1 f.out.2,c⟩
