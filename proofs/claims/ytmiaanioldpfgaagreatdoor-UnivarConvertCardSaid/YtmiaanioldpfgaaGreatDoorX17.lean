/- Laws. -/
import Derived.Test.YtmiaanioldpfgaaGreatDoorX15
import Derived.Test.YtmiaanioldpfgaaGreatDoorX16
set_option linter.all false
set_option maxHeartbeats 8000000
set_option maxRecDepth 99999
namespace Go.Proofs.YtmiaanioldpfgaaGreatDoor
open Go.RowKit Sos Tryz
variable{a s:Bool}{b:List Rat}{c u:Value}{D d n:Int}{q:Rat}{K j:Nat}
def NQ(w:World)(v:Value)(q:Rat):Prop:=∃s u a b,v= .agg #[.bool s,u,.bool a,b]∧NI w (.agg #[.bool s,u]) q.num∧NI w (.agg #[.bool a,b]) (bS q)
def eS(w:World)(q:Rat)(e:Ending)(w':World):Prop:=∃v,e= .returned v∧NQ w' v q∧Below w.1.size w w'
section
variable {w w':World}{v:Value}{q:Rat}
def NQ.be(h:NQ w v q)(a:Below w.1.size w w'):NQ w' v q:=by
 obtain⟨s,u,d,f,e,b,c⟩:=h;exact⟨s,u,d,f,e,b.be a,c.be a⟩
def NQ.ke(h:NQ w v q)(a:KM w w'):NQ w' v q:=by
 obtain⟨s,u,d,f,e,b,c⟩:=h;exact⟨s,u,d,f,e,b.ke a,c.ke a⟩
def NQ.drew(h:NQ w v q):NQ w.drew v q:=h.be (aG _ _).drew
def NQ.form(h:NQ w v q):∃s A k c f a d c',v= .agg #[.bool s,.slice A k c,.bool f,.slice a d c']:=by
 obtain⟨s,u,f,j,rfl,g,i⟩:=h;obtain⟨_,A,k,c,e⟩:=g.form;obtain⟨_,a,d,c',b⟩:=i.form;simp at e b;rw[e.2,b.2];exact⟨_,_,_,_,_,_,_,_,rfl⟩
def NQ.num{b:Bool}(h:NQ w (.agg #[.bool s,u,.bool b,c]) q):NI w (.agg #[.bool s,u]) q.num:=by
 obtain⟨_,_,_,_,e,a,d⟩:=h;simp at e;rw[e.1,e.2.1];exact a
def NQ.den{b:Value}(h:NQ w (.agg #[.bool s,u,.bool a,b]) q):NI w (.agg #[.bool a,b]) (bS q):=by
 obtain⟨_,_,_,_,e,d,c⟩:=h;simp at e;rw[e.2.2.1,e.2.2.2];exact c
def NQ.of{b:Value}(f:NI w (.agg #[.bool s,u]) n)(g:NI w (.agg #[.bool a,b]) d)(c:q.num=n)(e:bS q=d):NQ w (.agg #[.bool s,u,.bool a,b]) q:=
 ⟨s,u,a,b,rfl,by rw[c];exact f,by rw[e];exact g⟩
def NQ.zero(w:World):NQ w (.agg #[.bool false,.slice none 0 0,.bool false,.slice none 0 0]) 0:=NQ.of (NI.zero w) (NI.zero w) rfl rfl
end
def MQ(a:0<d)(b:q=(n:Rat)/d):q.num=n.tdiv (Nat.gcd n.natAbs d.natAbs:Nat)∧((q.den:Nat):Int)=d.tdiv (Nat.gcd n.natAbs d.natAbs:Nat):=by rw[b];exact F4 a
def EE(w:World)(q:Rat)(b:Bool)(a:World):Prop:=∃(n d:Int) (s:Bool) (A:Option Addr) (k c:Nat) (t:Bool) (C:Option Addr) (l e:Nat),0<d∧Hid ((n:Rat)/d=q)∧(b=true->Hid (q.num=n∧(q.den:Int)=d))∧nl n.natAbs<=549755813888∧nl d.natAbs<=549755813888∧
 Bx a w.1.size [.bool s,.slice A k c] 60∧Bx a (w.1.size+1) [.bool t,.slice C l e] 60∧Bx a (w.1.size+1+1) [.bool false,.slice none 0 0,.bool false,.slice none 0 0] 62∧NI a (.agg #[.bool s,.slice A k c]) n∧NI a (.agg #[.bool t,.slice C l e]) d∧Below w.1.size w a
def fqR(n d:Int)(vn vd:Value)(w:World)(hn:NI w vn n)(f:NI w vd d)(h0:d≠0)(B:nl n.natAbs<=549755813888)(z:nl d.natAbs<=549755813888):
  Calls prog 104 #[vn,vd] w (eS w ((n:Rat)/d)):=by
 obtain⟨s,A,k,c,rfl⟩:=hn.form;obtain⟨t,C,l,e,rfl⟩:=f.form;have hT:=f.neg;generalize hq:(n:Rat)/d=q;obtain⟨W,eW,a,X,Y,R⟩:=gE w [.bool s,.slice A k c] 60 [.bool t,.slice C l e] 60 [.bool false,.slice none 0 0,.bool false,.slice none 0 0] 62;replace hn:=hn.be a;replace f:=f.be a;have m:=aa X.g2 (aa Y.g2 R.g4);have H:=aB hq;have HT:=aB hT;clear hq hT;go_enter func104,ntmps104;go_upto_if 7 with fail;(try rw[eW]);clear eW;go_cut [] (fun wx=>EE w q false wx)
 case first=>
  cases t with
  |false=>
   go_wp2;go_meet;exact⟨n,d,_,_,_,_,_,_,_,_,by have:=HT.out;simp at this;omega,H,(fun h=>by cases h),B,z,X,Y,R,hn,f,a⟩
  |true=>
   go_wp2_with fail;replace hn:=hn.drew;replace f:=f.drew;replace X:=X.drew;replace Y:=Y.drew;replace R:=R.drew;replace a:=a.drew
   go_region_with (first
     |(go_at_call 143;(with_reducible refine(yY n _ _ hn (by omega)).mono ?_);rintro e4 w4 ⟨v4,rfl,i,y⟩;obtain⟨s4,A4,k4,c4,rfl⟩:=i.form;replace X:=X.be y;replace Y:=Y.be y;replace R:=R.be y;replace m:=aa X.g2 (aa Y.g2 R.g4);replace b:=KM.be y;replace hn:=hn.ke b;replace f:=f.ke b;(try replace E:=E.ke b);replace a:=aC a y)
     |(go_at_call 143;(with_reducible refine(yY d _ _ f (by omega)).mono ?_);rintro e5 w5 ⟨v5,rfl,E,U⟩;obtain⟨s5,A5,k5,c5,rfl⟩:=E.form;replace X:=X.be U;replace Y:=Y.be U;replace R:=R.be U;replace m:=aa X.g2 (aa Y.g2 R.g4);replace b:=KM.be U;replace hn:=hn.ke b;replace f:=f.ke b;(try replace i:=i.ke b);replace a:=aC a U))
   all_goals (
    go_wp2_with fail;obtain⟨U0,Q,X,a,b,j⟩:=X.mut2 a (by omega) (.bool s4) (.slice A4 k4 c4) rfl rfl;replace Y:=j Y (by omega);replace R:=j R (by omega);replace i:=i.ke b;replace E:=E.ke b;obtain⟨W6,x,Y,a,b,j⟩:=Y.mut2 a (by omega) (.bool s5) (.slice A5 k5 c5) rfl rfl;replace X:=j X (by omega);replace R:=j R (by omega);replace i:=i.ke b;replace E:=E.ke b;rw[Q,x];clear Q x;replace m:=aa X.k2 (aa Y.k2 R.k4);go_meet;exact⟨-n, -d,_,_,_,_,_,_,_,_,by have:=HT.out;simp at this;omega,by unfold Hid;rw[F5];exact H.out,(fun h=>by cases h),by rw[azJ];exact B,by rw[azJ];exact z,X,Y,R,i,E,a⟩)
 case rest=>
  clear X Y R hn f a m B z h0 HT H;obtain⟨p,o,P,I,O,J,s2,Z,k2,c2,ac,H, -,B,z,X,Y,R,hn,f,a⟩:=hcut;have m:=aa X.g2 (aa Y.g2 R.g4);obtain⟨ap,ah⟩:=MQ ac H.out.symm;have a1:Nat.gcd p.natAbs o.natAbs≠0:=fun h=>by have:=Nat.eq_zero_of_gcd_eq_zero_right h;omega
  have a2:nl (Nat.gcd p.natAbs o.natAbs)<=nl o.natAbs:=cK (aqY (by omega) (azU _ _));have aw:=jN p (Nat.gcd p.natAbs o.natAbs:Nat) _ B;have av:=jN o (Nat.gcd p.natAbs o.natAbs:Nat) _ z;have aq:0<o.tdiv (Nat.gcd p.natAbs o.natAbs:Nat):=by rw[<-ah];have:=q.den_nz;omega
  have ao:=fun W h1 h2=>MR p o (.agg #[.bool P,.slice I O J]) (.agg #[.bool s2,.slice Z k2 c2]) W h1 h2 B z;have r:=aB (And.intro ap ah);clear ap ah;generalize Nat.gcd p.natAbs o.natAbs=g at *;go_wp2_with fail;refine(ao _ hn f).mono ?_;rintro e4 w4 ⟨v4,rfl,i,y⟩;obtain⟨s4,A4,k4,c4,rfl⟩:=i.form;replace X:=X.be y;replace Y:=Y.be y;replace R:=R.be y;replace m:=aa X.g2 (aa Y.g2 R.g4);replace b:=KM.be y;replace hn:=hn.ke b;replace f:=f.ke b;replace a:=aC a y;clear ao;go_wp2_with fail;have aj:=X.lt;have ak:=Y.lt;have ai:=R.lt;have ax:=a.size;obtain⟨w5,am,S,G⟩:=bI w4 [.bool s4,.slice A4 k4 c4] 60;replace X:=X.be S;replace Y:=Y.be S;replace R:=R.be S;replace b:=KM.be S;replace a:=aC a S;replace hn:=hn.ke b;replace f:=f.ke b;replace i:=i.ke b;rw[am];clear am;replace m:=aa X.g2 (aa Y.g2 (aa R.g4 G.k2));have ag:nl g<=549755813888:=by omega
  refine(EI _ _ _ i (by rw[dD];exact ag)).mono ?_;rintro e6 w6 ⟨bb,rfl,T, -,K⟩;rw[dD] at T;replace X:=X.be K;replace Y:=Y.be K;replace R:=R.be K;replace G:=G.be K;replace m:=aa X.g2 (aa Y.g2 (aa R.g4 G.k2));replace b:=KM.be K;replace hn:=hn.ke b;replace f:=f.ke b;replace i:=i.ke b;replace a:=aC a K;go_upto_if 17 with fail;go_cut [] (fun wx=>EE w q true wx)
  case first=>
   by_cases af:1<g
   ·have q1:decide (1<bb)=true:=by simpa using T.2 af
    have ar:=fun W u v h k=>EG p (g:Int) u v W h k B (by rw[dD];exact ag) (by omega);have au:=fun W u v h k=>EG o (g:Int) u v W h k z (by rw[dD];exact ag) (by omega);unfold EF at ar au;have a0:Hid (((p.tdiv (g:Int):Int):Rat)/((o.tdiv (g:Int):Int):Rat)=q):=by
     unfold Hid;rw[<-r.out.1,<-r.out.2,aq3,<-Rat.mkRat_eq_div,byC]
    generalize p.tdiv (g:Int)=N at *;generalize o.tdiv (g:Int)=D at *;clear T;go_wp2_with fail;refine(ar _ _ _ hn i).mono ?_;rintro e7 w7 ⟨v7,a3,rfl,F, -,L⟩;obtain⟨s7,A7,k7,c7,rfl⟩:=F.form;replace X:=X.be L;replace Y:=Y.be L;replace R:=R.be L;replace G:=G.be L;replace m:=aa X.g2 (aa Y.g2 (aa R.g4 G.k2));replace b:=KM.be L;replace hn:=hn.ke b;replace f:=f.ke b;replace i:=i.ke b;replace a:=aC a L;go_wp2_with fail;have aj:=X.lt;have ak:=Y.lt;have ai:=R.lt;have ay:=G.lt;have ax:=a.size;obtain⟨w8,an,X,a,b,j⟩:=X.mut2 a (by omega) (.bool s7) (.slice A7 k7 c7) rfl rfl;replace Y:=j Y (by omega);replace R:=j R (by omega);replace G:=j G (by omega);replace f:=f.ke b;replace i:=i.ke b;replace F:=F.ke b;rw[an];clear an;replace m:=aa X.g2 (aa Y.g2 (aa R.g4 G.k2));refine(au _ _ _ f i).mono ?_;rintro e9 w9 ⟨v9,a4,rfl,h9, -,M⟩;obtain⟨s9,A9,k9,c9,rfl⟩:=h9.form;replace X:=X.be M;replace Y:=Y.be M;replace R:=R.be M;replace G:=G.be M;replace m:=aa X.g2 (aa Y.g2 (aa R.g4 G.k2));replace b:=KM.be M;replace f:=f.ke b;replace i:=i.ke b;replace F:=F.ke b;replace a:=aC a M;go_wp2_with fail;have aj:=X.lt;have ak:=Y.lt;have ai:=R.lt;have ay:=G.lt;have ax:=a.size;obtain⟨W6,x,Y,a,b,j⟩:=Y.mut2 a (by omega) (.bool s9) (.slice A9 k9 c9) rfl rfl;replace X:=j X (by omega);replace R:=j R (by omega);replace G:=j G (by omega);replace F:=F.ke b;replace h9:=h9.ke b;rw[x];clear x;replace m:=aa X.k2 (aa Y.k2 (aa R.k4 G.k2));go_meet;exact⟨N,D,_,_,_,_,_,_,_,_,aq,a0,(fun _=>r),aw,av,X,Y,R,F,h9,a⟩
   ·have q1:decide (1<bb)=false:=by simpa using fun h=>af (T.1 h)
    have hg:g=1:=by omega
    subst hg;have az:Hid (q.num=p∧(q.den:Int)=o):=by have:=r.out;unfold Hid;simpa using this
    clear T af;go_wp2;go_meet;exact⟨p,o,_,_,_,_,_,_,_,_,ac,H,(fun _=>az),B,z,X,Y,R,hn,f,a⟩
  case rest=>
   clear X Y R hn f a m B z r H ac aq av aw;obtain⟨N,D,P,I,O,J,s2,Z,k2,c2,ac, -,hP,B,z,X,Y,R,hn,f,a⟩:=hcut;have r:=hP rfl;clear hP;have m:=aa X.g2 (aa Y.g2 R.g4);go_wp2_with fail;refine(EI _ _ _ f z).mono ?_;rintro e6 a5 ⟨al,rfl, -,ab,V⟩;replace X:=X.be V;replace Y:=Y.be V;replace R:=R.be V;replace m:=aa X.g2 (aa Y.g2 R.g4);replace b:=KM.be V;replace hn:=hn.ke b;replace f:=f.ke b;replace a:=aC a V;by_cases ad:D=1
   ·have q1:(al==1)=true:=by simpa using ab.2 (by rw[ad];rfl)
    have ae:Hid (bS q=0):=fV.2 (by have:=r.out.2;omega);clear ab ad;go_wp2_with fail;obtain⟨U0,Q,Y,a,b,j⟩:=Y.mut2 a (by omega) (.bool false) (.slice none 0 0) rfl rfl;replace X:=j X (by omega);replace R:=j R (by omega);replace hn:=hn.ke b;obtain⟨W6,x,R,a,b,j⟩:=R.mut4 a (by omega) (.bool P) (.slice I O J) (.bool false) (.slice none 0 0) rfl rfl;replace X:=j X (by omega);replace Y:=j Y (by omega);replace hn:=hn.ke b;rw[Q,x];clear Q x;replace m:=aa X.k2 (aa Y.k2 R.k4);exact aM (v:= .agg #[.bool P,.slice I O J,.bool false,.slice none 0 0]) (by simp[results,results104,go_sem,R.k4]) rfl ⟨_,rfl,NQ.of hn (NI.zero _) r.out.1 ae.out,a⟩
   ·have q1:(al==1)=false:=by simpa using fun h=>ad (by have:=ab.1 h;omega)
    have ae:Hid (bS q=D):=(mI (by have:=r.out.2;omega)).trans r.out.2;clear ab ad;go_wp2_with fail;obtain⟨W6,x,R,a,b,j⟩:=R.mut4 a (by omega) (.bool P) (.slice I O J) (.bool s2) (.slice Z k2 c2) rfl rfl;replace X:=j X (by omega);replace Y:=j Y (by omega);replace hn:=hn.ke b;replace f:=f.ke b;rw[x];clear x;replace m:=aa X.k2 (aa Y.k2 R.k4);exact aM (v:= .agg #[.bool P,.slice I O J,.bool s2,.slice Z k2 c2]) (by simp[results,results104,go_sem,R.k4]) rfl ⟨_,rfl,NQ.of hn f r.out.1 ae.out,a⟩
def oC(q:Rat)(v:Value)(w:World)(hv:NQ w v q)(h:nl q.num.natAbs<=1099511627776):Calls prog 51 #[v] w (eO w q.num.sign):=by
 obtain⟨s,A,k,c,i,d,g,e,rfl⟩:=hv.form;obtain⟨W,b,a,B⟩:=bI w [.bool s,.slice A k c,.bool i,.slice d g e] 62;have j:=B.g4;go_enter func51,ntmps51;go_wp2_with fail;(try rw[b]);clear b;refine(EK _ _ _ (hv.be a).num h).mono ?_;rintro l m ⟨rfl,f⟩;go_wp2;go_ret;exact⟨rfl,aC a f⟩
def NQ.len{w:World}{b:Bool}{A:Option Addr}{k c:Nat}(h:NQ w (.agg #[.bool s,u,.bool b,.slice A k c]) q):((k:Int)==0)=decide (q.den=1):=by
 have:=h.den.words.len.1;rw[Int.natAbs_eq_zero,fV] at this;by_cases a:q.den=1
 ·rw[this.2 a];simp[a]
 ·have:k≠0:=fun e=>a (this.1 e);simp[a,this]
def CF(q:Rat)(v:Value)(w:World)(hv:NQ w v q)(K:Nat)(i:RL K q)(O:K<=549755813888):Calls prog 44 #[v] w (CG w (cW q)):=by
 obtain⟨s,A,k,c,C,p,j,x,rfl⟩:=hv.form;have o:=hv.num.neg;have z:=hv.len;have F:=fun W h=>JL q.num (.agg #[.bool s,.slice A k c]) W h (aH i.1 (by omega));have G:=fun W h=>JL (bS q) (.agg #[.bool C,.slice p j x]) W h (aH (mY q) (aH i.2 (by omega)));have P:=wR q.num.natAbs K i.1;have Q:=wR (bS q).natAbs K (aH (mY q) i.2);have t:Hid (cW q=(if s=true then [45] else [])++Lib.decDigits q.num.natAbs++(if q.den=1 then [] else 47 :: Lib.decDigits (bS q).natAbs)):=by
  unfold Hid cW;rw[o];by_cases h:q.den=1
  ·simp[h]
  ·rw[mI h];simp[h]
 generalize Lib.decDigits q.num.natAbs=g at *;generalize Lib.decDigits (bS q).natAbs=l at *;have T:(⟨g.toArray⟩:ByteArray).size=g.length:=by simp[ByteArray.size]
 have U:(⟨l.toArray⟩:ByteArray).size=l.length:=by simp[ByteArray.size]
 have L:=aB o;have J:=aB z;clear o z;obtain⟨W,y,d,B⟩:=bI w [.bool s,.slice A k c,.bool C,.slice p j x] 62;have D:=B.g4;go_enter func44,ntmps44;go_wp2_with fail;(try rw[y]);clear y;replace hv:=hv.be d;refine(F _ hv.num).mono ?_;rintro M R ⟨rfl,n⟩;replace B:=B.be n;replace D:=B.k4;replace H:=KM.be n;replace hv:=hv.ke H;replace d:=aC d n;have f:=hv.den.words.len.1;rw[Int.natAbs_eq_zero,fV] at f;have u:∀a b:List UInt8,(⟨a.toArray⟩:ByteArray)++⟨b.toArray⟩=⟨(a++b).toArray⟩:=fun a b=>by
  rw[ByteArray.ext_iff];simp
 have r:=aB u;clear u;by_cases e:q.den=1
 ·have I:decide (0<j)=false:=by rw[f.2 e];rfl
  have m:Hid (cW q=(if s=true then [45] else [])++g):=by unfold Hid;rw[t.out,if_pos e,fH]
  clear f e;cases s
  all_goals (
   go_wp2;go_ret;exact⟨by rw[m.out];simp[r.out]<;>rfl,d⟩)
 ·have I:decide (0<j)=true:=by rw[iQ];exact bzI fun h=>e (f.1 h)
  have m:Hid (cW q=(if s=true then [45] else [])++g++47 :: l):=by unfold Hid;rw[t.out,if_neg e]
  clear f e;cases s
  all_goals (
   go_wp2_with fail;refine(G _ hv.den).mono ?_;rintro N S ⟨rfl,E⟩;go_wp2;go_ret;exact⟨by rw[m.out];simp[r.out]<;>rfl,aC d E⟩)
def VK(a b:Nat):nl (Nat.lcm a b)<=nl a+nl b:=by
 refine aH (cK ?_) (fI a b);unfold Nat.lcm;exact azK _ _
structure ComDen(qs:List Rat)(D:Int)(B:Nat):Prop where
 pos:0<D
 dvd:∀q∈qs,(q.den:Int)∣D
 nl_:nl D.natAbs<=B
def VL(w:World)(a:List Rat)(B:Nat)(e:Ending)(w':World):Prop:=∃v D,e= .returned v∧IntAt w' v D∧ComDen a D B∧Below w.1.size w w'
def ComDen.skip(h:ComDen (b.take j) D (1+j*K))(d:b[j]? =some q)(c:(q.den:Int)∣D):ComDen (b.take (j+1)) D (1+(j+1)*K):=by
 refine⟨h.pos,fun x a=> ?_,by have:=h.nl_;rw[aq2];omega⟩;rw[Q9,d,aqO] at a;rcases List.mem_append.1 a with a|a
 ·exact h.dvd x a
 ·simp at a;subst a;exact c
def ComDen.lcm(h:ComDen (b.take j) D (1+j*K))(d:b[j]? =some q)(g:nl q.den<=K):ComDen (b.take (j+1)) ((Nat.lcm D.natAbs q.den:Nat):Int) (1+(j+1)*K):=by
 have f:=h.pos;have e:Nat.lcm D.natAbs q.den≠0:=Nat.lcm_ne_zero (by omega) q.den_nz;refine⟨by omega,fun x a=> ?_,?_⟩
 ·rw[Q9,d,aqO] at a;rcases List.mem_append.1 a with a|a
  ·have c:=h.dvd x a;refine Int.ofNat_dvd.2 (bzF ?_ (Nat.dvd_lcm_left _ _));exact Int.ofNat_dvd_left.1 c
  ·simp at a;subst a;exact Int.ofNat_dvd.2 (Nat.dvd_lcm_right _ _)
 ·rw[dD,aq2];have:=VK D.natAbs q.den;have:=h.nl_;omega
def VM(g:List Rat)(v:Value)(w:World)(hG:Glob w)(hv:RatsAt w v g)(K KB:Nat)(hK:∀q∈g,RL K q)(hl:g.length<=1073741824)(a6:1+g.length*K<=KB)(a7:K<=KB)(ag:5*KB+4<=aJ):
  Calls prog 108 #[v] w (VL w g (1+g.length*K)):=by
 obtain⟨A,c,rfl,hc⟩:=hv.form;have R:Bx (w.alloc (.cells #[.bool false,.slice none 0 0] 77)) (w.1.size) [.bool false,.slice none 0 0] 77:=Bx.newAt w [.bool false,.slice none 0 0] 77 (w.1.size) (by simp);have a:Below w.1.size w (w.alloc (.cells #[.bool false,.slice none 0 0] 77)):=(aG _ _).alloc (by simp) _;go_enter func108,ntmps108;go_wp2_with fail;generalize w.alloc (.cells #[.bool false,.slice none 0 0] 77)=W at *;refine(lL 1 _ (by decide) (by decide)).mono ?_;rintro e1 l ⟨v1,rfl,H,aj⟩;obtain⟨s1,Q,k1,T,rfl⟩:=H.form;replace R:=R.be aj;replace p:=R.cell 0 rfl;replace ao:=R.free 0;replace r:=R.cell 1 rfl;replace ap:=R.free 1;replace f:=Keep.be aj;replace a:=aC a aj;go_wp2_with fail;have ax:=R.lt;have bi:=a.size;replace R:=R.alloc (.cells #[.bool s1,.slice Q k1 T] 77);have C:=Bx.newAt l [.bool s1,.slice Q k1 T] 77 (l.1.size) (by simp);replace a:=a.alloc a.size (.cells #[.bool s1,.slice Q k1 T] 77);replace f:=Keep.alloc l (.cells #[.bool s1,.slice Q k1 T] 77);replace H:=H.ke f;generalize l.alloc (.cells #[.bool s1,.slice Q k1 T] 77)=w2 at *;replace p:=R.cell 0 rfl;replace r:=R.cell 1 rfl;replace t:=C.cell 0 rfl;replace x:=C.cell 1 rfl;have aq:IntBx w2 l.1.size 1:=⟨_,_,_,_,C,H⟩;have au:=R;have av:=a;have bh:=ax;clear R C H p r ao ap t x f a;go_loopg [9] g.length (fun k i wr=>∃j D,Hid (j+k=g.length)∧i= .int .i64 j∧IntBx wr l.1.size D∧ComDen (g.take j) D (1+j*K)∧Bx wr w.1.size [.bool false,.slice none 0 0] 77∧Below w.1.size w wr)
 case atStart=>exact⟨0,1,by unfold Hid;omega,rfl,aq,⟨by decide,(fun q h=>by simp at h),by rw[show nl (1:Int).natAbs=1 from mJ (by decide) (by decide)];omega⟩,au,av⟩
 case round=>
  clear aq au av;obtain⟨j,D,y,rfl,hC,O,R,a⟩:=hrel;generalize wr=N at *;have bb:(0:Int)<=(j:Int):=by omega
  have bf:1+j*K<=KB:=by
   have:j*K<=g.length*K:=dK _ (by have:=y.out;omega);omega
  have a4:=O.nl_;have a5:=O.pos;obtain⟨sc,S,kc,U,C,n⟩:=id hC;cases gk with
  |zero=>
   have hj:j=g.length:=y.out;have az:ComDen g D (1+g.length*K):=by
    have:=O;rw[hj,aq9] at this;exact this
   replace p:=R.cell 0 rfl;replace ao:=R.free 0;replace r:=R.cell 1 rfl;replace ap:=R.free 1;replace t:=C.cell 0 rfl;replace am:=C.free 0;replace x:=C.cell 1 rfl;replace an:=C.free 1;have bg:¬(j:Int)<(g.length:Int):=by omega
   clear O hj y;go_wp2_with fail;have ay:=R.lt;have aw:=C.lt;have a0:=a.size;replace C:=(C.far 0 (.bool sc) (show w.1.size≠l.1.size by omega)).far 1 (.slice S kc U) (show w.1.size≠l.1.size by omega);replace f:=jU (s:=sc) (u:= .slice S kc U) a (by omega) R;clear R a;obtain⟨-, -,R,a,f⟩:=f;replace n:=n.ke f;generalize (N.setCell ⟨w.1.size,0,none⟩ (.bool sc)).setCell ⟨w.1.size,1,none⟩ (.slice S kc U)=W6 at *;replace p:=R.cell 0 rfl;replace r:=R.cell 1 rfl;replace t:=C.cell 0 rfl;replace x:=C.cell 1 rfl;exact aM (v:= .agg #[.bool sc,.slice S kc U]) (by simp[results,results108,go_sem,p,r]) rfl ⟨_,D,rfl,n,az,a⟩
  |succ k=>
   obtain⟨q,P⟩:∃q,g[j]? =some q:=⟨_,aR (by have:=y.out;omega)⟩;obtain⟨b,s,B,m,d,M,z,L,F,rfl,ba,g0,g1,g2,g3,J⟩:=(hv.be a).at_ P;have ar:=hK q (dG P);have a8:=mY q;have a9:=ar.2;have bc:(j:Int)<(g.length:Int):=by have:=y.out;omega
   have ab:=fun hd=>O.skip P hd;have al:=O.lcm P ar.2;have HQ:=aB P;clear P;go_wp2_with fail;have ay:=R.lt;have aw:=C.lt;have a0:=a.size;replace R:=R.alloc (.cells #[.bool s,.slice B m d,.bool M,.slice z L F] 86);replace C:=C.alloc (.cells #[.bool s,.slice B m d,.bool M,.slice z L F] 86);have X:=Bx.newAt N [.bool s,.slice B m d,.bool M,.slice z L F] 86 (N.1.size) (by simp);replace a:=a.alloc a.size (.cells #[.bool s,.slice B m d,.bool M,.slice z L F] 86);replace f:=Keep.alloc N (.cells #[.bool s,.slice B m d,.bool M,.slice z L F] 86);replace J:=J.ke f;replace n:=n.ke f;generalize N.alloc (.cells #[.bool s,.slice B m d,.bool M,.slice z L F] 86)=wa at *;replace p:=R.cell 0 rfl;replace r:=R.cell 1 rfl;replace t:=C.cell 0 rfl;replace x:=C.cell 1 rfl;replace ac:=X.cell 0 rfl;replace ad:=X.cell 1 rfl;replace ae:=X.cell 2 rfl;replace af:=X.cell 3 rfl;have I:=J.den;refine(g9 _ _ _ I (by unfold aJ at ag;omega)).mono ?_;rintro e2 bk ⟨rfl,V⟩;replace R:=R.be V;replace p:=R.cell 0 rfl;replace r:=R.cell 1 rfl;replace C:=C.be V;replace t:=C.cell 0 rfl;replace x:=C.cell 1 rfl;replace X:=X.be V;replace ac:=X.cell 0 rfl;replace ad:=X.cell 1 rfl;replace ae:=X.cell 2 rfl;replace af:=X.cell 3 rfl;replace f:=Keep.be V;replace J:=J.ke f;replace n:=n.ke f;replace I:=I.ke f;replace a:=aC a V;by_cases G:bS q=0
   ·have o:decide (bS q=0)=true:=by simpa using G
    rw[o];have ak:=ab (by rw[fV.1 G];exact Int.one_dvd _);clear o G ab al;go_wp2;go_roundg k
    case rel=>exact⟨j+1,D,by have:=y.out;unfold Hid;omega,by go_num,⟨_,_,_,_,C,n⟩,ak,R,a⟩
    case measure=>omega
   ·have o:decide (bS q=0)=false:=by simpa using G
    have ah:bS q=q.den:=mI (fun e=>G (fV.2 e));rw[o];clear o;go_wp2_with fail;refine(OH _ _ _ _ _ I n (by unfold aJ at ag;omega) (by unfold aJ at ag;omega)).mono ?_;rintro e3 w3 ⟨rfl,Y⟩;replace R:=R.be Y;replace p:=R.cell 0 rfl;replace r:=R.cell 1 rfl;replace C:=C.be Y;replace t:=C.cell 0 rfl;replace am:=C.free 0;replace x:=C.cell 1 rfl;replace an:=C.free 1;replace X:=X.be Y;replace ac:=X.cell 0 rfl;replace ad:=X.cell 1 rfl;replace ae:=X.cell 2 rfl;replace af:=X.cell 3 rfl;replace f:=Keep.be Y;replace J:=J.ke f;replace n:=n.ke f;replace I:=I.ke f;replace a:=aC a Y;by_cases he:bS q=D
    ·have o:decide (bS q=D)=true:=by simpa using he
     rw[o];have ak:=ab (by rw[<-he,ah];exact Int.dvd_refl _);clear o G ab al ah he;go_wp2;go_roundg k
     case rel=>exact⟨j+1,D,by have:=y.out;unfold Hid;omega,by go_num,⟨_,_,_,_,C,n⟩,ak,R,a⟩
     case measure=>omega
    ·have o:decide (bS q=D)=false:=by simpa using he
     rw[o];have ai:=fun W hG H h2=>OI D (bS q) (.agg #[.bool sc,.slice S kc U]) (.agg #[.bool M,.slice z L F]) W hG H h2 (by omega) G KB (by omega) (by omega) ag;have e5:(bS q).natAbs=q.den:=by rw[ah];rfl
     rw[e5] at ai;unfold dW at ai;clear o ab ah he e5;generalize ((Nat.lcm D.natAbs q.den:Nat):Int)=E at *;go_wp2_with fail;refine(ai _ (hG.be a) n I).mono ?_;rintro e4 w4 ⟨v4,rfl,h4,Z⟩;obtain⟨s4,A4,k4,c4,rfl⟩:=h4.form;replace R:=R.be Z;replace p:=R.cell 0 rfl;replace r:=R.cell 1 rfl;replace C:=C.be Z;replace t:=C.cell 0 rfl;replace am:=C.free 0;replace x:=C.cell 1 rfl;replace an:=C.free 1;replace X:=X.be Z;replace ac:=X.cell 0 rfl;replace ad:=X.cell 1 rfl;replace ae:=X.cell 2 rfl;replace af:=X.cell 3 rfl;replace f:=Keep.be Z;replace a:=aC a Z;clear ai;go_wp2_with fail;have a2:=R.lt;have a1:=C.lt;have a3:=X.lt;have bj:=a.size;replace R:=(R.far 0 (.bool s4) (show l.1.size≠w.1.size by omega)).far 1 (.slice A4 k4 c4) (show l.1.size≠w.1.size by omega);replace X:=(X.far 0 (.bool s4) (show l.1.size≠N.1.size by omega)).far 1 (.slice A4 k4 c4) (show l.1.size≠N.1.size by omega);replace f:=jU (s:=s4) (u:= .slice A4 k4 c4) a (by omega) C;clear C a;obtain⟨-, -,C,a,f⟩:=f;replace h4:=h4.ke f;generalize (w4.setCell ⟨l.1.size,0,none⟩ (.bool s4)).setCell ⟨l.1.size,1,none⟩ (.slice A4 k4 c4)=W6 at *;replace p:=R.cell 0 rfl;replace r:=R.cell 1 rfl;replace t:=C.cell 0 rfl;replace x:=C.cell 1 rfl;replace ac:=X.cell 0 rfl;replace ad:=X.cell 1 rfl;replace ae:=X.cell 2 rfl;replace af:=X.cell 3 rfl;go_roundg k
     case rel=>exact⟨j+1,E,by have:=y.out;unfold Hid;omega,by go_num,⟨_,_,_,_,C,h4⟩,al,R,a⟩
     case measure=>omega
