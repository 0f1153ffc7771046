/- Laws. -/
import Derived.Test.YtmiaanioldpfgaaGreatDoorX14
import Derived.Deep.DeepCutAuto
import Derived.Deep.LoopGhost
set_option linter.all false
set_option maxHeartbeats 8000000
set_option maxRecDepth 99999
namespace Go.Proofs.YtmiaanioldpfgaaGreatDoor
open Go.RowKit Sos Tryz
variable{M c k n s t x:Nat}{w wr wx:World}{S:Value}{As e vs:List Nat}{a:Act}
def EO(w:World)(a d:Nat)(e:Ending)(w':World):Prop:=∃v,e= .returned (.tuple #[v,.int .u32 ((a%d:Nat):Int)])∧Mg w' v (a/d)∧(∀g,v.ownBlock=some g->w.1.size<=g∧g<w'.1.size)∧Below w.1.size w w'
def EP(a d:Nat)(M:Value)(w:World)(Y:Mg w M a)(la:nl a<=1099511627776)(h:0<d)(ae:d<4294967296):
  Calls prog 132 #[M,.int .u32 (d:Int)] w (EO w a d):=by
 obtain⟨X,j,L,rfl⟩:=Y;have lX:=KS L rfl;have W:=j.dg;obtain⟨A,c,rfl,hc⟩:=j.form;clear L;go_enter func132,ntmps132;go_wp2_with (at_make;refine jT rfl rfl 140 _ 1 4 underlying58 oX rfl (by decide) X.length rfl rfl rfl rfl (by omega) (by omega) ?_;intro w1 ad H E);have R:=Bx.zeros H;clear H ad;go_loopg [7,8] X.length (fun k s t wr=>∃(Q:List Nat) (r:Nat) (i:Int),Hid (i+1=k)∧s= .int .u64 (r:Int)∧t= .int .i64 i∧ -1<=i∧i<X.length∧r<d∧Hid (Q.length+k=X.length)∧Dg Q∧Hid (d*nv Q+r=nv (X.drop k))∧Bx wr w.1.size (U (List.replicate k 0++Q)) 140∧Below w.1.size w wr)
 case atStart=>exact⟨[],0,(X.length:Int)-1,by unfold Hid;omega,rfl,rfl,by omega,by omega,h,by unfold Hid;simp,(fun d b=>by cases b),by unfold Hid;rw[azY];rfl,by rw[fH];exact R,E⟩
 case round=>
  clear R E;obtain⟨Q,r,i,u,rfl,rfl,h1,h2,n,v,B,y,R,l⟩:=hrel;generalize wr=wx at *;cases gk with
  |zero=>
   have F:¬0<=i:=by have:=u.out;omega
   have G:Q.length=X.length:=v.out;rw[aq8,iM] at R;have hv:d*nv Q+r=nv X:=y.out;have e:nv X%d=r:=by rw[<-hv,Nat.mul_add_mod,jJ n]
   have b:nv Q=nv X/d:=by rw[<-hv,byU h,azT n,gQ]
   have K:=ES Q [] w.1.size _ X.length wx (by rw[fH];exact R) B b (by omega) (by omega);rw[G] at K;have O:=aB e;clear G hv e b;go_wp2_with fail;refine K.mono ?_;rintro C w2 ⟨k2,c2,rfl,e,rfl⟩;go_wp2;go_ret2;exact⟨_,by rw[O.out];rfl,e,fun g hg=>by have:=R.lt;simp[Value.ownBlock] at hg;omega,l⟩
  |succ k=>
   have F:i=(k:Int):=by have:=u.out;omega
   subst F;obtain⟨x,f⟩:∃x,X[k]? =some x:=⟨_,aR (by omega)⟩;obtain⟨bx,rfl,af,gx⟩:=(j.be l).at_ f;have N:=W.get f;unfold aD at N;have g0:=R.last;have f0:=R.free k;have ag:=zG r x (by omega) N;have V:=aB (zM f);clear f;have I:r*aD+x<d*4294967296:=by
    have:(r+1)*4294967296<=d*4294967296:=dK _ n;unfold aD;omega
   have ac:d*4294967296<=4294967295*4294967296:=dK _ (by omega);generalize D:r*aD+x=S at *;have P:=aB D;have Z:S/d<4294967296:=mU I;have ab:S%d<d:=dI _ h;have e1:((S:Int))/(d:Int)=((S/d:Nat):Int):=(azR S d).symm;have C:((S:Int))%(d:Int)=((S%d:Nat):Int):=(bx8 S d).symm;have J:d*nv (S/d :: Q)+S%d=nv (X.drop k):=by
    rw[V.out,<-y.out];exact fqQ (by rw[dN,iD,P.out])
   have T:=aB J;have ah:S<=18446744073709551615:=by omega
   clear J D I ac;generalize S/d=q at *;generalize S%d=m at *;go_wp2;go_roundg k
   case rel=>exact⟨q :: Q,m,(k:Int)-1,by unfold Hid;omega,by rw[C],by go_num,by omega,by omega,ab,by have:=v.out;unfold Hid;rw[eG];omega,(fun z o=>by
    rcases List.mem_cons.1 o with rfl|o
    ·exact Z
    ·exact B z o),T,R.prev rfl,l.setCell (p:=⟨w.1.size,k,none⟩) aE _⟩
   case measure=>omega
def MW{z:Nat}(k:s<32)(e:x<4294967296)(g:z<2^s):∃V L H:Nat,IntKind.u64.wrap ((x:Int)*2^s)=V∧V<=18446744073709551615∧bits .or .u32 (z:Int) ((V:Int)%4294967296)=L∧(V:Int)/4294967296=H∧L<4294967296∧H<2^s∧H<4294967296∧L+aD*H=z+2^s*x:=by
 have c:x*2^s<4294967296*2^s:=bxF e (eQ (by decide));have h:2^s<=2^31:=fT (by decide) (by omega);have a:(4294967296:Nat)=2^s*2^(32-s):=by rw[<-KF,show s+(32-s)=32 by omega]
 have b:x*2^s%4294967296=2^s*(x%2^(32-s)):=by conv=>lhs;rw[a,dN x,Nat.mul_mod_mul_left]
 have f:x%2^(32-s)+1<=2^(32-s):=dI _ (eQ (by decide));have d:2^s*(x%2^(32-s)+1)<=4294967296:=by rw[a];exact eV _ f
 have j:=dI (x*2^s) (show 4294967296>0 by decide);have i:=bxO (x*2^s) 4294967296;refine⟨x*2^s,z+x*2^s%4294967296,x*2^s/4294967296,?_,by omega,?_,(azR _ _).symm,by rw[b];rw[iL] at d;omega,mU c,by omega,by unfold aD;rw[dN (2^s)];omega⟩
 ·rw[show((x:Int)*2^s)=((x*2^s:Nat):Int) by rw[az8,bx9];rfl];exact IntWalk.u64_in _ (by omega)
 ·rw[show((x*2^s:Nat):Int)%4294967296=((x*2^s%4294967296:Nat):Int) from(bx8 _ _).symm,u32_or _ _ (by omega) (by omega) (by omega) (by omega),j9,j9,b,Nat.or_comm,zO g,aq1]
def MX{y:Nat}(i:s<32)(e:x<4294967296)(j:y<4294967296):∃V L:Nat,IntKind.u64.wrap (32-(s:Int))=((32-s:Nat):Int)∧IntKind.u64.wrap ((y:Int)*2^(32-s))=V∧IntKind.u32.wrap (V:Int)=L∧bits .or .u32 ((x/2^s:Nat):Int) (L:Int)=((x/2^s+L:Nat):Int)∧L=2^(32-s)*(y%2^s)∧x/2^s+L<4294967296:=by
 have a:(4294967296:Nat)=2^(32-s)*2^s:=by rw[<-KF,show 32-s+s=32 by omega]
 have d:0<2^s:=eQ (by decide);have h:y*2^(32-s)<=4294967295*4294967296:=aqK (by omega) (fT (n:=2) (by decide) (show 32-s<=32 by omega));have c:y*2^(32-s)%4294967296=2^(32-s)*(y%2^s):=by conv=>lhs;rw[a,dN y,Nat.mul_mod_mul_left]
 have f:x/2^s<2^(32-s):=mU (by rw[dN,<-a];exact e);have g:y%2^s+1<=2^s:=dI _ d;have b:2^(32-s)*(y%2^s+1)<=4294967296:=by rw[a];exact eV _ g
 rw[iL,az9] at b;generalize x/2^s=k at *;refine⟨y*2^(32-s),2^(32-s)*(y%2^s),?_,?_,?_,?_,rfl,by omega⟩
 ·rw[show(32:Int)-s=((32-s:Nat):Int) by omega];exact IntWalk.u64_in _ (by omega)
 ·rw[show((y:Int)*2^(32-s))=((y*2^(32-s):Nat):Int) by rw[az8,bx9];rfl];exact IntWalk.u64_in _ (by omega)
 ·rw[IntKind.wrap_u32,<-c];exact(bx8 _ _).symm
 ·rw[u32_or _ _ (by omega) (by omega) (by omega) (by omega),j9,j9,Nat.or_comm,zO f,aq1]
def MY(w:World)(X:List Nat)(s:Nat)(e:Ending)(w':World):Prop:=e= .returned (.slice (some ⟨w.1.size,0,none⟩) (X.length+1) (X.length+1))∧∃Z:List Nat,Bx w' w.1.size (U Z) 140∧Z.length=X.length+1∧Dg Z∧nv Z=2^s*nv X∧Below w.1.size w w'
def EQ(X:List Nat)(D:Value)(s:Nat)(w:World)(g:Ds w D X)(lX:X.length<=2199023255552)(N:s<32):
  Calls prog 201 #[D,.int .u64 (s:Int)] w (MY w X s):=by
 have I:=g.dg;obtain⟨A,c,rfl,hc⟩:=g.form;go_enter func201,ntmps201;go_wp2_with (at_make;refine jT rfl rfl 140 _ 1 4 underlying58 oX rfl (by decide) (X.length+1) rfl rfl rfl rfl (by omega) (by omega) ?_;intro w1 O C u);have R:=Bx.zeros C;clear C O;go_loopg [6] X.length (fun k t wr=>∃(P:List Nat) (z i:Nat),Hid (i+k=X.length)∧t= .int .i64 (i:Int)∧Hid (P.length=i)∧Dg P∧Hid (z<2^s)∧Hid (nv P+aD^i*z=2^s*nv (X.take i))∧Bx wr w.1.size (U (P++z :: List.replicate k 0)) 140∧Below w.1.size w wr)
 case atStart=>exact⟨[],0,0,by unfold Hid;omega,rfl,rfl,(fun d K=>by cases K),eQ (by decide),rfl,R,u⟩
 case round=>
  clear R u;obtain⟨P,z,i,f,rfl,a,o,n,l,R,h⟩:=hrel;generalize wr=wx at *;have ac:(0:Int)<=(i:Int):=by omega
  cases gk with
  |zero=>
   have M:i=X.length:=f.out;subst M;have v:¬(X.length:Int)<(X.length:Int):=by omega
   go_wp2;go_ret;refine⟨rfl,P++[z],R,by rw[jR a.out],o.snoc (aZ n.out (fT (by decide) (show s<=32 by omega))),?_,h⟩;rw[mE z a.out,l.out,iN aE]
  |succ k=>
   have v:i<X.length:=by have:=f.out;omega
   obtain⟨x,e⟩:∃x,X[i]? =some x:=⟨_,aR v⟩;obtain⟨Q,rfl,ab,Y⟩:=(g.be h).at_ e;have E:=I.get e;unfold aD at E;have m:=aB (iR X i);rw[m9 e] at m;clear e;obtain⟨V,L,H,Z,h2,h3,h4,J,q,h7,r⟩:=MW N E n.out;have T:=R.mid a.out;have S:=fun j=>R.free j;have b:=R.next (y:=L) a.out rfl;rw[aqV] at b;have W:=b.mid (jR a.out);have B:=b.next (y:=H) (jR a.out) rfl;have hv:nv (P++[L])+aD^(i+1)*H=2^s*nv (X.take (i+1)):=by
    rw[m.out,mE _ a.out,dH,iW,bxE,<-iL,r,iL,iL,<-l.out,Nat.mul_left_comm];omega
   have G:=aB hv;have F:=aB q;clear hv r q b;go_wp2;go_roundg k
   case rel=>exact⟨P++[L],H,i+1,by have:=f.out;unfold Hid;omega,by go_num,jR a.out,o.snoc J,F,G,(by rw[eK] at B;exact B),(h.setCell (p:=⟨w.1.size,i,none⟩) aE _).setCell (p:=⟨w.1.size,i+1,none⟩) aE _⟩
   case measure=>omega
def ER(a b:Nat)(va vb:Value)(w:World)(ha:Mg w va a)(ar:Mg w vb b)(la:nl a<=1099511627776)(lb:nl b<=1099511627776):
  Calls prog 147 #[va,vb] w (zB w (a*b)):=by
 obtain⟨X,W,tX,rfl⟩:=ha;obtain⟨Y,hY,tY,rfl⟩:=ar;have lX:=KS tX rfl;have lY:=KS tY rfl;have dX:=W.dg;have dY:=hY.dg;obtain⟨A,c,rfl,hc⟩:=W.form;obtain⟨B,d,rfl,hd⟩:=hY.form;clear tX tY;by_cases G:X=[]
 ·subst G;rw[show nv []*nv Y=0 from azW _];go_enter func147,ntmps147;go_wp2;go_ret;exact⟨_,rfl,Mg.zero _ _ _,aG _ _⟩
 ·have qx:((X.length:Int)==0)=false:=by have:=List.length_pos_iff.2 G;simp;omega
  by_cases ac:Y=[]
  ·subst ac;rw[show nv X*nv []=0 from azP _];clear G;go_enter func147,ntmps147;go_wp2;go_ret;exact⟨_,rfl,Mg.zero _ _ _,aG _ _⟩
  ·have qy:((Y.length:Int)==0)=false:=by have:=List.length_pos_iff.2 ac;simp;omega
   clear G ac;go_enter func147,ntmps147;go_wp2_with (at_make;refine jT rfl rfl 140 _ 1 4 underlying58 oX rfl (by decide) (X.length+Y.length) rfl rfl rfl rfl (by omega) (by omega) ?_;intro w1 au ag ad);have R:=Bx.zeros ag;rw[aq1,<-bz9] at R;clear ag au;go_loopg [6] X.length (fun k t wr=>∃(P:List Nat) (i:Nat),Hid (i+k=X.length)∧t= .int .i64 (i:Int)∧Hid (P.length=i+Y.length)∧Dg P∧Hid (nv P=nv (X.take i)*nv Y)∧Bx wr w.1.size (U (P++List.replicate k 0)) 140∧Below w.1.size w wr)
   case atStart=>exact⟨_,0,by unfold Hid;omega,rfl,by unfold Hid;rw[dB];omega,Dg.zeros _,by unfold Hid;rw[NV,byQ];exact(azW _).symm,R,ad⟩
   case round=>
    clear R ad;obtain⟨P,i,J,rfl,l,S,HV,R,g⟩:=hrel;generalize wr=wx at *;have ay:(0:Int)<=(i:Int):=by omega
    cases gk with
    |zero=>
     have hi:i=X.length:=J.out;subst hi;have ae:¬(X.length:Int)<(X.length:Int):=by omega
     rw[aq8,fH] at R;have ht:=oW P w.1.size (nv X*nv Y) (X.length+Y.length) wx R S (by rw[HV.out,iN aE]) (by rw[l.out];exact aE) (by rw[l.out];omega);rw[l.out] at ht;go_wp2_with fail;refine ht.mono ?_;rintro e2 w2 ⟨v,rfl,hm,rfl⟩;go_wp2;go_ret;exact⟨_,rfl,hm,g⟩
    |succ k=>
     have ae:i<X.length:=by have:=J.out;omega
     obtain⟨x,F⟩:∃x,X[i]? =some x:=⟨_,aR ae⟩;have aj:=dX.get F;have HX:=aB (iR X i);rw[m9 F] at HX;have ao:=aB F;clear F;have af:(P.take i).length=i:=by rw[bK,l.out];omega
     have ai:(P.drop i).length=Y.length:=by rw[gG,l.out];omega
     have ap:=S.take i;have aq:=S.drop i;have ah:=N7 P i;rw[<-List.take_append_drop i P] at R;generalize P.take i=h at *;generalize P.drop i=f at *;have L:=aB af;have u:=aB ai;have am:=aB ah;clear af ai ah;go_wp2_with fail;go_loopg [7,8] Y.length (fun m s t wr=>∃(Z T:List Nat) (e j:Nat),Hid (j+m=Y.length)∧s= .int .u64 (e:Int)∧t= .int .i64 (j:Int)∧e<aD∧Hid (Z.length=j)∧Hid (f.drop j=T)∧Dg Z∧Hid (nv Z+aD^j*e=nv (f.take j)+x*nv (Y.take j))∧Bx wr w.1.size (U ((h++Z)++(T++List.replicate (k+1) 0))) 140∧Below w.1.size w wr)
     case atStart=>exact⟨[],f,0,0,by unfold Hid;omega,rfl,rfl,mV,rfl,rfl,(fun d hd=>by cases hd),by unfold Hid;rw[byQ,byQ];simp[nv],by rw[fH,<-eK];exact R,g⟩
     case round=>
      clear R g;obtain⟨Z,T,e,j,K,rfl,rfl,D,o,M,dZ,N,R,g⟩:=hrel;generalize wr=wy at *;have az:(0:Int)<=(j:Int):=by omega
      have r:Hid ((h++Z).length=i+j):=by unfold Hid;rw[bN,L.out,o.out]
      cases gk with
      |zero=>
       have hj:j=Y.length:=K.out;subst hj;have E:¬(Y.length:Int)<(Y.length:Int):=by omega
       have V:T=[]:=by rw[<-M.out,<-u.out];exact azY
       subst V;rw[iM,aqV] at R;have g0:=R.mid r.out;have f0:=fun n=>R.free n;have hn:=R.next (y:=e) r.out rfl;have hv:nv (h++(Z++[e]))=nv (X.take (i+1))*nv Y:=by
        rw[mF,mE e o.out,L.out,N.out,iN (by rw[u.out];exact aE),iN aE,HX.out,aqA,<-HV.out,am.out,iL,iW,bxE]
       have an:=aB hv;clear hv;unfold aD at D;go_wp2;go_roundg k
       case rel=>exact⟨h++(Z++[e]),i+1,by have:=J.out;unfold Hid;omega,by go_num,by unfold Hid;rw[bN,jR o.out,L.out];omega,ap.app (dZ.snoc D),an,(by rw[<-eK];exact hn),g.setCell (p:=⟨w.1.size,i+Y.length,none⟩) aE _⟩
       case measure=>omega
      |succ m=>
       have E:j<Y.length:=by have:=K.out;omega
       obtain⟨y,H⟩:∃y,Y[j]? =some y:=⟨_,aR E⟩;obtain⟨z,I⟩:∃z,f[j]? =some z:=⟨_,aR (by rw[u.out];exact E)⟩;obtain⟨bx,rfl,aw,gx⟩:=(W.be g).at_ ao.out;obtain⟨av,rfl,ax,gy⟩:=(hY.be g).at_ H;have ak:=dY.get H;have al:=aq.get I;have V:T=z :: f.drop (j+1):=by rw[<-M.out];exact(j5 (by rw[u.out];exact E)).trans (by rw[(List.getElem?_eq_some_iff.1 I).2])
       subst V;have O:=aB (iR Y j);have Q:=aB (iR f j);rw[m9 H] at O;rw[m9 I] at Q;clear H I M;have g0:=R.mid r.out;have f0:=fun n=>R.free n;obtain⟨C,b2⟩:=N9 aj ak D al;have ab:=zI o.out N.out (show e+(x*y+z)=e+(x*y+z) from rfl);rw[show nv (f.take j)+x*nv (Y.take j)+aD^j*(x*y+z)=nv (f.take (j+1))+x*nv (Y.take (j+1)) by rw[O.out,Q.out];grind] at ab;have w1:IntKind.u64.wrap ((x:Int)*y)=((x*y:Nat):Int):=by rw[<-az8];exact IntWalk.u64_in _ (by unfold aD at C;omega)
       generalize x*y=p at *;have w2:IntKind.u64.wrap ((p:Int)+z)=((p+z:Nat):Int):=by rw[<-Int.natCast_add];exact IntWalk.u64_in _ (by unfold aD at C;omega)
       generalize hq:p+z=q at *;have w3:IntKind.u64.wrap ((e:Int)+q)=((e+q:Nat):Int):=by rw[<-Int.natCast_add];exact IntWalk.u64_in _ (by unfold aD at C;omega)
       have a0:e+q<=18446744073709551615:=by unfold aD at C;omega
       generalize e+q=s at *;have HS:=aB ab;have w4:=IntWalk.i64_in ((i:Int)+j) (by omega);have w5:(0:Int)<=(i:Int)+j:=by omega
       have w6:((i:Int)+j).toNat=i+j:=by omega
       have w7:i+j<X.length+Y.length:=by omega
       clear ab hq N O Q;unfold aD at aj ak al D b2;go_wp2_with fail;go_quiet (fail);go_wp2;go_roundg m
       case rel=>exact⟨Z++[s%aD],f.drop (j+1),s/aD,j+1,by have:=K.out;unfold Hid;omega,vH (by unfold aD;omega),by go_num,b2,jR o.out,rfl,dZ.snoc (dI _ mV),HS,(by
        rw[<-eK h];exact(show Bx (wy.drewN _) _ (U ((h++Z)++z :: (f.drop (j+1)++List.replicate (k+1) 0))) _ from R).next r.out (pW (a:=(s:Int)%4294967296) (b:=s%aD) (by unfold aD;omega))),(kI g _).setCell (p:=⟨w.1.size,i+j,none⟩) aE _⟩
       case measure=>omega
def pV:Code->List Code
 | .loop c=>[c]
 | .seq a b=>pV a++pV b
 | .block _ c=>pV c
 | .scope c=>pV c
 | .cond _ a b=>pV a++pV b
 |_=>[]
noncomputable def dvBody:Code:=((Tryz.f179.body.map pV).getD []).getD 1 .skip
def vF(S V U N Q:Value)(f:Nat->Value)(J:Value):Act:=⟨#[f 0,f 1,f 2,f 3,f 4,f 5,f 6,f 7,S,V,U,N,f 12,Q,J,f 15,f 16,f 17,f 18,f 19,f 20,f 21,f 22,f 23,f 24,f 25,f 26,f 27,f 28,f 29,f 30,f 31,f 32,f 33,f 34,f 35,f 36,f 37,f 38,f 39,f 40,f 41,f 42,f 43,f 44,f 45,f 46,f 47,f 48,f 49,f 50,f 51,f 52,f 53,f 54,f 55,f 56,f 57,f 58,f 59,f 60,f 61,f 62,f 63,f 64,f 65,f 66,f 67,f 68,f 69,f 70,f 71,f 72,f 73,f 74,f 75,f 76,f 77,f 78,f 79,f 80,f 81,f 82,f 83,f 84,f 85,f 86,f 87,f 88,f 89,f 90,f 91,f 92,f 93,f 94,f 95,f 96,f 97,f 98,f 99,f 100,f 101,f 102,f 103,f 104,f 105,f 106,f 107,f 108,f 109,f 110,f 111,f 112,f 113,f 114,f 115,f 116,f 117,f 118,f 119,f 120,f 121,f 122,f 123,f 124,f 125,f 126,f 127,f 128,f 129,f 130,f 131,f 132,f 133,f 134,f 135,f 136,f 137,f 138,f 139,f 140,f 141,f 142,f 143,f 144,f 145,f 146,f 147,f 148,f 149,f 150,f 151,f 152,f 153,f 154,f 155,f 156,f 157,f 158,f 159,f 160,f 161,f 162,f 163,f 164,f 165,f 166,f 167,f 168,f 169,f 170,f 171,f 172,f 173,f 174,f 175,f 176,f 177,f 178,f 179,f 180,f 181,f 182,f 183,f 184,f 185,f 186,f 187,f 188,f 189,f 190,f 191,f 192,f 193,f 194,f 195,f 196,f 197,f 198,f 199,f 200,f 201,f 202,f 203,f 204,f 205,f 206,f 207,f 208,f 209,f 210,f 211,f 212,f 213,f 214,f 215,f 216,f 217,f 218,f 219,f 220,f 221,f 222,f 223,f 224,f 225,f 226,f 227,f 228,f 229,f 230,f 231,f 232,f 233,f 234,f 235,f 236,f 237,f 238,f 239,f 240,f 241,f 242,f 243,f 244,f 245,f 246,f 247,f 248,f 249,f 250,f 251,f 252,f 253,f 254,f 255,f 256,f 257,f 258,f 259,f 260,f 261,f 262,f 263,f 264,f 265,f 266,f 267,f 268,f 269,f 270,f 271,f 272,f 273,f 274,f 275,f 276,f 277,f 278,f 279,f 280,f 281,f 282,f 283,f 284,f 285,f 286,f 287,f 288,f 289,f 290,f 291,f 292,f 293,f 294,f 295,f 296,f 297,f 298,f 299],[]⟩
def EN(w:World)(e d c n M:Nat)(vs b:List Nat)(k:Nat)(J:Value)(wr:World):Prop:=
 ∃(us a:List Nat) (j:Int) (z:Nat),Hid (j+1=k)∧J= .int .i64 j∧ -1<=j∧j<=M∧Hid (us.length=n+k)∧Hid (z+k=M+1)∧Dg us∧Dg a∧Hid (nv us<nv vs*aD^k)∧Hid (nv us+nv vs*aD^k*nv a=nv b)∧
  Bx wr e (U (vs++[0])) 140∧Bx wr d (U (us++List.replicate z 0)) 140∧Bx wr c (U (List.replicate k 0++a)) 140∧Hid (a.length=z)∧Below w.1.size w wr
def vG(S:Value)(d c b n M a e:Nat):(Nat->Value)->Value->Act:=vF S (.slice (some ⟨d,0,none⟩) n (e+1)) (.slice (some ⟨c,0,none⟩) (a+1) (a+1)) (.int .i64 (n:Int)) (.slice (some ⟨b,0,none⟩) (M+1) (M+1))
def DvI(w:World)(S:Value)(d c b n M:Nat)(vs f:List Nat)(e g:Nat)(k:Nat)(a:Act)(wr:World):Prop:=
 ∃l:List Value,a=⟨l.toArray,[]⟩∧l.length=300∧EN w d c b n M vs f k (l.getD 14 undef) wr∧l.getD 8 undef=S∧l.getD 9 undef= .slice (some ⟨d,0,none⟩) n (g+1)∧l.getD 10 undef= .slice (some ⟨c,0,none⟩) (e+1) (e+1)∧l.getD 11 undef= .int .i64 (n:Int)∧l.getD 13 undef= .slice (some ⟨b,0,none⟩) (M+1) (M+1)
def MU(f:Nat->Value):⟨((List.range 300).map f).toArray,[]⟩=vF (f 8) (f 9) (f 10) (f 11) (f 13) f (f 14):=rfl
def DvI.open_{d b:Nat}{g j:Nat}(h:DvI w S d c b n M vs e g j k a wr):∃f J,EN w d c b n M vs e k J wr∧a=vG S d c b n M g j f J:=by
 obtain⟨l,rfl,t,u,r,s,o,p,q⟩:=h;refine⟨fun i=>l.getD i undef,_,u,?_⟩;unfold vG;rw[<-r,<-s,<-o,<-p,<-q,<-MU (fun i=>l.getD i undef)];congr 2;refine bzO (by simp[t]) (fun i m v=> ?_);simp[m]
def MV{I A H p:Nat}{lx ly:Nat}(HV:Hid (Dvs vs n p))(ce:w.1.size<=I)(cs:I<A)(cr:A<H)(bi:Hid (lx+1=n+(M+1)))(cm:lx<=2199023255552)(co:2<=n)(cl:n<=ly+1)(hM:M<=lx)(k:Nat)(hI:DvI w S I A H n M vs As lx ly (k+1) a wx)
  (JJ:Nat->Act->World->Prop)(K:Act->World->Prop)(Q0:Exit->Act->World->Prop)(hJ:∀k a' w',DvI w S I A H n M vs As lx ly k a' w'->JJ k a' w')(hK:∀a' w',Handed JJ (k+1) a' w'->K a' w'):dvBody.wp prog (Exit.then K Q0) a wx:=by
 obtain⟨f,J,⟨us,rs,j,z,HJ,rfl,cj,ck,bb,HZ,dA,dR,bf,bs,l,e,o,bg,u⟩,rfl⟩:=hI.open_;unfold vG vF;have b4:j=(k:Int):=by have:=HJ.out;omega
 subst b4;have af:=aB HV.out.len;have bh:=aB HV.out.lt;have dV:=HV.out.dg;obtain⟨G,Q,t,u1,u0,E,v0,qt,rt,X,ap,ax,a8,a9,bq,br,bp⟩:=NU HV.out bb.out dA bf.out;have gt:=e.cell (k+n) (SL (X.c2 _));have g1:=e.cell (k+n-1) (SL (X.c1 _));have g0:=e.cell (k+n-2) (SL (X.c0 _));have a6:=l.cell (n-1) (SL X.d1);have a5:=l.cell (n-2) (SL X.d0);obtain⟨w1,w2,w3,w4,w5,w6,w7,w8,w9,b9⟩:IntKind.i64.wrap ((k:Int)+n)=(k:Int)+n∧IntKind.i64.wrap ((k:Int)+n-1)=(k:Int)+n-1∧(0:Int)<=(k:Int)+n-1∧((k:Int)+n-1).toNat=k+n-1∧((k:Int)+n).toNat=k+n∧(0:Int)<=(k:Int)+n∧k+n<lx+1∧k+n-1<lx+1∧IntKind.u64.wrap ((t:Int)*4294967296)=(t:Int)*4294967296∧k+n-2<lx+1:=by
  have:=bi.out;unfold aD at ap;exact⟨IntWalk.i64_in _ (by omega),IntWalk.i64_in _ (by omega),by omega,by omega,by omega,by omega,by omega,by omega,IntWalk.u64_in _ (by omega),by omega⟩
 have aw:=zG t u1 ap ax;have B:=aB X;have e1:((t*aD+u1:Nat):Int)/(E:Int)=(((t*aD+u1)/E:Nat):Int):=(azR _ _).symm;have V:((t*aD+u1:Nat):Int)%(E:Int)=(((t*aD+u1)%E:Nat):Int):=(bx8 _ _).symm;have au:=aB X.first;have ao:=X.first.hi;have ah:(t*aD+u1)%E<aD:=by8 (dI _ br) a9;have W:t*aD+u1<=18446744073709551615:=by unfold aD at ap ax⊢;omega
 generalize (t*aD+u1)/E=h at *;generalize (t*aD+u1)%E=r at *;generalize t*aD+u1=T at *;unfold aD at ap ax a8 a9 bq bp ao ah;clear X bf bb HV;conv=>arg 2;whnf
 go_wp2_with fail;go_quiet (fail);go_upto_block 4 with fail;go_cut [16,17] from 115 to 150 (fun s cu v=>∃C:Nat,s= .int .u64 (C:Int)∧qt<=C∧C<=qt+1∧C<4294967296∧Bx v I (U (vs++[0])) 140∧Bx v A (U (us++List.replicate z 0)) 140∧Bx v H (U (List.replicate (k+1) 0++rs)) 140∧Below w.1.size w v)
 case first=>
  replace u:=kI u nq;replace l:Bx (wx.drewN nq) _ _ _:=l;replace e:Bx (wx.drewN nq) _ _ _:=e;replace o:Bx (wx.drewN nq) _ _ _:=o;clear gt g1 g0 a6 a5;generalize wx.drewN nq=wx at *;obtain⟨x1,x2,x3,x4,x5,x6,x7,x8⟩:IntKind.i64.wrap ((n:Int)-2)=(n:Int)-2∧(0:Int)<=(n:Int)-2∧((n:Int)-2).toNat=n-2∧IntKind.i64.wrap ((k:Int)+n-2)=(k:Int)+n-2∧(0:Int)<=(k:Int)+n-2∧((k:Int)+n-2).toNat=k+n-2∧n-2<=n∧n-1<=n:=by
   have:=bi.out;exact⟨IntWalk.i64_in _ (by omega),by omega,by omega,IntWalk.i64_in _ (by omega),by omega,by omega,by omega,by omega⟩
  go_wp2_with fail;go_loopg [16,17] (h-qt) (fun g s t' v=>∃h r:Nat,Hid (h=qt+g)∧s= .int .u64 (h:Int)∧t'= .int .u64 (r:Int)∧Hid (Est t u1 E qt h r)∧r<4294967296∧h<=4294967297∧Bx v I (U (vs++[0])) 140∧Bx v A (U (us++List.replicate z 0)) 140∧Bx v H (U (List.replicate (k+1) 0++rs)) 140∧Below w.1.size w v)
  case atStart=>exact⟨h,r,by have:=au.out.lo;unfold Hid;omega,rfl,by rw[V],au,ah,ao,l,e,o,u⟩
  case round=>
   clear l e o u au ah ao e1 V;obtain⟨h,r,HG,rfl,rfl,HE,ah,ao,l,e,o,u⟩:=hrel;generalize wr=v at *;have g0:=e.cell (k+n-2) (SL (B.out.c0 _));have a6:=l.cell (n-1) (SL B.out.d1);have a5:=l.cell (n-2) (SL B.out.d0);rcases dE 4294967295 h with bz|bz
   ·have q0:decide ((4294967296:Int)<=(h:Int))=true:=by simp;omega
    obtain⟨hE,h1⟩:=B.out.more h r HE.out (.inl (by unfold aD;omega));have ac:=aB hE;clear hE;rcases dE 4294967295 (r+E) with an|an
    ·have q2:decide ((4294967296:Int)<=(r:Int)+E)=true:=by simp;omega
     have O:=B.out.fin _ _ ac.out (.inr (by unfold aD;omega));go_wp2_with fail;go_quiet (fail);go_wp2;go_meet;exact⟨h-1,by go_num,O.1,O.2.1,O.2.2,l,e,o,kI u _⟩
    ·have q2:decide ((4294967296:Int)<=(r:Int)+E)=false:=by simp;omega
     have q3:r+E<4294967296:=by omega
     obtain⟨g,rfl⟩:∃g,gk=g+1:=⟨gk-1,by have:=HG.out;have:=ac.out.lo;omega⟩;clear an;go_wp2_with fail;go_quiet (fail);go_wp2;go_roundg g
     case rel=>exact⟨h-1,r+E,by have:=HG.out;unfold Hid;omega,by go_num,by go_num,ac,by omega,by omega,l,e,o,kI u _⟩
     case measure=>omega
   ·have q0:decide ((4294967296:Int)<=(h:Int))=false:=by simp;omega
    have hP:h*v0<=4294967295*4294967295:=aqK (by omega) (by omega);have y1:IntKind.u64.wrap ((h:Int)*v0)=((h*v0:Nat):Int):=by rw[<-az8];exact IntWalk.u64_in _ (by omega)
    have y2:=zG r u0 ah a8;have y3:=IntWalk.u64_in ((r:Int)*4294967296) (by omega);by_cases hc:r*aD+u0<h*v0
    ·have q1:decide (r*aD+u0<h*v0)=true:=by simp;omega
     obtain⟨hE,h1⟩:=B.out.more h r HE.out (.inr hc);have ac:=aB hE;clear hE hc hP;generalize r*aD+u0=R at *;generalize h*v0=P at *;rcases dE 4294967295 (r+E) with an|an
     ·have q2:decide ((4294967296:Int)<=(r:Int)+E)=true:=by simp;omega
      have O:=B.out.fin _ _ ac.out (.inr (by unfold aD;omega));go_wp2_with fail;go_quiet (fail);clear y1 y2 y3 w9 aw;go_wp2;go_meet;exact⟨h-1,by go_num,O.1,O.2.1,O.2.2,l,e,o,kI u _⟩
     ·have q2:decide ((4294967296:Int)<=(r:Int)+E)=false:=by simp;omega
      have q3:r+E<4294967296:=by omega
      obtain⟨g,rfl⟩:∃g,gk=g+1:=⟨gk-1,by have:=HG.out;have:=ac.out.lo;omega⟩;clear an;go_wp2_with fail;go_quiet (fail);clear y1 y2 y3 w9 aw;go_wp2;go_roundg g
      case rel=>exact⟨h-1,r+E,by have:=HG.out;unfold Hid;omega,by go_num,by go_num,ac,by omega,by omega,l,e,o,kI u _⟩
      case measure=>omega
    ·have q1:decide (r*aD+u0<h*v0)=false:=by simp;omega
     have O:=B.out.fin h r HE.out (.inl ⟨by unfold aD;omega,by omega⟩);clear hc hP;generalize r*aD+u0=R at *;generalize h*v0=P at *;go_wp2_with fail;go_quiet (fail);clear y1 y2 y3 w9 aw;go_wp2;go_meet;exact⟨h,rfl,O.1,O.2.1,O.2.2,l,e,o,kI u _⟩
 case rest=>
  obtain⟨C,rfl,b7,b8,bx,l,e,o,u⟩:=hcut;clear au ao ah e1 V aw W w9 gt g1 g0 a6 a5 w1 w2 w3 w4 b9 ax a8 a9 bq br;generalize wx.drewN nq=cv at *;rw[B.out.us_,show G++(Q++[t])++List.replicate z 0=(G++[])++(Q++t :: List.replicate z 0) by simp] at e;have ab:=aB B.out.lo_;have al:=aB B.out.xs_;have bu:=B.out.dxs;go_wp2_with fail
  go_loopg [18,19,20] n (fun m s t' s' v=>∃(Z T:List Nat) (c b i:Nat),Hid (i+m=n)∧s= .int .u64 (c:Int)∧t'= .int .u64 (b:Int)∧s'= .int .i64 (i:Int)∧c<4294967296∧b<=1∧Hid (Z.length=i)∧Hid (Q.drop i=T)∧Dg Z∧Hid (nv (Q.take i)+aD^i*(c+b)=nv Z+C*nv (vs.take i))∧
   Bx v I (U (vs++[0])) 140∧Bx v A (U ((G++Z)++(T++t :: List.replicate z 0))) 140∧Bx v H (U (List.replicate (k+1) 0++rs)) 140∧Below w.1.size w v)
  case atStart=>exact⟨[],Q,0,0,0,by unfold Hid;omega,rfl,rfl,rfl,by omega,by omega,rfl,rfl,(fun d N=>by cases N),by unfold Hid;simp[nv],l,e,o,u⟩
  case round=>
   clear l e o u;obtain⟨Z,T,c,b,i,HI,rfl,rfl,rfl,hc,bn,L,HT,dZ,a1,l,e,o,u⟩:=hrel;generalize wr=v at *;have ch:(0:Int)<=(i:Int):=by omega
   cases gk with
   |succ m=>
    have ag:i<n:=by have:=HI.out;omega
    obtain⟨x,Y⟩:∃x,Q[i]? =some x:=⟨_,aR (by rw[al.out];exact ag)⟩;obtain⟨y,hy⟩:∃y,vs[i]? =some y:=⟨_,aR (by rw[af.out];exact ag)⟩;have ay:=bu.get Y;have ba:=dV.get hy;have HL:Hid ((G++Z).length=i+k):=by unfold Hid;rw[bN,ab.out,L.out];omega
    have W:T=x :: Q.drop (i+1):=by rw[<-HT.out];exact(j5 (by rw[al.out];exact ag)).trans (by rw[(List.getElem?_eq_some_iff.1 Y).2])
    subst W;have gx:=e.mid HL.out;have fx:=fun j=>e.free j;have gy:=l.cell i (SL (by rw[gA (by rw[af.out];exact ag)];exact hy));have ak:=aB (iR Q i);have aj:=aB (iR vs i);rw[m9 Y] at ak;rw[m9 hy] at aj;clear Y hy HT;unfold aD at ay ba;have hP:C*y<=4294967295*4294967295:=aqK (by omega) (by omega);have y1:IntKind.u64.wrap ((C:Int)*y)=((C*y:Nat):Int):=by rw[<-az8];exact IntWalk.u64_in _ (by omega)
    have am:∃P,C*y=P:=⟨_,rfl⟩;obtain⟨P,am⟩:=am;rw[am] at y1 hP;have y2:(P:Int)+c=((P+c:Nat):Int):=rfl;have cp:P+c<=18446744073709551615:=by omega
    have b5:(P+c)%4294967296+4294967296*((P+c)/4294967296)=P+c:=bxO _ _;have y3:((P+c:Nat):Int)/4294967296=(((P+c)/4294967296:Nat):Int):=(azR _ _).symm;have y4:bits .and .u64 ((P+c:Nat):Int) 4294967295=(((P+c)%4294967296:Nat):Int):=by rw[eqW _ (by omega) (by unfold aA;omega)];exact(bx8 _ _).symm
    have b0:(P+c)/4294967296<4294967296:=mU (by omega);have cn:(P+c)%4294967296<4294967296:=dI _ (by decide);generalize (P+c)/4294967296=c' at *;generalize (P+c)%4294967296=pm at *;generalize b6:P+c=pp at *;obtain⟨D1,D,r',q',z1,z2,z3,z4,z5,z6,z7,z8,z9⟩:=fqP (s:=pm) (t:=b) ay (by omega);have HS:=aB (zJ (x:=r') (p:=C*y) (c:=c'+q') L.out a1.out (show x+aD*(c'+q')=r'+C*y+(c+b) by rw[am];unfold aD at z9⊢;omega));clear z9 b5 am b6;go_wp2;go_roundg m
    case rel=>exact⟨Z++[r'],Q.drop (i+1),c',q',i+1,by have:=HI.out;unfold Hid;omega,rfl,rfl,by go_num,b0,z5,jR L.out,rfl,dZ.snoc (by unfold aD;exact z6),by unfold Hid;rw[ak.out,aj.out,iL C,Nat.mul_left_comm C];exact HS.out,l.far _ _ (by omega),by rw[<-eK G];exact e.next HL.out rfl,o.far _ _ (by omega),u.setCell (p:=⟨A,i+k,none⟩) (show w.1.size<=A by omega) _⟩
    case measure=>omega
   |zero=>
    have ag:i=n:=HI.out;subst ag;have b3:¬(i:Int)<(i:Int):=by omega
    have W:T=[]:=by rw[<-HT.out,<-al.out];exact azY
    subst W;rw[iM] at e;have HL:Hid ((G++Z).length=k+i):=by unfold Hid;rw[bN,ab.out,L.out]
    have a7:=a1.out;rw[iN (by rw[al.out];exact aE),iN (by rw[af.out];exact aE)] at a7;have hZ:nv Z<aD^i:=by have:=nO dZ;rwa [L.out] at this
    have b2:=ND (X:=nv Q) (t:=t) (h:=C) (k:=c+b) rfl B.out.u_.symm B.out.r_ bh.out b7 b8 a7 hZ;obtain⟨td,tD,k1,k2,k3,k4,k5⟩:=N5 (t:=t) (c:=c) (b:=b) ap (by omega) bn;have bw:=e.mid HL.out;have bv:=fun j=>e.free j;have bk:=o.last;have bj:=fun j=>o.free j;have a4:=B.out.dlo;have aq:Hid (∀R:List Nat,R.length=i->nv R=rt->nv (G++R)<nv vs*aD^k∧nv (G++R)+nv vs*aD^k*nv (qt :: rs)=nv As):=fun R cb bm=>⟨NF a4 ab.out (by rw[bm];exact B.out.r_),NE ab.out al.out B.out.u_ bm (by rw[<-B.out.us_];exact bs.out)⟩;clear a7 a1 HT;rcases b2 with ⟨e1,V,e3⟩|⟨e1,V,e3⟩
    ·have k6:IntKind.u64.wrap ((td:Int)-b)=0:=by rw[k2,k4 V];rfl
     have F:=aB (aq.out Z L.out e3);subst e1;clear k2 k4 k5 V e3 aq;go_wp2_with fail;refine Handed.intro k (aqC k) (hJ _ _ _ ⟨_,rfl,rfl,⟨G++Z,C :: rs,(k:Int)-1,z+1,by unfold Hid;omega,rfl,by omega,by omega,by unfold Hid;rw[bN,ab.out,L.out];omega,by have:=HZ.out;unfold Hid;omega,a4.app dZ,?_,F.out.1,F.out.2,(l.far _ _ (show A≠I by omega)).far _ _ (show H≠I by omega),?_,(o.far _ _ (by omega)).prev rfl,by unfold Hid;rw[eG,bg.out],(u.setCell (p:=⟨A,k+i,none⟩) (show w.1.size<=A by omega) _).setCell (p:=⟨H,k,none⟩) (show w.1.size<=H by omega) _⟩,rfl,rfl,rfl,rfl,rfl⟩)
     ·intro d N;rcases List.mem_cons.1 N with rfl|N
      ·exact bx
      ·exact dR d N
     ·rw[aqV,<-List.singleton_append,<-eK];exact(e.next (y:=0) HL.out rfl).far _ _ (by omega)
    ·have k6:IntKind.u64.wrap ((td:Int)-b)=18446744073709551615:=by rw[k2,k5 V];rfl
     have bc:=aB e3;have cg:1<=C:=by omega
     have a2:=e.next (y:=4294967295) HL.out rfl;have ca:=aB hZ;have HQ:=aB e1;clear k2 k4 k5 e1 V e3 hZ bk bj;go_wp2_with fail;rw[show G++Z++[4294967295]++List.replicate z 0=(G++[])++(Z++4294967295 :: List.replicate z 0) by simp] at a2
     go_loopg [18,24] i (fun m s t' v=>∃(R T:List Nat) (c q:Nat),Hid (q+m=i)∧s= .int .u64 (c:Int)∧t'= .int .i64 (q:Int)∧c<=1∧Hid (R.length=q)∧Hid (Z.drop q=T)∧Dg R∧Hid (nv R+aD^q*c=nv (Z.take q)+nv (vs.take q))∧
      Bx v I (U (vs++[0])) 140∧Bx v A (U ((G++R)++(T++4294967295 :: List.replicate z 0))) 140∧Bx v H (U (List.replicate (k+1) 0++rs)) 140∧Below w.1.size w v)
     case atStart=>exact⟨[],Z,0,0,by unfold Hid;omega,rfl,rfl,by omega,rfl,rfl,(fun d N=>by cases N),by unfold Hid;simp[nv],l.far _ _ (by omega),a2,o.far _ _ (by omega),u.setCell (p:=⟨A,k+i,none⟩) (show w.1.size<=A by omega) _⟩
     case round=>
      clear l e a2 o u bw bv b3 k1 k3 k6 bn;obtain⟨R,T,c,q,a0,rfl,rfl,cc,ad,ar,a3,az,l,e,o,u⟩:=hrel;generalize wr=wz at *;have cq:(0:Int)<=(q:Int):=by omega
      cases gk with
      |succ m=>
       have ae:q<i:=by have:=a0.out;omega
       obtain⟨x,Y⟩:∃x,Z[q]? =some x:=⟨_,aR (by rw[L.out];exact ae)⟩;obtain⟨y,hy⟩:∃y,vs[q]? =some y:=⟨_,aR (by rw[af.out];exact ae)⟩;have ay:=dZ.get Y;have ba:=dV.get hy;have ai:Hid ((G++R).length=q+k):=by unfold Hid;rw[bN,ab.out,ad.out];omega
       have W:T=x :: Z.drop (q+1):=by rw[<-ar.out];exact(j5 (by rw[L.out];exact ae)).trans (by rw[(List.getElem?_eq_some_iff.1 Y).2])
       subst W;have gx:=e.mid ai.out;have fx:=fun j=>e.free j;have gy:=l.cell q (SL (by rw[gA (by rw[af.out];exact ae)];exact hy));have ak:=aB (iR Z q);have aj:=aB (iR vs q);rw[m9 Y] at ak;rw[m9 hy] at aj;have HS:=aB (zI ad.out az.out (show c+(x+y)=c+(x+y) from rfl));clear Y hy ar;unfold aD at ay ba;have y1:IntKind.u64.wrap ((x:Int)+y)=((x+y:Nat):Int):=IntWalk.u64_in _ (by omega);have ct:x+y<=8589934590:=by omega
       generalize hX:x+y=X at *;have y2:IntKind.u64.wrap ((c:Int)+X)=((c+X:Nat):Int):=IntWalk.u64_in _ (by omega);have cd:c+X<=8589934591:=by omega
       have bt:=aB hX;clear hX;generalize c+X=s at *;obtain⟨x1,x2,x3,x4⟩:IntKind.i64.wrap ((q:Int)+k)=(q:Int)+k∧(0:Int)<=(q:Int)+k∧((q:Int)+k).toNat=q+k∧q+k<lx+1:=⟨IntWalk.i64_in _ (by omega),by omega,by omega,by omega⟩;go_wp2_with fail;go_quiet (fail);clear y1 y2;go_wp2;go_roundg m
       case rel=>exact⟨R++[s%aD],Z.drop (q+1),s/aD,q+1,by have:=a0.out;unfold Hid;omega,vH (by unfold aD;omega),by go_num,by unfold aD;omega,jR ad.out,rfl,a3.snoc (dI _ mV),(by unfold Hid;rw[ak.out,aj.out,HS.out,<-bt.out,iL];omega),(show Bx (wz.drewN _) _ _ _ from l).far _ _ (by omega),by rw[<-eK G];exact(show Bx (wz.drewN _) _ (U ((G++R)++x :: (Z.drop (q+1)++4294967295 :: List.replicate z 0))) _ from e).next ai.out (pW (a:=(s:Int)%4294967296) (b:=s%aD) (by unfold aD;omega)),(show Bx (wz.drewN _) _ _ _ from o).far _ _ (by omega),(kI u _).setCell (p:=⟨A,q+k,none⟩) (show w.1.size<=A by omega) _⟩
       case measure=>omega
      |zero=>
       have ae:q=i:=a0.out;subst ae;have ci:¬(q:Int)<(q:Int):=by omega
       have W:T=[]:=by rw[<-ar.out,<-L.out];exact azY
       subst W;rw[iM] at e;have ai:Hid ((G++R).length=k+q):=by unfold Hid;rw[bN,ab.out,ad.out]
       have av:=az.out;rw[iN (by rw[L.out];exact aE),iN (by rw[af.out];exact aE),bc.out] at av;have hR:nv R<aD^q:=by have:=nO a3;rwa [ad.out] at this
       have hr:=B.out.r_;have hV:=bh.out;obtain⟨b1,bo⟩:c=1∧nv R=rt:=by
        rcases(show c=0∨c=1 by omega) with rfl|rfl
        ·rw[azP] at av;omega
        ·rw[az9] at av;omega
       subst b1;have F:=aB (aq.out R ad.out bo);have gx:=e.mid ai.out;have fx:=fun j=>e.free j;have bk:=o.last;have bj:=fun j=>o.free j;have hq:C-1=qt:=by have:=HQ.out;omega
       have ae:((C:Int)-1)=(qt:Int):=by omega
       clear av hR hr hV bo az ar aq bc;go_wp2_with fail;refine Handed.intro k (aqC k) (hJ _ _ _ ⟨_,rfl,rfl,⟨G++R,qt :: rs,(k:Int)-1,z+1,by unfold Hid;omega,rfl,by omega,by omega,by unfold Hid;rw[bN,ab.out,ad.out];omega,by have:=HZ.out;unfold Hid;omega,a4.app a3,?_,F.out.1,F.out.2,(l.far _ _ (show A≠I by omega)).far _ _ (show H≠I by omega),?_,(o.far _ _ (by omega)).prev rfl,by unfold Hid;rw[eG,bg.out],(u.setCell (p:=⟨A,k+q,none⟩) (show w.1.size<=A by omega) _).setCell (p:=⟨H,k,none⟩) (show w.1.size<=H by omega) _⟩,rfl,rfl,rfl,rfl,rfl⟩)
       ·intro d N;rcases List.mem_cons.1 N with rfl|N
        ·exact bp
        ·exact dR d N
       ·rw[aqV,<-List.singleton_append,<-eK];exact(e.next (y:=0) ai.out rfl).far _ _ (by omega)
def yZ(w:World)(a b:Nat)(e:Ending)(w':World):Prop:=∃v u,e= .returned (.tuple #[v,u])∧Mg w' v (a/b)∧Mg w' u (a%b)∧Below w.1.size w w'
def EM(a b:Nat)(va vb:Value)(w:World)(ha:Mg w va a)(ax:Mg w vb b)(la:nl a<=1099511627776)(lb:nl b<=1099511627776)(h0:0<b):
  Calls prog 179 #[va,vb] w (yZ w a b):=by
 have ac:=EV a b va vb w ha ax la lb;by_cases ad:a<b
 ·rw[jL (by omega)] at ac;obtain⟨X,hX,tX,E⟩:=ha;have lX:=KS tX E;have dX:=hX.dg;obtain⟨A,c,rfl,hc⟩:=hX.form;obtain⟨Y,R,tY,v⟩:=ax;obtain⟨B,d,rfl,hd⟩:=R.form;have HQ:Hid (a/b=0∧a%b=a):=⟨azT ad,jJ ad⟩;clear R tY v ad;go_enter func179,ntmps179;go_wp2_with fail;refine ac.mono ?_;rintro e1 u ⟨rfl,g⟩;have G:Below u.1.size u (u.alloc (.cells #[] 140)):=(aG _ _).alloc aE _;have b8:=((hX.be g).be G).src;have b6:=eqT u 140 1;have bx:=aC g G;go_wp2_with (at_builtin;refine gM rfl rfl 140 _ 1 4 underlying58 oX rfl (by decide) u.1.size (.slice (some ⟨u.1.size,0,none⟩) 0 0) 0 [] rfl b6 (U X) rfl (by rw[MZ,az9]) b8 (N4 _) (by omega) (by omega) (by simp) ?_;intro v2 I bk bz ch);rw[iM] at bk;have hm:=Ds.row bk (bA _).symm dX;go_ret2;exact⟨_,_,rfl,by rw[HQ.out.1];exact Mg.zero _ _ _,by rw[HQ.out.2];exact⟨X,hm,tX,E⟩,bx.grown bz (by have:=g.size;simp;omega) (by simp[Value.ownBlock];exact g.size)⟩
 ·obtain⟨c0,ci,HC⟩:∃c0,¬c0<0∧bZ a b=c0:=⟨_,by rcases kJ (a:Int) b with ⟨h,_⟩|⟨_,e⟩|⟨_,e⟩<;>omega,rfl⟩;rw[HC] at ac;clear HC;obtain⟨Y,R,tY,v⟩:=id ax;have lY:=KS tY v;obtain⟨B,d,rfl,hd⟩:=R.form;by_cases o:Y.length=1
  ·have q1:((Y.length:Int)==1)=true:=by rw[o];rfl
   obtain⟨y,rfl⟩:∃y,Y=[y]:=List.length_eq_one_iff.1 o;have cb:y=b:=by rw[<-v];simp[nv]
   subst cb;have ab:y<aD:=R.dg y (List.mem_singleton.2 rfl);unfold aD at ab;obtain⟨A,_,_,rfl⟩:=ha.form;simp only[iJ] at ac;clear ad o v tY;obtain⟨gy,rfl,ay,af⟩:=R.at_ (i:=0) (d:=y) rfl;have ah:=fun (W:World) (D:Below w.1.size w W)=>(D.cell (p:=⟨gy,0,none⟩) ay).trans af;go_enter func179,ntmps179;go_wp2_with fail;refine ac.mono ?_;rintro e1 u ⟨rfl,g⟩;have au:=ah u g;clear af ah;go_wp2_with fail;refine(EP a y _ u (ha.be g) la h0 ab).mono ?_;rintro e2 I ⟨v2,rfl,a0, -,ag⟩;have hr:a%y<aD:=by have:=dI a h0;unfold aD;omega
   have G:Below I.1.size I (I.alloc (.cells #[.int .u32 ((a%y:Nat):Int)] 140)):=(aG _ _).alloc aE _;have hB:Bx (I.alloc (.cells #[.int .u32 ((a%y:Nat):Int)] 140)) I.1.size (U [a%y]) 140:=Bx.new _ _ _;replace a0:=a0.be G;have D:=(aC g ag).trans (G.mono (aC g ag).size);have O:=oW [a%y] I.1.size (a%y) 1 _ hB (fun z hz=>by rw[List.mem_singleton.1 hz];exact hr) (by simp[nv]) aE (by simp);simp only[iJ] at O;clear hr;generalize hr:a%y=r at *;generalize hq:a/y=q at *;have HR:=aB (And.intro hq hr);clear hr hq;go_wp2_with fail;refine O.mono ?_;rintro e3 w3 ⟨v3,rfl,b4,rfl⟩;go_wp2;go_ret2;exact⟨_,_,rfl,by rw[HR.out.1];exact a0,by rw[HR.out.2];exact b4,D⟩
  ·have q1:((Y.length:Int)==1)=false:=by simp;omega
   obtain⟨X,hX,tX,E⟩:=ha;have lX:=KS tX E;have dY:=R.dg;obtain⟨A,c,rfl,hc⟩:=hX.form;obtain⟨p,n,hp,hn,HN⟩:∃p n,Y.length=p+1+1∧2<=n∧Hid (n=p+1+1):=by
    have:Y.length≠0:=fun e=>by
     rw[bX e] at v;have:nv []=0:=rfl;omega
    exact⟨Y.length-2,Y.length,by omega,by omega,(show Y.length=_ by omega)⟩
   have cg:Y.length<=X.length:=by
    rcases dE X.length Y.length with h|h
    ·have:=vI hX.dg tY h;omega
    ·exact h
   obtain⟨y,aj⟩:∃y,Y[p+1]? =some y:=⟨_,aR (by omega)⟩;have ca:y≠0:=tY y (by rw[byO,hp];exact aj);have ab:=dY.get aj;obtain⟨S,cc,s1,s2⟩:=NP ca ab;have HY:=aB (fun Z (dZ:Dg Z) (H:Z.length=p+1+2) (hv:nv Z=2^S*nv Y)=>NL dY dZ hp H (m9 aj) s1 s2 cc hv);obtain⟨gy,rfl,ay,af⟩:=R.at_ aj;have ah:=fun (W:World) (D:Below w.1.size w W)=>(D.cell (p:=⟨gy,p+1,none⟩) ay).trans af;have HS:=aB (And.intro s1 s2);have HP:=aB hp;have aq:=aB (And.intro E v);have cd:=aB ad;unfold aD at ab;have cp:p+1<Y.length:=by omega
   clear aj af s1 s2 hp E v ad o;go_enter func179,ntmps179;go_wp2_with fail;refine ac.mono ?_;rintro e1 u ⟨rfl,g⟩;have au:=ah u g;clear ah;go_wp2_with fail;go_loopg [8] S (fun k t wr=>∃s,Hid (s+k=S)∧t= .int .u64 (s:Int)∧u=wr)
   case atStart=>exact⟨0,by unfold Hid;omega,rfl,rfl⟩
   case round=>
    obtain⟨s,HJ,rfl,rfl⟩:=hrel;have ai:s<32:=by have:=HJ.out;omega
    have b3:y*2^s<=y*2^S:=eV _ (fT (by decide) (by have:=HJ.out;omega));have hw:IntKind.u32.wrap ((y:Int)*2^s)=((y*2^s:Nat):Int):=by
     have:=HS.out.2;rw[show((y:Int)*2^s)=((y*2^s:Nat):Int) by rw[az8,bx9];rfl];exact IntWalk.u32_in _ (by omega)
    have b2:((Y.length:Int)-1)=((p+1:Nat):Int):=by have:=HP.out;omega
    cases gk with
    |zero=>
     have b7:s=S:=HJ.out;subst b7;have q2:¬((y*2^s:Nat):Int)<2147483648:=by have:=HS.out.1;omega
     generalize y*2^s=yy at *;clear b3;go_wp2_with fail;refine(EQ Y _ s u (R.be g) (by omega) ai).mono ?_;rintro e2 I ⟨rfl,Z,H,aw,dZ,bi,ag⟩;obtain⟨vs,bg,bh,an,dV,bf,a2,bc⟩:=HY.out Z dZ (by rw[aw,HP.out]) bi;have O:=zA Z _ (Y.length+1) I (Ds.own (es:=[]) (by rw[fH];exact H) dZ _ (by omega)) (by omega);rw[aw,bh,an,<-HN.out] at O;rw[bg] at H;have ap:=aB bf;have b0:=g.size;have cs:=H.lt;replace g:=aC g ag;clear aw dZ bi bg bh bf HY au;go_wp2_with fail;refine O.mono ?_;rintro e3 w3 ⟨rfl,rfl⟩;go_wp2_with fail;refine(EQ X _ s I (hX.be g) (by omega) ai).mono ?_;rintro e4 w4 ⟨rfl,As,G,ba,dA,av,al⟩;replace H:=H.be al;have cj:=al.size;have cr:=G.lt;replace g:=aC g al;obtain⟨M,hM⟩:∃M,X.length=M+Y.length:=⟨X.length-Y.length,by omega⟩;have ce:((X.length:Int)+1)-(n:Int)=(M:Int)+1:=by have:=HP.out;have:=HN.out;omega
     have HM:=aB hM;have bw:M<=X.length:=by omega
     clear hM;clear O;go_wp2_with (at_make;refine jT rfl rfl 140 _ 1 4 underlying58 oX rfl (by decide) (M+1) rfl rfl rfl rfl (by omega) (by omega) ?_;intro w5 cu bm am);have Q:=Bx.zeros bm;replace G:=G.be am;replace H:=H.be am;replace g:=aC g am;have ae:=NM (M:=M) hX.dg an (by rw[HM.out,HP.out]) a2 ai;rw[<-av] at ae;have bu:=aB ae;have bs:=aB av;have bb:As.length=n+(M+1):=by rw[ba,HM.out,HP.out,HN.out];omega
     have br:=aB bb;have HV:Hid (Dvs vs n p):=⟨HN.out,by rw[an,HN.out],dV,a2,by rw[HN.out];exact bc⟩;have a8:Hid (X.length+1=n+(M+1)):=by unfold Hid;rw[HM.out,HP.out,HN.out];omega
     have b5:n<=Y.length+1:=by have:=HP.out;have:=HN.out;omega
     have cq:Hid (2^s*nv Y=nv vs):=ap.out.symm;clear bm am al ag ae av ba bb an a2 bc ac b2;generalize u.1.size=gv at *;generalize I.1.size=C at *;generalize w4.1.size=gq at *;go_wp2_with fail;refine wp_loop_ghost_k (DvI w (.int .u64 (s:Int)) gv C gq n M vs As X.length Y.length) (M+1) ⟨_,rfl,rfl,⟨As,[],(M:Int),0,by unfold Hid;omega,rfl,by omega,by omega,br.out,by unfold Hid;omega,dA,(fun d hd=>by cases hd),bu.out,by unfold Hid;rw[rB,azP,gQ],H,by rw[aq8,fH];exact G,by rw[fH];exact Q,rfl,g⟩,rfl,rfl,rfl,rfl,rfl⟩ ?_;intro gk a' wr hI JJ K hJ hK;clear H G Q g dA;cases gk with
     |succ k=>exact MV HV b0 (by omega) (by omega) a8 (by omega) hn b5 bw k hI JJ K _ hJ hK
     |zero=>
      clear hJ hK;obtain⟨f,J,⟨us,rs,j,z,a4,rfl,cm,cn,a6,HZ,dU,dR,a5,a3,VX,N,QX,ao,D⟩,rfl⟩:=hI.open_;unfold vG vF;have cl:¬0<=j:=by have:=a4.out;omega
      have hz:z=M+1:=HZ.out;subst hz;have bn:us.length=n:=a6.out
      obtain⟨hq,hr⟩:nv rs=a/b∧nv us=2^s*(a%b):=NT h0 (by
       have o:=a3.out;rw[bx0,az9,ap.out,bs.out,aq.out.1,aq.out.2] at o;exact o) (by
       have o:=a5.out;rw[bx0,az9,ap.out,aq.out.2] at o;exact o)
      have co:n<=X.length+1:=by have:=a8.out;omega
      have O:=zA us _ (X.length+1) wr (Ds.own N dU _ (by omega)) (by omega);rw[bn] at O;obtain⟨tl,bo, -, -⟩:=pZ aV us;have a9:=dU.trim;have a1:=EZ us;rw[hr] at a1;have bv:=oY aV us;rw[bn] at bv;generalize aW aV us=m at *;rw[bo,eK] at N;generalize tl++List.replicate (M+1) 0=bp at *;have HQ:=aB hq;have bt:=aB a1;clear hq hr bo a1 a3 a5 a6 a4 HZ dU;go_wp2_with fail;refine O.mono ?_;rintro e6 w6 ⟨rfl,rfl⟩;clear O;go_wp2_with fail
      go_loopg [26] m.length (fun k t wy=>∃(P T:List Nat) (i:Nat),Hid (i+k=m.length)∧t= .int .i64 (i:Int)∧Hid (P.length=i)∧Hid (m.drop i=T)∧Dg P∧Hid (2^s*nv P+cB m 0%2^s=nv (m.take i)+aD^i*(cB m i%2^s))∧
       Bx wy C (U (P++(T++bp))) 140∧Bx wy gq (U (List.replicate 0 0++rs)) 140∧Below w.1.size w wy)
      case atStart=>exact⟨[],m,0,by unfold Hid;omega,rfl,rfl,rfl,(fun d hd=>by cases hd),by unfold Hid;rw[byQ,rB,azP,bx0,aqD],N,QX,D⟩
      case round=>
       clear N VX QX D;obtain⟨P,T,i,HI,rfl,F,HT,dP,a7,N,QX,D⟩:=hrel;generalize wr=wy at *;have ck:(0:Int)<=(i:Int):=by omega
       cases gk with
       |zero=>
        have hi:i=m.length:=HI.out;subst hi;have az:¬(m.length:Int)<(m.length:Int):=by omega
        have hT:T=[]:=by rw[<-HT.out];exact azY
        subst hT;rw[iM] at N;rw[aq8,iM] at QX
        have hv:nv P=a%b:=NS (r:=cB m 0) (by
         have o:=a7.out;rw[iN aE,rA aE,Nat.zero_mod,azP,gQ] at o;exact o) bt.out
        have t1:=oW rs gq (a/b) (M+1) wy QX dR HQ.out (by rw[ao.out];exact aE) (by rw[ao.out];omega);have t2:=ET P bp C (a%b) (X.length+1) wy N dP hv (by rw[F.out];omega) (by rw[F.out];omega);rw[ao.out] at t1;rw[F.out] at t2;go_wp2_with fail;refine t1.mono ?_;rintro e7 w7 ⟨v7,rfl,m7,rfl⟩;go_wp2_with fail;refine t2.mono ?_;rintro e8 w8 ⟨v8,rfl,m8,rfl⟩;go_wp2;go_ret2;exact⟨_,_,rfl,m7,m8,D⟩
       |succ k=>
        have az:i<m.length:=by have:=HI.out;omega
        obtain⟨x,E⟩:∃x,m[i]? =some x:=⟨_,aR az⟩;have bq:=a9.get E;have hT:T=x :: m.drop (i+1):=by rw[<-HT.out];exact(j5 az).trans (by rw[(List.getElem?_eq_some_iff.1 E).2])
        subst hT;have b9:2^s*nv P+cB m 0%2^s=nv (m.take i)+aD^i*(x%2^s):=by have:=a7.out;rw[m9 E] at this;exact this
        have ae:=fun y=>aB (NR (y:=y) ai F.out b9);have HX:=aB (iR m i);rw[m9 E] at HX;clear E HT;have gx:=N.mid F.out;have fx:=fun j=>N.free j;have U1:=N.next (y:=x/2^s) F.out rfl;have y1:(x:Int)/2^s=((x/2^s:Nat):Int):=by rw[azR,bx9];rfl
        have ct:x/2^s<=x:=azK _ _;unfold aD at bq;by_cases bj:i+1<m.length
        ·obtain⟨y,v⟩:∃y,m[i+1]? =some y:=⟨_,aR bj⟩;have ab:=a9.get v;have hT:m.drop (i+1)=y :: m.drop (i+2):=(j5 bj).trans (by rw[(List.getElem?_eq_some_iff.1 v).2]);have HT:=aB hT;rw[hT] at U1;have gz:=U1.cell i (SL (by rw[eK];exact zH F.out));have au:=U1.mid (jR F.out);have fz:=fun j=>U1.free j;unfold aD at ab;have ar:cB m (i+1)=y:=m9 v;have b1:(i:Int)+1<(m.length:Int):=by omega
         replace ar:=aB ar;obtain⟨V,L,k1,k2,k3,k4,k5,k6⟩:=MX ai bq ab;have ak:=ae y;rw[<-k5] at ak;have k7:=IntWalk.i64_in ((i:Int)+1) (by omega);have k8:(0:Int)<=(i:Int)+1:=by omega
         have k9:((i:Int)+1).toNat=i+1:=by omega
         have U2:=U1;rw[eK] at U2;have U3:=U2.next (y:=x/2^s+L) F.out rfl;clear v hT k5;generalize x/2^s=xq at *;go_wp2_with fail;go_region
         all_goals (
          go_wp2;go_roundg k
          case rel=>exact⟨P++[xq+L],m.drop (i+1),i+1,by have:=HI.out;unfold Hid;omega,by go_num,jR F.out,rfl,dP.snoc (by unfold aD;omega),(by
           unfold Hid;rw[HX.out,ar.out];exact ak.out),(by rw[HT.out];exact U3),(QX.far _ _ (show C≠gq by omega)).far _ _ (show C≠gq by omega),((D.setCell (p:=⟨C,i,none⟩) (show w.1.size<=C by omega) _).setCell (p:=⟨C,i,none⟩) (show w.1.size<=C by omega) _).drew⟩
          case measure=>omega)
        ·have b1:¬(i:Int)+1<(m.length:Int):=by omega
         have ak:=ae 0;generalize x/2^s=xq at *;go_wp2;go_roundg k
         case rel=>exact⟨P++[xq],m.drop (i+1),i+1,by have:=HI.out;unfold Hid;omega,by go_num,jR F.out,rfl,dP.snoc (by unfold aD;omega),by
          unfold Hid;rw[HX.out,rA (l:=m) (i:=i+1) (by omega)];have:=ak.out;rw[Nat.zero_mod,azP,gQ,azP,gQ] at this;rw[Nat.zero_mod,azP,gQ];exact this,U1,QX.far _ _ (show C≠gq by omega),D.setCell (p:=⟨C,i,none⟩) (show w.1.size<=C by omega) _⟩
         case measure=>omega
    |succ k=>
     have q2:((y*2^s:Nat):Int)<2147483648:=by
      have o:=HS.out.2;have h2:y*2^(s+1)<=y*2^S:=eV _ (fT (by decide) (by have:=HJ.out;omega));rw[dH] at h2;have h3:y*(2^s*2)=y*2^s*2:=by rw[iW]
      omega
     generalize y*2^s=yy at *;go_wp2;go_roundg k
     case rel=>exact⟨s+1,by have:=HJ.out;unfold Hid;omega,by go_num,rfl⟩
     case measure=>omega
def NI(w:World)(v:Value)(n:Int):Prop:=∃u,v= .agg #[.bool (decide (n<0)),u]∧Mg w u n.natAbs
def nN(w:World)(n:Int)(e:Ending)(w':World):Prop:=∃v,e= .returned v∧NI w' v n∧Below w.1.size w w'
section
variable {w w':World}{v u:Value}{n:Int}{s:Bool}
def NI.be(h:NI w v n)(a:Below w.1.size w w'):NI w' v n:=by
 obtain⟨u,e,h⟩:=h;exact⟨u,e,h.be a⟩
def NI.ke(h:NI w v n)(a:KM w w'):NI w' v n:=by
 obtain⟨u,e,h⟩:=h;exact⟨u,e,h.ke a⟩
def NI.drew(h:NI w v n):NI w.drew v n:=h.be (aG _ _).drew
def NI.form(h:NI w v n):∃s A k c,v= .agg #[.bool s,.slice A k c]:=by
 obtain⟨u,rfl,h⟩:=h;obtain⟨A,k,c,rfl⟩:=h.form;exact⟨_,A,k,c,rfl⟩
def NI.words(h:NI w (.agg #[.bool s,u]) n):Mg w u n.natAbs:=by
 obtain⟨u,e,h⟩:=h;simp at e;rw[e.2];exact h
def NI.neg(h:NI w (.agg #[.bool s,u]) n):s=decide (n<0):=by
 obtain⟨u,e,h⟩:=h;simp at e;exact e.1
def NI.zero(w:World):NI w (.agg #[.bool false,.slice none 0 0]) 0:=⟨_,rfl,Mg.zero _ _ _⟩
def Mg.len{A:Option Addr}{m:Nat}(h:Mg w (.slice A k c) m):(k=0↔m=0)∧k<=2*nl m:=by
 obtain⟨i,d,b,a⟩:=h;obtain⟨f,g,e,_⟩:=d.form;simp only[Value.slice.injEq] at e;obtain⟨_,rfl,_⟩:=e;refine⟨⟨fun h=> ?_,fun h=> ?_⟩,KS b a⟩
 ·rw[bX h] at a;exact a.symm
 ·rw[NX b (a.trans h)];rfl
end
def pU(s:Bool)(u:Value)(m:Nat)(n:Int)(w:World)(g:Mg w u m)(q:nl m<=1099511627776)(hn:n.natAbs=m)(f:(s=true∧m≠0)↔n<0):
  Calls prog 131 #[.bool s,u] w (nN w n):=by
 obtain⟨A,k,c,rfl⟩:=g.form;obtain⟨o,p⟩:=g.len;have a:Below w.1.size w (w.alloc (.cells #[.bool (decide (n<0)),.slice A k c] 60)):=(aG _ _).alloc aE _;have h:=aB hn;clear hn;by_cases d:s=true∧m≠0
 ·have b:decide (n<0)=true:=by simpa using f.1 d
  have e:NI (w.alloc (.cells #[.bool (decide (n<0)),.slice A k c] 60)) (.agg #[.bool (decide (n<0)),.slice A k c]) n:=⟨_,rfl,by rw[h.out];exact g.be a⟩;rw[b] at e a;obtain⟨rfl,l⟩:=d;have j:decide (0<k)=true:=by simp;omega
  clear f b;go_enter func131,ntmps131;go_wp2_with fail;exact aM (v:= .agg #[.bool true,.slice A k c]) (by simp[results,results131,go_sem]) rfl ⟨_,rfl,e,a⟩
 ·have b:decide (n<0)=false:=by rw[jA,<-f];exact d
  have e:NI (w.alloc (.cells #[.bool (decide (n<0)),.slice A k c] 60)) (.agg #[.bool (decide (n<0)),.slice A k c]) n:=⟨_,rfl,by rw[h.out];exact g.be a⟩;rw[b] at e a;have i:s=false∨s=true∧decide (0<k)=false:=by
   cases s with
   |false=>exact .inl rfl
   |true=>exact .inr ⟨rfl,by have:m=0:=by simpa using d
                             simp;omega⟩
  clear f b d;rcases i with rfl|⟨rfl,j⟩
  all_goals (
   go_enter func131,ntmps131;go_wp2_with fail;exact aM (v:= .agg #[.bool false,.slice A k c]) (by simp[results,results131,go_sem]) rfl ⟨_,rfl,e,a⟩)
def EK(n:Int)(v:Value)(w:World)(hv:NI w v n)(i:nl n.natAbs<=1099511627776):
  Calls prog 102 #[v] w (eO w n.sign):=by
 obtain⟨s,A,k,c,rfl⟩:=hv.form;have a:=hv.neg;obtain⟨d,j⟩:=hv.words.len;have f:Below w.1.size w (w.alloc (.cells #[.bool s,.slice A k c] 60)):=(aG _ _).alloc aE _;rcases aqL n 0 with h|h|h
 ·have b:s=true:=by rw[a];simpa using h
  subst b;have e:Hid (n.sign= -1):=aqT h;clear a h d;go_enter func102,ntmps102;go_wp2;go_ret;exact⟨by rw[e.out];rfl,f⟩
 ·subst h;have b:s=false:=by rw[a];rfl
  subst b;have g:k=0:=d.2 rfl;subst g;clear a d;go_enter func102,ntmps102;go_wp2;go_ret;exact⟨rfl,f⟩
 ·have b:s=false:=by rw[a];simp;omega
  subst b;have g:((k:Int)==0)=false:=by simp;omega
  have e:Hid (n.sign=1):=aqI h;clear a h d;go_enter func102,ntmps102;go_wp2;go_ret;exact⟨by rw[e.out];rfl,f⟩
def yY(n:Int)(v:Value)(w:World)(hv:NI w v n)(q:nl n.natAbs<=1099511627776):
  Calls prog 143 #[v] w (nN w (-n)):=by
 obtain⟨s,A,k,c,rfl⟩:=hv.form;have r:=fun W h=>pU (!s) (.slice A k c) n.natAbs (-n) W h q (by omega) (by rw[hv.neg];simp;omega);obtain⟨W,i,a,B,R⟩:=DA w [.bool s,.slice A k c] 60 [.bool false,.slice none 0 0] 60;have g:=aa B.g2 R.g2;go_enter func143,ntmps143;go_wp2_with fail;(try rw[i]);clear i;refine(r _ (hv.be a).words).mono ?_;rintro x z ⟨y,rfl,b,d⟩;obtain⟨m,e,l,f,rfl⟩:=b.form;replace B:=B.be d;replace R:=R.be d;replace g:=aa B.k2 R.g2;replace a:=aC a d;go_wp2_with fail;obtain⟨t,j,R,a,p,o⟩:=R.mut2 a (by omega) (.bool m) (.slice e l f) rfl rfl;replace B:=o B (by omega);replace b:=b.ke p;rw[j];clear j;replace g:=aa B.k2 R.k2;exact aM (v:= .agg #[.bool m,.slice e l f]) (by simp[results,results143,go_sem,R.k2]) rfl ⟨_,rfl,b,a⟩
def r9(s:Bool)(u:Value)(m:Nat)(n:Int)(w:World)(a:Mg w u m)(b:nl m<=1099511627776)(hn:n=if s then -(m:Int) else m):
  Calls prog 131 #[.bool s,u] w (nN w n):=by
 exact pU s u m n w a b (by cases s<;>simp at hn<;>omega) (by cases s<;>simp at hn⊢<;>omega)
def EF(w:World)(m n:Int)(e:Ending)(w':World):Prop:=∃u v,e= .returned (.tuple #[u,v])∧NI w' u m∧NI w' v n∧Below w.1.size w w'
def EG(x y:Int)(T U:Value)(w:World)(n:NI w T x)(o:NI w U y)(lx:nl x.natAbs<=549755813888)(ly:nl y.natAbs<=549755813888)(ah:y≠0):
  Calls prog 146 #[T,U] w (EF w (x.tdiv y) (x.tmod y)):=by
 obtain⟨s,A,k,c,rfl⟩:=n.form;obtain⟨t,C,l,d,rfl⟩:=o.form;have B:=FA x y;have E:=FC x y;rw[<-n.neg] at B E;rw[<-o.neg] at B;have Z:=aB B;have HR:=aB E;have af:nl (x.natAbs/y.natAbs)<=nl x.natAbs:=cK (azK _ _);have ag:nl (x.natAbs%y.natAbs)<=nl x.natAbs:=cK (bxP _ _);have D:=fun W u v h1 h2=>EM x.natAbs y.natAbs u v W h1 h2 (by omega) (by omega) (by omega);unfold yZ at D;generalize x.natAbs/y.natAbs=q at *;generalize x.natAbs%y.natAbs=r at *;generalize x.tdiv y=Q at *;generalize x.tmod y=R' at *;clear B E;obtain⟨W,K,a,X,Y,R,S⟩:=BL w [.bool s,.slice A k c] 60 [.bool t,.slice C l d] 60 [.bool false,.slice none 0 0] 60 [.bool false,.slice none 0 0] 60;have p:=aa X.g2 (aa Y.g2 (aa R.g2 S.g2));go_enter func146,ntmps146;go_wp2_with fail;(try rw[K]);clear K;replace n:=n.be a;replace o:=o.be a;refine(D _ _ _ n.words o.words).mono ?_;rintro e3 w3 ⟨v3,u3,rfl,e,h,z⟩;obtain⟨A3,l3,c3,rfl⟩:=e.form;obtain⟨D3,m3,d3,rfl⟩:=h.form;replace e:Mg w3 _ _:=e;replace X:=X.be z;replace Y:=Y.be z;replace R:=R.be z;replace S:=S.be z;replace p:=aa X.k2 (aa Y.k2 (aa R.g2 S.g2));replace a:=aC a z;clear D n o;have H3:=e;go_wp2_with fail;replace e:=e.drew;replace h:=h.drew;replace X:=X.drew;replace Y:=Y.drew;replace R:=R.drew;replace S:=S.drew;replace a:=a.drew;replace p:=aa X.k2 (aa Y.k2 (aa R.g2 S.g2));have ab:w.1.size+1+1≠w.1.size:=by omega
 have ac:w.1.size+1+1≠w.1.size+1:=by omega
 have ad:w.1.size+1+1+1≠w.1.size:=by omega
 have ae:w.1.size+1+1+1≠w.1.size+1:=by omega
 go_region_held3 (fun V=>C2 V w.1.size (.bool s) (.slice A k c)∧C2 V (w.1.size+1) (.bool t) (.slice C l d))
  (first|(with_reducible exact⟨X.k2,Y.k2⟩)|(refine⟨?_,?_⟩<;>(repeat (first|with_reducible exact X.k2|with_reducible exact Y.k2|with_reducible refine fQ ab ?_|with_reducible refine fQ ac ?_|with_reducible refine fQ ad ?_|with_reducible refine fQ ae ?_))))
  (first
   |(go_at_call 131;(with_reducible refine(r9 _ _ q Q _ e (by omega) Z.out).mono ?_);rintro e4 w4 ⟨v4,rfl,f,j⟩;obtain⟨O,F,M,H,rfl⟩:=f.form;replace X:=X.be j;replace Y:=Y.be j;replace R:=R.be j;replace S:=S.be j;replace p:=aa X.k2 (aa Y.k2 (aa R.g2 S.g2));replace b:=KM.be j;replace e:=e.ke b;replace h:=h.ke b;(try replace g:=g.ke b);replace a:=aC a j)
   |(go_at_call 131;(with_reducible refine(r9 _ _ r R' _ h (by omega) HR.out).mono ?_);rintro e5 w5 ⟨v5,rfl,g,m⟩;obtain⟨P,G,N,I,rfl⟩:=g.form;replace X:=X.be m;replace Y:=Y.be m;replace R:=R.be m;replace S:=S.be m;replace p:=aa X.k2 (aa Y.k2 (aa R.g2 S.g2));replace b:=KM.be m;replace e:=e.ke b;replace h:=h.ke b;(try replace f:=f.ke b);replace a:=aC a m))
 go_wp2_with fail;obtain⟨U0,J,R,a,b,i⟩:=R.mut2 a (by omega) (.bool O) (.slice F M H) rfl rfl;replace X:=i X (by omega);replace Y:=i Y (by omega);replace S:=i S (by omega);replace f:=f.ke b;replace g:=g.ke b;obtain⟨W6,L,S,a,b,i⟩:=S.mut2 a (by omega) (.bool P) (.slice G N I) rfl rfl;replace X:=i X (by omega);replace Y:=i Y (by omega);replace R:=i R (by omega);replace f:=f.ke b;replace g:=g.ke b;rw[J,L];clear J L;replace p:=aa X.k2 (aa Y.k2 (aa R.k2 S.k2));exact aM (v:= .tuple #[.agg #[.bool O,.slice F M H],.agg #[.bool P,.slice G N I]]) (by simp[results,results146,go_sem,R.k2,S.k2]) rfl ⟨_,_,rfl,f,g,a⟩
def MR(x y:Int)(S T:Value)(w:World)(h:NI w S x)(f:NI w T y)(lx:nl x.natAbs<=549755813888)(ly:nl y.natAbs<=549755813888):
  Calls prog 144 #[S,T] w (nN w ((Nat.gcd x.natAbs y.natAbs:Nat):Int)):=by
 obtain⟨s,A,k,c,rfl⟩:=h.form;obtain⟨t,C,l,d,rfl⟩:=f.form;obtain⟨W,L,e,X,Y,R⟩:=gE w [.bool s,.slice A k c] 60 [.bool t,.slice C l d] 60 [.bool false,.slice none 0 0] 60;have D:=aa X.g2 (aa Y.g2 R.g2);go_enter func144,ntmps144;go_wp2_with fail;(try rw[L]);clear L;replace h:=(h.be e).words;replace f:=(f.be e).words;go_quiet (fail);go_wp2_with fail;generalize x.natAbs=n at *;generalize y.natAbs=j at *;clear D X Y;go_loopg [5,6] j (fun g p q wr=>∃(a b:Nat) (A:Option Addr) (k c:Nat) (B:Option Addr) (l d:Nat),Hid (b<=g)∧p= .slice A k c∧q= .slice B l d∧Mg wr p a∧Mg wr q b∧nl a<=549755813888∧nl b<=549755813888∧Hid (Nat.gcd a b=Nat.gcd n j)∧Bx wr (w.1.size+1+1) [.bool false,.slice none 0 0] 60∧Below w.1.size w wr)
 case atStart=>exact⟨n,j,A,k,c,C,l,d,aE,rfl,rfl,h,f,lx,ly,rfl,R,kI e _⟩
 case round=>
  clear h f R e;obtain⟨a,b,A,k,c,B,l,d,F,rfl,rfl,h,f,la,lb,z,R,e⟩:=hrel;generalize wr=wx at *;have o:=f.len;by_cases H:b=0
  ·have O:l=0:=o.1.2 H;subst O;have P:Nat.gcd n j=a:=by rw[<-z.out,H];exact bxN _
   have HR:=aB P;have D:=R.g2;clear z P H o F;go_wp2_with fail;refine(r9 false _ a (a:Int) _ h (by omega) rfl).mono ?_;rintro e3 U ⟨v3,rfl,i,m⟩;obtain⟨K,E,J,G,rfl⟩:=i.form;replace R:=R.be m;replace D:=R.g2;replace e:=aC e m;replace i:NI U (.agg #[.bool K,.slice E J G]) ((Nat.gcd n j:Nat):Int):=by rw[HR.out];exact i
   go_wp2_with fail;obtain⟨W6,M,R,e,o,ff⟩:=R.mut2 e (by omega) (.bool K) (.slice E J G) rfl rfl;replace i:=i.ke o;rw[M];clear M;replace D:=R.k2;exact aM (v:= .agg #[.bool K,.slice E J G]) (by simp[results,results144,go_sem,R.k2]) rfl ⟨_,rfl,i,e⟩
  ·have O:decide (0<l)=true:=by simp;omega
   have hm:a%b<b:=dI _ (by omega);have N:Nat.gcd b (a%b)=Nat.gcd n j:=by rw[<-z.out,azD a b,Nat.gcd_rec b a,azD]
   have ab:nl (a%b)<=nl b:=cK (by omega);have Z:=aB N;have I:=fun W u v h1 h2=>EM a b u v W h1 h2 (by omega) (by omega) (by omega);unfold yZ at I;clear z N o;obtain⟨g,rfl⟩:∃g,gk=g+1:=⟨gk-1,by have:=F.out;omega⟩;generalize a%b=r at *;generalize a/b=qq at *;go_wp2_with fail;refine(I _ _ _ h f).mono ?_;rintro e3 U ⟨v3,u3,rfl,i,Q,m⟩;obtain⟨V,m3,d3,rfl⟩:=Q.form;clear I;go_wp2;go_roundg g
   case rel=>exact⟨b,r,B,l,d,V,m3,d3,by have:=F.out;unfold Hid;omega,rfl,rfl,f.be m,Q,lb,by omega,Z,R.be m,aC e m⟩
   case measure=>omega
def bl(t:Nat):Nat:=if t=0 then 0 else t.log2+1
def yX(h:t≠0):bl t=bl (t/2)+1:=by
 unfold bl;rw[if_neg h,Nat.log2_def];by_cases a:2<=t
 ·rw[if_pos a,if_neg (by omega)]
 ·rw[if_neg a,if_pos (by omega)]
def MS(k t:Nat)(h:t<2^k):bl t<=k:=by
 induction k generalizing t with
 |zero=>rw[show t=0 by simpa using h];exact aE
 |succ k b=>
  by_cases a:t=0
  ·rw[a];exact dC _
  ·rw[yX a];have:=b (t/2) (by rw[dH] at h;omega);omega
def EH(h:t≠0):1<=bl t∧(bl t=1↔t=1):=by
 rw[yX h];refine⟨by omega,?_⟩;unfold bl;split<;>omega
def fqO(w:World)(m:Nat)(e:Ending)(w':World):Prop:=∃b:Int,e= .returned (.int .i64 b)∧(1<b↔1<m)∧(b=1↔m=1)∧Below w.1.size w w'
def EI(x:Int)(J:Value)(w:World)(q:NI w J x)(lx:nl x.natAbs<=549755813888):
  Calls prog 145 #[J] w (fqO w x.natAbs):=by
 obtain⟨s,A,k,c,rfl⟩:=q.form;obtain⟨o,Q⟩:=q.words.len;have d:Below w.1.size w (w.alloc (.cells #[.bool s,.slice A k c] 60)):=(aG _ _).alloc aE _;obtain⟨X,i,C,hv⟩:=(q.words).be d;obtain⟨V,Y,e,P⟩:=i.form;simp only[Value.slice.injEq] at e;obtain⟨rfl,rfl,rfl⟩:=e;by_cases a:x.natAbs=0
 ·have z:X.length=0:=o.2 a;rw[z] at q d;rw[z];have D:=aB a;clear hv o a C i P Q z;go_enter func145,ntmps145;go_wp2;go_ret;exact⟨0,rfl,by have:=D.out;omega,by have:=D.out;omega,d⟩
 ·have H:X.length≠0:=fun h=>a (o.1 h);have q0:((X.length:Int)==0)=false:=by simpa using H
  obtain⟨p,B⟩:∃p,X.length=p+1:=⟨X.length-1,by omega⟩;obtain⟨y,j⟩:∃y,X[p]? =some y:=⟨_,aR (by omega)⟩;have I:y≠0:=C y (by rw[byO,B];exact j);have K:=i.dg y (dG j);obtain⟨b,rfl,ab,Z⟩:=i.at_ j;obtain⟨N,O⟩:=EH I;have G:(1<32*p+bl y↔1<x.natAbs)∧(32*p+bl y=1↔x.natAbs=1):=by
   have l:=iR X p;rw[iN (by omega),m9 j,hv] at l;rcases iB p with h|h
   ·subst h;have m:x.natAbs=y:=by rw[l];simp[nv]
    rw[m];omega
   ·have m:aD^1<=aD^p:=fT mV h;have F:aD^p*1<=aD^p*y:=eV _ (by omega);unfold aD at l m F;omega
  have E:=aB G;have W:=aB B;have ac:((X.length:Int)-1)=(p:Int):=by omega
  have ad:p<X.length:=by omega
  unfold aD at K;clear hv o a C i G B j I N O H;go_enter func145,ntmps145;go_wp2_with fail;go_loopg [3,4] y (fun g T U wr=>∃(n t:Nat),Hid (t<=g)∧T= .int .i64 (n:Int)∧U= .int .u32 (t:Int)∧t<4294967296∧n<=35184372088832∧Hid (n+bl t=32*p+bl y)∧Below w.1.size w wr)
  case atStart=>exact⟨32*p,y,aE,by go_num,rfl,K,by omega,rfl,d⟩
  case round=>
   clear d;obtain⟨n,t,r,rfl,rfl,ht,hn,f,d⟩:=hrel;generalize wr=wx at *;by_cases a:t=0
   ·subst a;have v:=E.out;have u:=f.out;rw[show bl 0=0 from rfl,gQ] at u;rw[<-u] at v;have L:=aB v;clear f E v u r;go_wp2;go_ret;have:=L.out;exact⟨n,rfl,by omega,by omega,d⟩
   ·have hd:decide (0<t)=true:=by simp;omega
    have S:=yX a;obtain⟨g,rfl⟩:∃g,gk=g+1:=⟨gk-1,by have:=r.out;omega⟩;have M:Hid (n+1+bl (t/2)=32*p+bl y):=by have:=f.out;unfold Hid;omega
    have R:n+1<=35184372088832:=by have l:=EH a;have m:=f.out;have F:=MS 32 y (by omega);omega
    clear S f;go_wp2;go_roundg g
    case rel=>exact⟨n+1,t/2,by have:=r.out;unfold Hid;omega,by go_num,pW (by omega),by omega,R,M,d⟩
    case measure=>omega
end Go.Proofs.YtmiaanioldpfgaaGreatDoor
namespace Go.Proofs.YtmiaanioldpfgaaGreatDoor
open Sos Lib
variable{l t:List UInt8}
def cyH(c:UInt8):Bool:=c != 47
def lU(s:List UInt8):Option Rat:=
 let a:=s.head?==some 45
 let t:=if a then s.tail else s
 let n:=t.takeWhile cyH
 if n≠[]∧n.all bO then
  match t.dropWhile cyH with
  |[]=>some ((fO a (aO n):Int):Rat)
  |_ :: d=>if d≠[]∧d.all bO∧aO d≠0 then some (((fO a (aO n):Int):Rat)/((aO d:Int):Rat)) else none
 else none
def JK(h:Digs l):l.all bO=true:=by
 rw[List.all_eq_true];intro c a;have:=h c a;simpa [bO] using this
def xP(h:l.all bO=true):Digs l:=fun c a=>by
 have:=List.all_eq_true.1 h c a;simpa [bO] using this
def VZ(h:Digs l)(g:t=[]∨t.head?=some 47):(l++t).takeWhile cyH=l∧(l++t).dropWhile cyH=t:=by
 induction l with
 |nil=>
  cases t with
  |nil=>exact⟨rfl,rfl⟩
  |cons c m=>
   have b:c=47:=by simpa using g
   subst b;simp[bzB,bz5,cyH]
 |cons a l i=>
  have f:cyH a=true:=by
   have:=h a (iC ..);unfold cyH;rw[bne_iff_ne];rintro rfl;exact absurd this (by decide)
  obtain⟨d,e⟩:=i (fun c b=>h c (j8 _ b));simp[bzB,bz5,f,d,e]
def WA(q:Rat):lU (cW q)=some q:=by
 have b:=oL q.num.natAbs;have d:=tK q.num.natAbs;obtain⟨a,m,c⟩:∃a m,decDigits q.num.natAbs=a :: m:=by
  cases h:decDigits q.num.natAbs with
  |nil=>exact absurd h d
  |cons a m=>exact⟨a,m,rfl⟩
 have k:a≠45:=by
  intro e;have:=b a (by rw[c];exact iC ..);rw[e] at this;exact absurd this (by decide)
 have l:fO (decide (q.num<0)) q.num.natAbs=q.num:=by
  unfold fO;by_cases h:q.num<0<;>simp[h]<;>omega
 have f:((cW q).head?==some 45)=decide (q.num<0):=by
  unfold cW;by_cases h:q.num<0
  ·simp[h]
  ·simp[h,c,k]
 have g:(if decide (q.num<0)=true then (cW q).tail else cW q)=decDigits q.num.natAbs++(if q.den=1 then [] else 47 :: decDigits q.den):=by
  unfold cW;by_cases h:q.num<0<;>simp[h]
 obtain⟨i,j⟩:=VZ (t:=if q.den=1 then [] else 47 :: decDigits q.den) b (by by_cases e:q.den=1<;>simp[e]);unfold lU;simp only[f,g,i,j,mQ,l];rw[if_pos ⟨d,JK b⟩];by_cases e:q.den=1
 ·rw[if_pos e];simp only[];congr 1;exact Rat.ext rfl e.symm
 ·rw[if_neg e];simp only[];rw[if_pos ⟨tK _,JK (oL _),by rw[mQ];exact q.den_nz⟩,mQ];congr 1;rw[aq3,<-Rat.mkRat_eq_div,byC]
def xQ(s:List UInt8):(∀q,cG s=some q->lU s=some q∧cW q=s)∧(∀q,lU s=some q->cW q=s->cG s=some q):=by
 refine⟨fun q h=> ?_,fun q h e=> ?_⟩
 ·have:=tL h;exact⟨by rw[<-this];exact WA q,this⟩
 ·rw[<-e];exact SU q
end Go.Proofs.YtmiaanioldpfgaaGreatDoor
namespace Go.Proofs.YtmiaanioldpfgaaGreatDoor
open Go.RowKit Sos Tryz
def VW(w:World)(l:List UInt8)(e:Ending)(w':World):Prop:=∃v z,e= .returned (.tuple #[v,.bool (decide (l≠[]∧l.all bO=true))])∧NI w' v z∧(l.all bO=true->z=(aO l:Int))∧Below w.1.size w w'
def Mg.one{w:World}{b f:Nat}(h:Bx w b [.int .u32 (f:Int)] 140)(e:f≠0)(i:f<4294967296):Mg w (.slice (some ⟨b,0,none⟩) 1 1) f:=
 ⟨[f],Ds.own (es:=[]) h (fun d g=>by rw[List.mem_singleton.1 g];exact i) 1 aE,fun a c=>by simp at c;rw[<-c];exact e,by simp[nv]⟩
def JI(l:List UInt8)(w:World)(hl:l.length<=1073741824):Calls prog 130 #[.string ⟨l.toArray⟩] w (VW w l):=by
 have az:(⟨l.toArray⟩:ByteArray).size=l.length:=by simp[ByteArray.size]
 obtain⟨W,Y,a,R⟩:=bI w [.bool false,.slice none 0 0] 60;have r:=R.g2;go_enter func130,ntmps130;go_wp2_with fail;(try rw[Y]);clear Y;go_loopg [4,5] l.length (fun g s4 O wr=>∃(m i:Nat),Hid (i+g=l.length)∧O= .int .i64 (i:Int)∧Mg wr s4 m∧Hid (m=aO (l.take i))∧Hid ((l.take i).all bO=true)∧Bx wr w.1.size [.bool false,.slice none 0 0] 60∧Below w.1.size w wr)
 case atStart=>exact⟨0,0,by unfold Hid;omega,rfl,Mg.zero _ _ _,rfl,rfl,R,a⟩
 case round=>
  clear R a r;obtain⟨m,i,J,rfl,F,q,s,R,a⟩:=hrel;generalize wr=wx at *;have a3:(0:Int)<=(i:Int):=by omega
  have r:=R.g2;cases gk with
  |zero=>
   have hi:i=l.length:=J.out;subst hi;have av:¬(l.length:Int)<(l.length:Int):=by omega
   rw[aq9] at q s;obtain⟨A,k,c,rfl⟩:=F.form;have al:nl m<=1099511627776:=by rw[q.out];exact aH (oJ (xP s.out)) (by omega)
   go_wp2_with fail;refine(r9 false _ m (m:Int) _ F al rfl).mono ?_;rintro e3 w3 ⟨v3,rfl,n,u⟩;obtain⟨H,y,G,C,rfl⟩:=n.form;replace R:=R.be u;replace r:=R.g2;replace a:=aC a u;have hq:decide (l≠[]∧l.all bO=true)=decide (l≠[]):=by simp[s.out]
   have B:=aB hq;clear hq;by_cases p:l=[]
   ·have q0:(l != [])=false:=by simp[p]
    have t:Hid (decide (l≠[]∧l.all bO=true)=false):=by unfold Hid;rw[B.out];simp[p]
    have I:=aB p;clear p B;go_wp2_with fail;obtain⟨X,o,R,a,E,Z⟩:=R.mut2 a (by omega) (.bool H) (.slice y G C) rfl rfl;replace n:=n.ke E;rw[o];clear o;replace r:=R.k2;exact aM (v:= .tuple #[.agg #[.bool H,.slice y G C],.bool false]) (by simp[results,results130,go_sem,R.k2];exact I.out) rfl ⟨_,_,by rw[t.out],n,fun _=>by rw[q.out],a⟩
   ·have q0:(l != [])=true:=by simp[p]
    have t:Hid (decide (l≠[]∧l.all bO=true)=true):=by unfold Hid;rw[B.out];simp[p]
    have I:=aB p;clear p B;go_wp2_with fail;obtain⟨X,o,R,a,E,Z⟩:=R.mut2 a (by omega) (.bool H) (.slice y G C) rfl rfl;replace n:=n.ke E;rw[o];clear o;replace r:=R.k2;exact aM (v:= .tuple #[.agg #[.bool H,.slice y G C],.bool true]) (by simp[results,results130,go_sem,R.k2];exact I.out) rfl ⟨_,_,by rw[t.out],n,fun _=>by rw[q.out],a⟩
  |succ g=>
   have av:i<l.length:=by have:=J.out;omega
   go_wp2_with fail;go_loopg [5,6,7,8] 9 (fun b O s6 s7 s8 wy=>∃(v j:Nat),Hid (j+b=9)∧O= .int .i64 ((i+j:Nat):Int)∧i+j<=l.length∧s6= .int .u32 (v:Int)∧s7= .int .u32 ((10^j:Nat):Int)∧s8= .int .i64 (j:Int)∧Hid (v=aO ((l.drop i).take j))∧Hid (((l.drop i).take j).all bO=true)∧v<10^j∧wx=wy)
   case atStart=>exact⟨0,0,by unfold Hid;omega,rfl,by omega,rfl,rfl,rfl,rfl,rfl,by decide,rfl⟩
   case round=>
    obtain⟨v,j,z,rfl,a4,rfl,rfl,rfl,U,P,hv,rfl⟩:=hrel;have a5:(0:Int)<=(j:Int):=by omega
    by_cases aj:j<9∧i+j<l.length
    ·obtain⟨a7,ai⟩:=aj;have r1:(j:Int)<9:=by omega
     have r2:((i+j:Nat):Int)<(l.length:Int):=by omega
     obtain⟨e,a1,L⟩:∃e,({ data:=l.toArray }:ByteArray)[i+j]'(by rw[az];exact ai)=e∧l[i+j]? =some e:=⟨_,rfl,by rw[aR ai];rfl⟩;have ag:(l.drop i)[j]? =some e:=by rw[aqM];exact L
     have ao:(l.drop i).take (j+1)=(l.drop i).take j++[e]:=by rw[Q9,ag];rfl
     have aq:=aB L;have S:=aB ao;clear L ag ao;have c0:e.toNat<256:=e.toNat_lt;by_cases x:48<=e.toNat∧e.toNat<=57
     ·obtain⟨d1,d2⟩:=x;have s1:decide ((e.toNat:Int)<48)=false:=by rw[jA];omega
      have s2:decide ((57:Int)<(e.toNat:Int))=false:=by rw[jA];omega
      have ah:10^j<=10^8:=fT (by decide) (by omega);replace ah:10^j<=100000000:=ah;have a2:0<10^j:=eQ (by decide);have an:10^(j+1)=10^j*10:=dH _ _;have Q:=aB an;have hw:v*10+(e.toNat-48)=aO ((l.drop i).take (j+1)):=by rw[S.out,oK,<-U.out,dN]
      have ab:((l.drop i).take (j+1)).all bO=true:=by rw[S.out,byJ,P.out];simp[bO];omega
      have V:=aB (And.intro hw ab);obtain⟨b,rfl⟩:∃b,gk=b+1:=⟨gk-1,by have:=z.out;omega⟩;clear hw ab an;generalize 10^j=f at *;go_wp2;go_roundg b
      case rel=>exact⟨v*10+(e.toNat-48),j+1,by have:=z.out;unfold Hid;omega,by go_num,by omega,pW (by omega),pW (by rw[Q.out];omega),by go_num,V.out.1,V.out.2,by rw[Q.out];omega,rfl⟩
      case measure=>omega
     ·have M:¬(l.all bO=true):=fun h=>x (by
       have:=List.all_eq_true.1 h e (dG aq.out);simpa [bO] using this)
      have ar:=aB M;have t:Hid (decide (l≠[]∧l.all bO=true)=false):=by unfold Hid;rw[jA];exact fun h=>M h.2
      have N:decide ((e.toNat:Int)<48)=true∨decide ((e.toNat:Int)<48)=false∧decide ((57:Int)<(e.toNat:Int))=true:=by
       rcases dE e.toNat 48 with h|h
       ·exact .inl (by rw[iQ];omega)
       ·exact .inr ⟨by rw[jA];omega,by rw[iQ];omega⟩
      clear M x;rcases N with s1|⟨s1,s2⟩
      all_goals (
       go_wp2_with fail;obtain⟨X,o,R,a,E,Z⟩:=R.mut2 a (by omega) (.bool false) (.slice none 0 0) rfl rfl;rw[o];clear o;replace r:=R.k2;exact aM (v:= .tuple #[.agg #[.bool false,.slice none 0 0],.bool false]) (by simp[results,results130,go_sem,R.k2]) rfl ⟨_,0,by rw[t.out],NI.zero _,fun h=>absurd h ar.out,a⟩)
    ·have N:j=9∨j<9∧i+j=l.length:=by have:=z.out;omega
     have am:10^j<=10^9:=fT (by decide) (by have:=z.out;omega);have bb:0<10^j:=eQ (by decide);have a6:1<=j:=by omega
     clear aj;obtain⟨A,k,c,rfl⟩:=F.form;have al:nl m<=1073741824:=by rw[q.out];exact aH (oJ (xP s.out)) (by rw[bK];omega)
     have ap:aO (l.take (i+j))=m*10^j+v:=by
      rw[List.take_add,pF,<-q.out,<-U.out,bK,gG,y8 (by omega)]
     have ac:(l.take (i+j)).all bO=true:=by rw[List.take_add,byJ,s.out,P.out];rfl
     have T:=aB (And.intro ap ac);clear ap ac;have a0:10^j<=1000000000:=am;clear am;generalize 10^j=f at *;obtain⟨wa,ea,D,FB⟩:=bI wx [.int .u32 (f:Int)] 140;have ax:=Mg.one FB (by omega) (by omega);have aw:=F.be D;have bc:f<=4294967295:=by omega
     have bf:v<=4294967295:=by omega
     have ay:¬(j:Int)<9∨(j:Int)<9∧¬((i+j:Nat):Int)<(l.length:Int):=by omega
     have a9:nl f<=1:=cJ (by unfold BN;omega);have a8:=fI m f;have ak:Hid (l.length-(i+j)<g+1∧i+j+(l.length-(i+j))=l.length):=by have:=J.out;unfold Hid;omega
     clear N;rcases ay with r1|⟨r1,r2⟩
     all_goals (
      go_wp2_with fail;refine(ER m f _ _ _ aw ax (by omega) (by omega)).mono ?_;rintro e1 w1 ⟨v1,rfl,h1,ad⟩;obtain⟨A1,k1,c1,rfl⟩:=h1.form;obtain⟨wb,eb,K,FV⟩:=bI w1 [.int .u32 (v:Int)] 140;have ht:=oW [v] w1.1.size v 1 wb FV (fun d x=>by rw[List.mem_singleton.1 x];unfold aD;omega) (by simp[nv]) aE (by simp);simp only[iJ] at ht;have au:=h1.be K;have ba:nl v<=1:=cJ (by unfold BN;omega);have ae:=(((aC a D).trans (ad.mono (aC a D).size)));have af:=aC ae K;go_wp2_with fail;refine ht.mono ?_;rintro e2 w2 ⟨v2,rfl,h2,rfl⟩;go_wp2_with fail;refine(EU _ _ _ _ _ au h2 (by omega) (by omega)).mono ?_;rintro e3 w3 ⟨v3,rfl,n,u⟩;go_wp2;go_roundg (l.length-(i+j))
      case rel=>exact⟨m*f+v,i+j,ak.out.2,by first|rfl|go_num,n,T.out.1.symm,T.out.2,(((R.be D).be ad).be K).be u,aC af u⟩
      case measure=>exact ak.out.1)
end Go.Proofs.YtmiaanioldpfgaaGreatDoor
namespace Go.Proofs.YtmiaanioldpfgaaGreatDoor
open Sos Lib
variable{j v:Nat}
def dz(v:Nat):List UInt8:=if v=0 then [] else decDigits v
def WC{e:Nat}(b:e<10):dz (10*v+e)=if v=0∧e=0 then [] else dz v++[UInt8.ofNat (48+e)]:=by
 unfold dz;by_cases hv:v=0
 ·subst hv;by_cases a:e=0
  ·subst a;simp
  ·rw[if_neg (by omega),if_neg (by omega),if_pos rfl,decDigits,dif_pos (by omega)];simp
 ·rw[if_neg (by omega),if_neg (by omega),if_neg hv,decDigits,dif_neg (by omega),show(10*v+e)/10=v by omega,show(10*v+e)%10=e by omega]
def iV:List Nat->Nat
 |[]=>0
 |d :: l=>d+1000000000*iV l
def WD(l:List Nat)(d:Nat):iV (l++[d])=iV l+1000000000^l.length*d:=by
 induction l with
 |nil=>simp[iV]
 |cons a l b=>rw[bz4,iV,b,iV,eG,dH,iL];grind
def WE{l:List Nat}{i d:Nat}(h:l[i]? =some d):iV (l.drop i)=d+1000000000*iV (l.drop (i+1)):=by
 have a:=(List.getElem?_eq_some_iff.1 h).1;rw[j5 a,iV];rw[aR a] at h;injection h with h;rw[h]
def WF(l:List Nat)(i:Nat):iV (l.drop i)<=iV l:=by
 induction l generalizing i with
 |nil=>simp
 |cons a l b=>
  cases i with
  |zero=>exact aE
  |succ i=>
   rw[bz6,iV];have:=b i;omega
def tn(j:Nat):Nat:=if j<=8 then 10^(8-j) else 0
def WG(h:j<=8):tn j/10=tn (j+1)∧0<tn j∧tn j<=100000000:=by
 unfold tn;rcases(show j=0∨j=1∨j=2∨j=3∨j=4∨j=5∨j=6∨j=7∨j=8 by omega) with rfl|rfl|rfl|rfl|rfl|rfl|rfl|rfl|rfl<;>decide
def WH{p:Nat}(h:j<=8):v*10^(j+1)+p/10^(9-(j+1))=10*(v*10^j+p/10^(9-j))+p/tn j%10:=by
 have e:p/10^(9-j)=p/tn j/10:=by
  unfold tn;rw[if_pos h,aqB,<-dH];congr 2;omega
 rw[e,show 9-(j+1)=8-j by omega,dH];have a:p/10^(8-j)=p/tn j:=by unfold tn;rw[if_pos h]
 rw[a];generalize p/tn j=q;have:=iD q 10;have b:v*(10^j*10)=10*(v*10^j):=by rw[<-iW,dN]
 rw[b];omega
end Go.Proofs.YtmiaanioldpfgaaGreatDoor
namespace Go.Proofs.YtmiaanioldpfgaaGreatDoor
open Go.RowKit Sos Tryz
variable{a b:List Nat}{w w':World}{c v:Value}{B n:Nat}
def WB{a m k:Nat}(h:1000000000^k*m<=a)(d:0<m):k<=3*nl a:=by
 have e:=cyD a;have f:1000000000^k*1<=1000000000^k*m:=eV _ d;have b:(2^29)^k<=1000000000^k:=aqN (by decide) k;have g:BN^nl a=2^(64*nl a):=by rw[azL];rfl
 rw[<-azL] at b;have c:2^(29*k)<2^(64*nl a):=by omega
 have:=(Nat.pow_lt_pow_iff_right (a:=2) (by decide)).1 c;omega
def Mg.grown{k:Option Nat}(h:Mg w v n)(f:w.grownBy w' k)(t:∀g,k=some g->v.ownBlock≠some g):Mg w' v n:=by
 obtain⟨l,⟨A,c,rfl,q,r,h⟩,m,o⟩:=h;refine⟨l,⟨A,c,rfl,q,r,?_⟩,m,o⟩;rcases h with h|⟨b,rfl,j,p⟩
 ·exact .inl h
 ·refine .inr ⟨b,rfl,aZ j f.size,fun i d s=> ?_⟩;exact(World.cell?_of_block (w:=w) (w':=w') (a:=⟨b,i,none⟩) (f.block b j (fun e=>t b e.symm (by simp[Value.ownBlock])))).trans (p i d s)
def PtAt(w:World)(B:Nat)(v:Value)(a:List Nat):Prop:=w.ownsRow B 140 1 v a.length (U a)
def PtAt.lt(h:PtAt w B v a):∀g,v.ownBlock=some g->B<=g∧g<w.1.size:=World.ownsRow.lt h
def PtAt.be(h:PtAt w B v a)(b:Below w.1.size w w'):PtAt w' B v a:=by
 refine World.ownsRow.kept h (rL b none) ?_;cases v.ownBlock with
 |none=>exact .inl rfl
 |some g=>exact .inr (by simp)
def PtAt.more{r:Nat}{o:Obj}(k:w'.ownsRow B 140 1 c (b.length+1) (U b++[.int .u32 (r:Int)]))(a:(w.alloc o).grownBy w' v.ownBlock)(d:c.ownBlock=v.ownBlock∨c.ownBlock=some (w.alloc o).1.size):
  PtAt w' B c (b++[r])∧TxtTo w v w' c:=by
 refine⟨by unfold PtAt;rw[bN,show U (b++[r])=U b++[.int .u32 (r:Int)] by unfold U;rw[aq7];rfl];exact k,⟨a.os,a.tape,a.output,aH (by simp) a.size,fun i f j=>(a.block i (by simp;omega) j).trans (Below.heap_alloc w o i f)⟩,fun g e=> ?_⟩;rcases d with h|h
 ·left;rw[<-h];exact e
 ·right;rw[h] at e;simp at e;omega
def CG(w:World)(l:List UInt8)(e:Ending)(w':World):Prop:=e= .returned (.string ⟨l.toArray⟩)∧Below w.1.size w w'
def JL(x:Int)(vx:Value)(w:World)(J:NI w vx x)(lx:nl x.natAbs<=1099511627776):
  Calls prog 93 #[vx] w (CG w (Lib.decDigits x.natAbs)):=by
 obtain⟨s,A,k,c,rfl⟩:=J.form;have z:=J.words.len.1;obtain⟨W,eW,t,XB⟩:=bI w [.bool s,.slice A k c] 60;have cM:=XB.k2;clear XB;have G:=(J.be t).words;have ho:∀g,(Value.slice A k c).ownBlock=some g->k≠0->g<w.1.size:=fun g F o=>by
  obtain⟨ds,⟨A',c',e,hc,hd,h⟩,O,h3⟩:=J.words;simp only[Value.slice.injEq] at e;obtain⟨rfl,rfl,rfl⟩:=e;rcases h with h|⟨b,rfl,hl,hB⟩
  ·rw[h] at o;exact absurd rfl o
  ·simp[Value.ownBlock] at F;omega
 generalize x.natAbs=a at *;by_cases o:a=0
 ·have ag:k=0:=z.2 o;subst o;subst ag;rw[show Lib.decDigits 0=[48] from BM];clear z G J ho;go_enter func93,ntmps93;go_wp2;go_ret;exact⟨rfl,t⟩
 ·have ah:k≠0:=fun e=>o (z.1 e);have q0:((k:Int)==0)=false:=by simpa using ah
  have H:=fun g F=>ho g F ah;have H0:=aB o;clear z ho o ah J;go_enter func93,ntmps93;go_wp2_with fail;(try rw[eW]);clear eW;go_loopg [3,4] a (fun g s3 s4 wr=>∃(d:List Nat) (A:Option Addr) (k c m:Nat),Hid (m<=g)∧s4= .slice A k c∧PtAt wr w.1.size s3 d∧Mg wr s4 m∧Hid (iV d+1000000000^d.length*m=a)∧(∀p∈d,p<1000000000)∧Hid (∀g,s3.ownBlock=some g->(Value.slice A k c).ownBlock≠some g)∧Hid (∀g,(Value.slice A k c).ownBlock=some g->g<wr.1.size)∧nl m<=1099511627776∧d.length<=3298534883329∧Below w.1.size w wr)
  case atStart=>exact⟨[],A,k,c,a,aE,rfl,World.ownsRow_nil _ _ _ _,G,by unfold Hid;simp[iV],(fun p f=>by cases f),(fun g F=>by simp[Value.ownBlock] at F),(fun g F=>aZ (H g F) t.size),lx,by simp,t⟩
  case round=>
   clear G t H;obtain⟨d,A,k,c,m,HG,rfl,X,G,S,ai,HA,HO,lm,bu,t⟩:=hrel;generalize wr=n at *;have z:=G.len.1;by_cases o:m=0
   ·have ag:k=0:=z.2 o;subst ag;have hv:iV d=a:=by have:=S.out;rw[o,azP,gQ] at this;exact this
    have hD:=Ds.row X rfl (fun p f=>by8 (ai p f) (by decide));obtain⟨AP,cP,rfl,bm⟩:=hD.form;have ak:=aB hv;clear z hv X G S HA HO HG o;go_wp2_with fail;go_loopg [7,8] d.length (fun k s7 s8 wr=>∃i:Int,Hid (i+1=k)∧s8= .int .i64 i∧ -1<=i∧i<d.length∧TxtAt wr n.1.size s7 (dz (iV (d.drop k)))∧Below n.1.size n wr)
    case atStart=>exact⟨(d.length:Int)-1,by unfold Hid;omega,rfl,by omega,by omega,by rw[azY];exact World.ownsRow_nil _ _ _ _,aG _ _⟩
    case round=>
     obtain⟨i,HI,rfl,bn,bo,u,y⟩:=hrel;generalize wr=wy at *;cases gk with
     |zero=>
      have hi:¬0<=i:=by have:=HI.out;omega
      have Y:=u.str;have E:dz (iV (d.drop 0))=Lib.decDigits a:=by rw[azZ,ak.out];unfold dz;rw[if_neg H0.out]
      rw[E] at Y;have M:=aB E;clear E;go_wp2;go_ret;exact⟨rfl,aC t y⟩
     |succ k=>
      have a8:i=(k:Int):=by have:=HI.out;omega
      subst a8;obtain⟨p,f⟩:∃p,d[k]? =some p:=⟨_,aR (by omega)⟩;have bg:=ai p (dG f);obtain⟨gp,rfl,a7,al⟩:=hD.at_ f;have a5:=fun (W:World) (t:Below n.1.size n W)=>(t.cell (p:=⟨gp,k,none⟩) a7).trans al;have ab:=WE f;have au:=WF d k;rw[ab,ak.out] at au;have a0:=aB ab;clear ab f al;generalize iV (d.drop (k+1))=V at *;go_wp2_with fail;go_loopg [7,9] 9 (fun m s7 s9 wr=>∃j,Hid (j+m=9)∧s9= .int .u32 (tn j:Int)∧TxtAt wr n.1.size s7 (dz (V*10^j+p/10^(9-j)))∧Below n.1.size n wr)
      case atStart=>exact⟨0,by unfold Hid;omega,rfl,by rw[bx0,az9,azT (show p<10^(9-0) by simpa using bg),gQ];exact u,y⟩
      case round=>
       clear u y;obtain⟨j,R,rfl,u,y⟩:=hrel;generalize wr=wz at *;cases gk with
       |zero=>
        have hj:j=9:=R.out;subst hj;rw[show V*10^9+p/10^(9-9)=iV (d.drop k) by rw[a0.out,azV,bx0,Nat.div_one,dN,aq1]] at u;have t9:((tn 9:Nat):Int)=0:=rfl;go_wp2;go_roundg k
        case rel=>exact⟨(k:Int)-1,by unfold Hid;omega,by go_num,by omega,by omega,u,y⟩
        case measure=>omega
       |succ m=>
        have ar:j<=8:=by have:=R.out;omega
        obtain⟨t1,t2,t3⟩:=WG ar;have Y:=WH (v:=V) (p:=p) ar;have he:p/tn j%10<10:=dI _ (by decide);have E:=WC (v:=V*10^j+p/10^(9-j)) he;rw[<-Y] at E;have bi:=a5 wz y;have M:=aB E;have T1:=aB t1;clear Y E t1;have aw:V*10^j+p/10^(9-j)<=a:=by
         have T:V*10^j<=V*10^9:=eV _ (fT (by decide) (by omega));have O:=azK p (10^(9-j));omega
        generalize V*10^j+p/10^(9-j)=v at *;have hL:(dz v).length<=21990232555541:=by
         unfold dz;split
         ·simp
         ·have:=wR v _ (cK aw);omega
        have an:(dz v).length=0↔v=0:=by
         unfold dz;split
         ·simp[*]
         ·have T:=Lib.decDigits_length v;have O:=Lib.nDigits_pos v;omega
        have bt:p/tn j<=p:=azK _ _;have x1:(p:Int)/((tn j:Nat):Int)=((p/tn j:Nat):Int):=(azR _ _).symm;have x2:((p/tn j:Nat):Int)%10=((p/tn j%10:Nat):Int):=(bx8 _ _).symm;have hc:((UInt8.ofNat (48+p/tn j%10)).toNat:Int)=48+((p/tn j%10:Nat):Int):=by rw[tJ he];rfl
        obtain⟨Ao,co,rfl⟩:=u.slice;have bb:=u.lt;generalize p/tn j%10=e at *;generalize p/tn j=pd at *;have x3:decide (0<tn j)=true:=by simpa using t2
        generalize tn j=D at *;generalize am:dz v=L at *;have HC:=aB hc;clear hc;have aj:=aB an;have bh:=aB am;clear an am au aw;by_cases P:v=0∧e=0
        ·have C:=M.out;rw[if_pos P] at C;have Z:=aB C;have a9:L=[]:=bX (aj.out.2 P.1);obtain⟨-,rfl⟩:=P;subst a9;clear C M HC;go_wp2;go_roundg m
         case rel=>exact⟨j+1,by have:=R.out;unfold Hid;omega,by rw[<-T1.out];rfl,by rw[Z.out];exact u,y⟩
         case measure=>omega
        ·have C:=M.out;rw[if_neg P] at C;have Z:=aB C;have bf:decide (0<L.length)=true∨decide (0<L.length)=false∧((48:Int)+(e:Int) != 48)=true:=by
          by_cases h:L.length=0
          ·exact .inr ⟨by rw[jA];omega,by rw[bne_iff_ne];have:=aj.out.1 h;omega⟩
          ·exact .inl (by rw[iQ];omega)
         have a3:wz.ownsRow n.1.size 5 1 (.slice Ao L.length co) L.length (Lib.byteCells L):=u;have bv:=y.size;clear C M P;rcases bf with r1|⟨r1,r2⟩
         all_goals (
          go_wp2_with (at_builtin;refine gM rfl rfl 5 _ 1 1 underlying137 nF rfl (by decide) n.1.size (.slice Ao L.length co) L.length _ rfl (a3.alloc _) [.int .u8 (48+(e:Int))] rfl (by simp) (F9 _ _ _) (by simp[Value.oneCell']) (by omega) (by omega) (by simp;omega) ?_;intro q1 w6 H af ac);rw[<-HC.out] at H;obtain⟨I,a4⟩:=TxtAt.more (bs:=L) (l:=[UInt8.ofNat (48+e)]) H af ac;have ae:=a4.belowB (B:=n.1.size) y.size (fun g h=>(bb g h).1);go_wp2;go_roundg m
          case rel=>exact⟨j+1,by have:=R.out;unfold Hid;omega,by rw[<-T1.out];rfl,by rw[Z.out];exact I,y.trans ae⟩
          case measure=>omega)
   ·have hd:decide (0<k)=true:=by have:=fun e=>o (z.1 e);simp;omega
    have ba:=WB (a:=a) (by have:=S.out;omega:1000000000^d.length*m<=a) (by omega);clear z;go_wp2_with fail;have av:Calls prog 132 #[.slice A k c,.int .u32 1000000000] n (EO n m 1000000000):=EP m 1000000000 _ n G lm (by decide) (by decide);refine av.mono ?_;rintro e1 w1 ⟨v1,rfl,T,hf,ad⟩;obtain⟨K,Q,N,rfl⟩:=T.form;have ao:=X.be ad;have a1:w1.ownsRow w.1.size 140 1 u3 d.length (U d):=ao;have aq:=aC t ad;have hr:m%1000000000<1000000000:=dI _ (by decide);have br:m/1000000000<m:=by6 (by omega) (by decide);have a6:=bxO m 1000000000;have bq:nl (m/1000000000)<=nl m:=cK (by omega);have bp:=ba;clear av hd;generalize m%1000000000=r at *;generalize m/1000000000=q at *;have bk:=ad.size;have bj:=t.size;go_wp2_with (at_builtin;refine gM rfl rfl 140 _ 1 4 underlying58 oX rfl (by decide) w.1.size u3 d.length _ rfl (a1.alloc _) [.int .u32 (r:Int)] rfl (by simp) (F9 _ _ _) (by simp[Value.oneCell']) (by omega) (by omega) (by simp;omega) ?_;intro q1 w6 H af ac);obtain⟨a2,I⟩:=PtAt.more H af ac;have hu:=ao.lt;have ap:∀g,u3.ownBlock=some g->(Value.slice K Q N).ownBlock≠some g:=fun g h e=>by
     have:=(hf g e).1;have:=(X.lt g h).2;omega
    have bc:Mg w6 (.slice K Q N) q:=T.grown I.1 ap;have ae:=I.belowB (B:=w.1.size) aq.size (fun g h=>(hu g h).1);have ax:Hid (∀g,q1.ownBlock=some g->(Value.slice K Q N).ownBlock≠some g):=fun g h e=>by
     rcases I.2 g h with O|O
     ·exact ap g O e
     ·have:=(hf g e).2;omega
    have ay:Hid (∀g,(Value.slice K Q N).ownBlock=some g->g<w6.1.size):=fun g h=>aZ (hf g h).2 I.1.size;have az:Hid (iV (d++[r])+1000000000^(d++[r]).length*q=a):=by
     unfold Hid;rw[WD,bN,iJ,dH,<-S.out,<-a6,iL];grind
    obtain⟨g,rfl⟩:∃g,gk=g+1:=⟨gk-1,by have:=HG.out;omega⟩;go_wp2;go_roundg g
    case rel=>exact⟨d++[r],K,Q,N,q,by have:=HG.out;unfold Hid;omega,rfl,a2,bc,az,(fun p f=>by
     rcases List.mem_append.1 f with f|f
     ·exact ai p f
     ·rw[List.mem_singleton.1 f];exact hr),ax,ay,by omega,by rw[bN,iJ];omega,aq.trans ae⟩
    case measure=>omega
