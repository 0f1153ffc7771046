/- Laws. -/
import Derived.Test.YtfdaieaidpcdgaaGreatDoorU14
import Derived.Deep.DeepCutAuto
import Derived.Deep.LoopGhost
set_option linter.all false
set_option maxHeartbeats 8000000
set_option maxRecDepth 99999
namespace Go.Proofs.YtfdaieaidpcdgaaGreatDoor
open Go.RowKit Sos Tryz
variable{s s':Bool}{M c k t x:Nat}{w wr wx:World}{S b u:Value}{d n:Int}{As H e m:List Nat}{a:Act}{A:Option Addr}{q:Rat}
def EO(w:World)(a d:Nat)(e:Ending)(w':World):Prop:=∃v,e= .returned (.tuple #[v,.int .u32 ((a%d:Nat):Int)])∧Mg w' v (a/d)∧(∀g,v.ownBlock=some g->w.1.size<=g∧g<w'.1.size)∧Below w.1.size w w'
def EP(a d:Nat)(M:Value)(w:World)(Y:Mg w M a)(la:nl a<=1099511627776)(h:0<d)(af:d<4294967296):
  Calls prog 161 #[M,.int .u32 (d:Int)] w (EO w a d):=by
 obtain⟨X,j,L,rfl⟩:=Y;have lX:=lJ L rfl;have W:=j.dg;obtain⟨A,c,rfl,hc⟩:=j.form;clear L;go_enter func161,ntmps161;go_wp2_with (at_make;refine jT rfl rfl 153 _ 1 4 underlying104 oX rfl (by decide) X.length rfl rfl rfl rfl (by omega) (by omega) ?_;intro w1 ae H E);have R:=Bx.zeros H;clear H ae;go_loopg [7,8] X.length (fun k s t wr=>∃(Q:List Nat) (r:Nat) (i:Int),Hid (i+1=k)∧s= .int .u64 (r:Int)∧t= .int .i64 i∧ -1<=i∧i<X.length∧r<d∧Hid (Q.length+k=X.length)∧Dg Q∧Hid (d*nv Q+r=nv (X.drop k))∧Bx wr w.1.size (U (List.replicate k 0++Q)) 153∧Below w.1.size w wr)
 case atStart=>exact⟨[],0,(X.length:Int)-1,by unfold Hid;omega,rfl,rfl,by omega,by omega,h,by unfold Hid;simp,(fun d b=>by cases b),by unfold Hid;rw[azY];rfl,by rw[fH];exact R,E⟩
 case round=>
  clear R E;obtain⟨Q,r,i,u,rfl,rfl,h1,h2,n,v,B,y,R,l⟩:=hrel;generalize wr=wx at *;cases gk with
  |zero=>
   have F:¬0<=i:=by have:=u.out;omega
   have G:Q.length=X.length:=v.out;rw[aq8,iM] at R;have hv:d*nv Q+r=nv X:=y.out;have e:nv X%d=r:=by rw[<-hv,Nat.mul_add_mod,jJ n]
   have b:nv Q=nv X/d:=by rw[<-hv,byU h,azT n,gQ]
   have K:=ES Q [] w.1.size _ X.length wx (by rw[fH];exact R) B b (by omega) (by omega);rw[G] at K;have O:=aB e;clear G hv e b;go_wp2_with fail;refine K.mono ?_;rintro C w2 ⟨k2,c2,rfl,e,rfl⟩;go_wp2;go_ret2;exact⟨_,by rw[O.out];rfl,e,fun g hg=>by have:=R.lt;simp[Value.ownBlock] at hg;omega,l⟩
  |succ k=>
   have F:i=(k:Int):=by have:=u.out;omega
   subst F;obtain⟨x,f⟩:∃x,X[k]? =some x:=⟨_,aR (by omega)⟩;obtain⟨bx,rfl,ag,gx⟩:=(j.be l).at_ f;have N:=W.get f;unfold aD at N;have g0:=R.last;have f0:=R.free k;have ah:=zG r x (by omega) N;have V:=aB (zM f);clear f;have I:r*aD+x<d*4294967296:=by
    have:(r+1)*4294967296<=d*4294967296:=dK _ n;unfold aD;omega
   have ad:d*4294967296<=4294967295*4294967296:=dK _ (by omega);generalize D:r*aD+x=S at *;have P:=aB D;have Z:S/d<4294967296:=mU I;have ac:S%d<d:=dI _ h;have e1:((S:Int))/(d:Int)=((S/d:Nat):Int):=(azR S d).symm;have C:((S:Int))%(d:Int)=((S%d:Nat):Int):=(bx8 S d).symm;have J:d*nv (S/d :: Q)+S%d=nv (X.drop k):=by
    rw[V.out,<-y.out];exact NA (by rw[dN,iD,P.out])
   have T:=aB J;have ai:S<=18446744073709551615:=by omega
   clear J D I ad;generalize S/d=q at *;generalize S%d=m at *;go_wp2;go_roundg k
   case rel=>exact⟨q :: Q,m,(k:Int)-1,by unfold Hid;omega,by rw[C],by go_num,by omega,by omega,ac,by have:=v.out;unfold Hid;rw[eG];omega,(fun z o=>by
    rcases List.mem_cons.1 o with rfl|o
    ·exact Z
    ·exact B z o),T,R.prev rfl,l.setCell (p:=⟨w.1.size,k,none⟩) aE _⟩
   case measure=>omega
def MW{s z:Nat}(k:s<32)(e:x<4294967296)(g:z<2^s):∃V L H:Nat,IntKind.u64.wrap ((x:Int)*2^s)=V∧V<=18446744073709551615∧bits .or .u32 (z:Int) ((V:Int)%4294967296)=L∧(V:Int)/4294967296=H∧L<4294967296∧H<2^s∧H<4294967296∧L+aD*H=z+2^s*x:=by
 have c:x*2^s<4294967296*2^s:=bxF e (d7 (by decide));have h:2^s<=2^31:=cO (by decide) (by omega);have a:(4294967296:Nat)=2^s*2^(32-s):=by rw[<-KF,show s+(32-s)=32 by omega]
 have b:x*2^s%4294967296=2^s*(x%2^(32-s)):=by conv=>lhs;rw[a,dN x,Nat.mul_mod_mul_left]
 have f:x%2^(32-s)+1<=2^(32-s):=dI _ (d7 (by decide));have d:2^s*(x%2^(32-s)+1)<=4294967296:=by rw[a];exact eV _ f
 have j:=dI (x*2^s) (show 4294967296>0 by decide);have i:=bxO (x*2^s) 4294967296;refine⟨x*2^s,z+x*2^s%4294967296,x*2^s/4294967296,?_,by omega,?_,(azR _ _).symm,by rw[b];rw[iL] at d;omega,mU c,by omega,by unfold aD;rw[dN (2^s)];omega⟩
 ·rw[show((x:Int)*2^s)=((x*2^s:Nat):Int) by rw[az8,bx9];rfl];exact IntWalk.u64_in _ (by omega)
 ·rw[show((x*2^s:Nat):Int)%4294967296=((x*2^s%4294967296:Nat):Int) from(bx8 _ _).symm,u32_or _ _ (by omega) (by omega) (by omega) (by omega),j9,j9,b,Nat.or_comm,zO g,aq1]
def MX{s y:Nat}(i:s<32)(e:x<4294967296)(j:y<4294967296):∃V L:Nat,IntKind.u64.wrap (32-(s:Int))=((32-s:Nat):Int)∧IntKind.u64.wrap ((y:Int)*2^(32-s))=V∧IntKind.u32.wrap (V:Int)=L∧bits .or .u32 ((x/2^s:Nat):Int) (L:Int)=((x/2^s+L:Nat):Int)∧L=2^(32-s)*(y%2^s)∧x/2^s+L<4294967296:=by
 have a:(4294967296:Nat)=2^(32-s)*2^s:=by rw[<-KF,show 32-s+s=32 by omega]
 have d:0<2^s:=d7 (by decide);have h:y*2^(32-s)<=4294967295*4294967296:=aqK (by omega) (cO (n:=2) (by decide) (show 32-s<=32 by omega));have c:y*2^(32-s)%4294967296=2^(32-s)*(y%2^s):=by conv=>lhs;rw[a,dN y,Nat.mul_mod_mul_left]
 have f:x/2^s<2^(32-s):=mU (by rw[dN,<-a];exact e);have g:y%2^s+1<=2^s:=dI _ d;have b:2^(32-s)*(y%2^s+1)<=4294967296:=by rw[a];exact eV _ g
 rw[iL,az9] at b;generalize x/2^s=k at *;refine⟨y*2^(32-s),2^(32-s)*(y%2^s),?_,?_,?_,?_,rfl,by omega⟩
 ·rw[show(32:Int)-s=((32-s:Nat):Int) by omega];exact IntWalk.u64_in _ (by omega)
 ·rw[show((y:Int)*2^(32-s))=((y*2^(32-s):Nat):Int) by rw[az8,bx9];rfl];exact IntWalk.u64_in _ (by omega)
 ·rw[IntKind.wrap_u32,<-c];exact(bx8 _ _).symm
 ·rw[u32_or _ _ (by omega) (by omega) (by omega) (by omega),j9,j9,Nat.or_comm,zO f,aq1]
def MY(w:World)(X:List Nat)(s:Nat)(e:Ending)(w':World):Prop:=e= .returned (.slice (some ⟨w.1.size,0,none⟩) (X.length+1) (X.length+1))∧∃Z:List Nat,Bx w' w.1.size (U Z) 153∧Z.length=X.length+1∧Dg Z∧nv Z=2^s*nv X∧Below w.1.size w w'
def EQ(X:List Nat)(D:Value)(s:Nat)(w:World)(g:Ds w D X)(lX:X.length<=2199023255552)(N:s<32):
  Calls prog 165 #[D,.int .u64 (s:Int)] w (MY w X s):=by
 have I:=g.dg;obtain⟨A,c,rfl,hc⟩:=g.form;go_enter func165,ntmps165;go_wp2_with (at_make;refine jT rfl rfl 153 _ 1 4 underlying104 oX rfl (by decide) (X.length+1) rfl rfl rfl rfl (by omega) (by omega) ?_;intro w1 O C u);have R:=Bx.zeros C;clear C O;go_loopg [6] X.length (fun k t wr=>∃(P:List Nat) (z i:Nat),Hid (i+k=X.length)∧t= .int .i64 (i:Int)∧Hid (P.length=i)∧Dg P∧Hid (z<2^s)∧Hid (nv P+aD^i*z=2^s*nv (X.take i))∧Bx wr w.1.size (U (P++z :: List.replicate k 0)) 153∧Below w.1.size w wr)
 case atStart=>exact⟨[],0,0,by unfold Hid;omega,rfl,rfl,(fun d K=>by cases K),d7 (by decide),rfl,R,u⟩
 case round=>
  clear R u;obtain⟨P,z,i,f,rfl,a,o,n,l,R,h⟩:=hrel;generalize wr=wx at *;have ad:(0:Int)<=(i:Int):=by omega
  cases gk with
  |zero=>
   have M:i=X.length:=f.out;subst M;have v:¬(X.length:Int)<(X.length:Int):=by omega
   go_wp2;go_ret;refine⟨rfl,P++[z],R,by rw[jR a.out],o.snoc (aZ n.out (cO (by decide) (show s<=32 by omega))),?_,h⟩;rw[mE z a.out,l.out,iN aE]
  |succ k=>
   have v:i<X.length:=by have:=f.out;omega
   obtain⟨x,e⟩:∃x,X[i]? =some x:=⟨_,aR v⟩;obtain⟨Q,rfl,ac,Y⟩:=(g.be h).at_ e;have E:=I.get e;unfold aD at E;have m:=aB (iR X i);rw[F3 e] at m;clear e;obtain⟨V,L,H,Z,h2,h3,h4,J,q,h7,r⟩:=MW N E n.out;have T:=R.mid a.out;have S:=fun j=>R.free j;have b:=R.next (y:=L) a.out rfl;rw[aqV] at b;have W:=b.mid (jR a.out);have B:=b.next (y:=H) (jR a.out) rfl;have hv:nv (P++[L])+aD^(i+1)*H=2^s*nv (X.take (i+1)):=by
    rw[m.out,mE _ a.out,dH,iW,bxE,<-iL,r,iL,iL,<-l.out,Nat.mul_left_comm];omega
   have G:=aB hv;have F:=aB q;clear hv r q b;go_wp2;go_roundg k
   case rel=>exact⟨P++[L],H,i+1,by have:=f.out;unfold Hid;omega,by go_num,jR a.out,o.snoc J,F,G,(by rw[eK] at B;exact B),(h.setCell (p:=⟨w.1.size,i,none⟩) aE _).setCell (p:=⟨w.1.size,i+1,none⟩) aE _⟩
   case measure=>omega
def ER(a b:Nat)(va vb:Value)(w:World)(ha:Mg w va a)(au:Mg w vb b)(la:nl a<=1099511627776)(lb:nl b<=1099511627776):
  Calls prog 121 #[va,vb] w (zB w (a*b)):=by
 obtain⟨X,W,tX,rfl⟩:=ha;obtain⟨Y,hY,tY,rfl⟩:=au;have lX:=lJ tX rfl;have lY:=lJ tY rfl;have dX:=W.dg;have dY:=hY.dg;obtain⟨A,c,rfl,hc⟩:=W.form;obtain⟨B,d,rfl,hd⟩:=hY.form;clear tX tY;by_cases G:X=[]
 ·subst G;rw[show nv []*nv Y=0 from azW _];go_enter func121,ntmps121;go_wp2;go_ret;exact⟨_,rfl,Mg.zero _ _ _,aG _ _⟩
 ·have qx:((X.length:Int)==0)=false:=by have:=List.length_pos_iff.2 G;simp;omega
  by_cases ad:Y=[]
  ·subst ad;rw[show nv X*nv []=0 from azP _];clear G;go_enter func121,ntmps121;go_wp2;go_ret;exact⟨_,rfl,Mg.zero _ _ _,aG _ _⟩
  ·have qy:((Y.length:Int)==0)=false:=by have:=List.length_pos_iff.2 ad;simp;omega
   clear G ad;go_enter func121,ntmps121;go_wp2_with (at_make;refine jT rfl rfl 153 _ 1 4 underlying104 oX rfl (by decide) (X.length+Y.length) rfl rfl rfl rfl (by omega) (by omega) ?_;intro w1 av ah ae);have R:=Bx.zeros ah;rw[aq1,<-bz9] at R;clear ah av;go_loopg [6] X.length (fun k t wr=>∃(P:List Nat) (i:Nat),Hid (i+k=X.length)∧t= .int .i64 (i:Int)∧Hid (P.length=i+Y.length)∧Dg P∧Hid (nv P=nv (X.take i)*nv Y)∧Bx wr w.1.size (U (P++List.replicate k 0)) 153∧Below w.1.size w wr)
   case atStart=>exact⟨_,0,by unfold Hid;omega,rfl,by unfold Hid;rw[dB];omega,Dg.zeros _,by unfold Hid;rw[NV,byQ];exact(azW _).symm,R,ae⟩
   case round=>
    clear R ae;obtain⟨P,i,J,rfl,l,S,HV,R,g⟩:=hrel;generalize wr=wx at *;have az:(0:Int)<=(i:Int):=by omega
    cases gk with
    |zero=>
     have hi:i=X.length:=J.out;subst hi;have af:¬(X.length:Int)<(X.length:Int):=by omega
     rw[aq8,fH] at R;have ht:=oW P w.1.size (nv X*nv Y) (X.length+Y.length) wx R S (by rw[HV.out,iN aE]) (by rw[l.out];exact aE) (by rw[l.out];omega);rw[l.out] at ht;go_wp2_with fail;refine ht.mono ?_;rintro e2 w2 ⟨v,rfl,hm,rfl⟩;go_wp2;go_ret;exact⟨_,rfl,hm,g⟩
    |succ k=>
     have af:i<X.length:=by have:=J.out;omega
     obtain⟨x,F⟩:∃x,X[i]? =some x:=⟨_,aR af⟩;have ak:=dX.get F;have HX:=aB (iR X i);rw[F3 F] at HX;have ap:=aB F;clear F;have ag:(P.take i).length=i:=by rw[bK,l.out];omega
     have aj:(P.drop i).length=Y.length:=by rw[eP,l.out];omega
     have aq:=S.take i;have ar:=S.drop i;have ai:=N7 P i;rw[<-List.take_append_drop i P] at R;generalize P.take i=h at *;generalize P.drop i=f at *;have L:=aB ag;have u:=aB aj;have an:=aB ai;clear ag aj ai;go_wp2_with fail;go_loopg [7,8] Y.length (fun m s t wr=>∃(Z T:List Nat) (e j:Nat),Hid (j+m=Y.length)∧s= .int .u64 (e:Int)∧t= .int .i64 (j:Int)∧e<aD∧Hid (Z.length=j)∧Hid (f.drop j=T)∧Dg Z∧Hid (nv Z+aD^j*e=nv (f.take j)+x*nv (Y.take j))∧Bx wr w.1.size (U ((h++Z)++(T++List.replicate (k+1) 0))) 153∧Below w.1.size w wr)
     case atStart=>exact⟨[],f,0,0,by unfold Hid;omega,rfl,rfl,mV,rfl,rfl,(fun d hd=>by cases hd),by unfold Hid;rw[byQ,byQ];simp[nv],by rw[fH,<-eK];exact R,g⟩
     case round=>
      clear R g;obtain⟨Z,T,e,j,K,rfl,rfl,D,o,M,dZ,N,R,g⟩:=hrel;generalize wr=wy at *;have a0:(0:Int)<=(j:Int):=by omega
      have r:Hid ((h++Z).length=i+j):=by unfold Hid;rw[bE,L.out,o.out]
      cases gk with
      |zero=>
       have hj:j=Y.length:=K.out;subst hj;have E:¬(Y.length:Int)<(Y.length:Int):=by omega
       have V:T=[]:=by rw[<-M.out,<-u.out];exact azY
       subst V;rw[iM,aqV] at R;have g0:=R.mid r.out;have f0:=fun n=>R.free n;have hn:=R.next (y:=e) r.out rfl;have hv:nv (h++(Z++[e]))=nv (X.take (i+1))*nv Y:=by
        rw[mF,mE e o.out,L.out,N.out,iN (by rw[u.out];exact aE),iN aE,HX.out,aqA,<-HV.out,an.out,iL,iW,bxE]
       have ao:=aB hv;clear hv;unfold aD at D;go_wp2;go_roundg k
       case rel=>exact⟨h++(Z++[e]),i+1,by have:=J.out;unfold Hid;omega,by go_num,by unfold Hid;rw[bE,jR o.out,L.out];omega,aq.app (dZ.snoc D),ao,(by rw[<-eK];exact hn),g.setCell (p:=⟨w.1.size,i+Y.length,none⟩) aE _⟩
       case measure=>omega
      |succ m=>
       have E:j<Y.length:=by have:=K.out;omega
       obtain⟨y,H⟩:∃y,Y[j]? =some y:=⟨_,aR E⟩;obtain⟨z,I⟩:∃z,f[j]? =some z:=⟨_,aR (by rw[u.out];exact E)⟩;obtain⟨bx,rfl,ax,gx⟩:=(W.be g).at_ ap.out;obtain⟨aw,rfl,ay,gy⟩:=(hY.be g).at_ H;have al:=dY.get H;have am:=ar.get I;have V:T=z :: f.drop (j+1):=by rw[<-M.out];exact(j5 (by rw[u.out];exact E)).trans (by rw[(List.getElem?_eq_some_iff.1 I).2])
       subst V;have O:=aB (iR Y j);have Q:=aB (iR f j);rw[F3 H] at O;rw[F3 I] at Q;clear H I M;have g0:=R.mid r.out;have f0:=fun n=>R.free n;obtain⟨C,b2⟩:=N9 ak al D am;have ac:=zI o.out N.out (show e+(x*y+z)=e+(x*y+z) from rfl);rw[show nv (f.take j)+x*nv (Y.take j)+aD^j*(x*y+z)=nv (f.take (j+1))+x*nv (Y.take (j+1)) by rw[O.out,Q.out];grind] at ac;have w1:IntKind.u64.wrap ((x:Int)*y)=((x*y:Nat):Int):=by rw[<-az8];exact IntWalk.u64_in _ (by unfold aD at C;omega)
       generalize x*y=p at *;have w2:IntKind.u64.wrap ((p:Int)+z)=((p+z:Nat):Int):=by rw[<-Int.natCast_add];exact IntWalk.u64_in _ (by unfold aD at C;omega)
       generalize hq:p+z=q at *;have w3:IntKind.u64.wrap ((e:Int)+q)=((e+q:Nat):Int):=by rw[<-Int.natCast_add];exact IntWalk.u64_in _ (by unfold aD at C;omega)
       have a1:e+q<=18446744073709551615:=by unfold aD at C;omega
       generalize e+q=s at *;have HS:=aB ac;have w4:=IntWalk.i64_in ((i:Int)+j) (by omega);have w5:(0:Int)<=(i:Int)+j:=by omega
       have w6:((i:Int)+j).toNat=i+j:=by omega
       have w7:i+j<X.length+Y.length:=by omega
       clear ac hq N O Q;unfold aD at ak al am D b2;go_wp2_with fail;go_quiet (fail);go_wp2;go_roundg m
       case rel=>exact⟨Z++[s%aD],f.drop (j+1),s/aD,j+1,by have:=K.out;unfold Hid;omega,vH (by unfold aD;omega),by go_num,b2,jR o.out,rfl,dZ.snoc (dI _ mV),HS,(by
        rw[<-eK h];exact(show Bx (wy.drewN _) _ (U ((h++Z)++z :: (f.drop (j+1)++List.replicate (k+1) 0))) _ from R).next r.out (pW (a:=(s:Int)%4294967296) (b:=s%aD) (by unfold aD;omega))),(eN g _).setCell (p:=⟨w.1.size,i+j,none⟩) aE _⟩
       case measure=>omega
def pV:Code->List Code
 | .loop c=>[c]
 | .seq a b=>pV a++pV b
 | .block _ c=>pV c
 | .scope c=>pV c
 | .cond _ a b=>pV a++pV b
 |_=>[]
noncomputable def dvBody:Code:=((Tryz.f119.body.map pV).getD []).getD 1 .skip
def vF(S V U N Q:Value)(f:Nat->Value)(J:Value):Act:=⟨#[f 0,f 1,f 2,f 3,f 4,f 5,f 6,f 7,S,V,U,N,f 12,Q,J,f 15,f 16,f 17,f 18,f 19,f 20,f 21,f 22,f 23,f 24,f 25,f 26,f 27,f 28,f 29,f 30,f 31,f 32,f 33,f 34,f 35,f 36,f 37,f 38,f 39,f 40,f 41,f 42,f 43,f 44,f 45,f 46,f 47,f 48,f 49,f 50,f 51,f 52,f 53,f 54,f 55,f 56,f 57,f 58,f 59,f 60,f 61,f 62,f 63,f 64,f 65,f 66,f 67,f 68,f 69,f 70,f 71,f 72,f 73,f 74,f 75,f 76,f 77,f 78,f 79,f 80,f 81,f 82,f 83,f 84,f 85,f 86,f 87,f 88,f 89,f 90,f 91,f 92,f 93,f 94,f 95,f 96,f 97,f 98,f 99,f 100,f 101,f 102,f 103,f 104,f 105,f 106,f 107,f 108,f 109,f 110,f 111,f 112,f 113,f 114,f 115,f 116,f 117,f 118,f 119,f 120,f 121,f 122,f 123,f 124,f 125,f 126,f 127,f 128,f 129,f 130,f 131,f 132,f 133,f 134,f 135,f 136,f 137,f 138,f 139,f 140,f 141,f 142,f 143,f 144,f 145,f 146,f 147,f 148,f 149,f 150,f 151,f 152,f 153,f 154,f 155,f 156,f 157,f 158,f 159,f 160,f 161,f 162,f 163,f 164,f 165,f 166,f 167,f 168,f 169,f 170,f 171,f 172,f 173,f 174,f 175,f 176,f 177,f 178,f 179,f 180,f 181,f 182,f 183,f 184,f 185,f 186,f 187,f 188,f 189,f 190,f 191,f 192,f 193,f 194,f 195,f 196,f 197,f 198,f 199,f 200,f 201,f 202,f 203,f 204,f 205,f 206,f 207,f 208,f 209,f 210,f 211,f 212,f 213,f 214,f 215,f 216,f 217,f 218,f 219,f 220,f 221,f 222,f 223,f 224,f 225,f 226,f 227,f 228,f 229,f 230,f 231,f 232,f 233,f 234,f 235,f 236,f 237,f 238,f 239,f 240,f 241,f 242,f 243,f 244,f 245,f 246,f 247,f 248,f 249,f 250,f 251,f 252,f 253,f 254,f 255,f 256,f 257,f 258,f 259,f 260,f 261,f 262,f 263,f 264,f 265,f 266,f 267,f 268,f 269,f 270,f 271,f 272,f 273,f 274,f 275,f 276,f 277,f 278,f 279,f 280,f 281,f 282,f 283,f 284,f 285,f 286,f 287,f 288,f 289,f 290,f 291,f 292,f 293,f 294,f 295,f 296,f 297,f 298,f 299],[]⟩
def EN(w:World)(f e d n M:Nat)(b c:List Nat)(k:Nat)(J:Value)(wr:World):Prop:=
 ∃(us a:List Nat) (j:Int) (z:Nat),Hid (j+1=k)∧J= .int .i64 j∧ -1<=j∧j<=M∧Hid (us.length=n+k)∧Hid (z+k=M+1)∧Dg us∧Dg a∧Hid (nv us<nv b*aD^k)∧Hid (nv us+nv b*aD^k*nv a=nv c)∧
  Bx wr f (U (b++[0])) 153∧Bx wr e (U (us++List.replicate z 0)) 153∧Bx wr d (U (List.replicate k 0++a)) 153∧Hid (a.length=z)∧Below w.1.size w wr
def vG(S:Value)(d c b n M a e:Nat):(Nat->Value)->Value->Act:=vF S (.slice (some ⟨d,0,none⟩) n (e+1)) (.slice (some ⟨c,0,none⟩) (a+1) (a+1)) (.int .i64 (n:Int)) (.slice (some ⟨b,0,none⟩) (M+1) (M+1))
def DvI(w:World)(S:Value)(d c b n M:Nat)(h f:List Nat)(e g:Nat)(k:Nat)(a:Act)(wr:World):Prop:=
 ∃l:List Value,a=⟨l.toArray,[]⟩∧l.length=300∧EN w d c b n M h f k (l.getD 14 undef) wr∧l.getD 8 undef=S∧l.getD 9 undef= .slice (some ⟨d,0,none⟩) n (g+1)∧l.getD 10 undef= .slice (some ⟨c,0,none⟩) (e+1) (e+1)∧l.getD 11 undef= .int .i64 (n:Int)∧l.getD 13 undef= .slice (some ⟨b,0,none⟩) (M+1) (M+1)
def MU(f:Nat->Value):⟨((List.range 300).map f).toArray,[]⟩=vF (f 8) (f 9) (f 10) (f 11) (f 13) f (f 14):=rfl
def DvI.open_{d b n:Nat}{g j:Nat}(h:DvI w S d c b n M m e g j k a wr):∃f J,EN w d c b n M m e k J wr∧a=vG S d c b n M g j f J:=by
 obtain⟨l,rfl,u,v,s,t,p,q,r⟩:=h;refine⟨fun i=>l.getD i undef,_,v,?_⟩;unfold vG;rw[<-s,<-t,<-p,<-q,<-r,<-MU (fun i=>l.getD i undef)];congr 2;refine bzO (by simp[u]) (fun i o x=> ?_);simp[o]
def MV{L A I n p:Nat}{lx ly:Nat}(HV:Hid (Dvs H n p))(cg:w.1.size<=L)(ct:L<A)(cs:A<I)(bj:Hid (lx+1=n+(M+1)))(cn:lx<=2199023255552)(cp:2<=n)(cm:n<=ly+1)(hM:M<=lx)(k:Nat)(hI:DvI w S L A I n M H As lx ly (k+1) a wx)
  (JJ:Nat->Act->World->Prop)(K:Act->World->Prop)(Q0:Exit->Act->World->Prop)(hJ:∀k a' w',DvI w S L A I n M H As lx ly k a' w'->JJ k a' w')(hK:∀a' w',Handed JJ (k+1) a' w'->K a' w'):dvBody.wp prog (Exit.then K Q0) a wx:=by
 obtain⟨f,J,⟨us,rs,j,z,HJ,rfl,ck,cl,bc,HZ,dA,dR,bg,bt,l,e,o,bh,u⟩,rfl⟩:=hI.open_;unfold vG vF;have b5:j=(k:Int):=by have:=HJ.out;omega
 subst b5;have ag:=aB HV.out.len;have bi:=aB HV.out.lt;have dV:=HV.out.dg;obtain⟨G,V,t,u1,u0,E,v0,qt,rt,X,aq,ay,a9,ba,br,bs,bq⟩:=NU HV.out bc.out dA bg.out;have gt:=e.cell (k+n) (SL (X.c2 _));have g1:=e.cell (k+n-1) (SL (X.c1 _));have g0:=e.cell (k+n-2) (SL (X.c0 _));have a7:=l.cell (n-1) (SL X.d1);have a6:=l.cell (n-2) (SL X.d0);obtain⟨w1,w2,w3,w4,w5,w6,w7,w8,w9,ca⟩:IntKind.i64.wrap ((k:Int)+n)=(k:Int)+n∧IntKind.i64.wrap ((k:Int)+n-1)=(k:Int)+n-1∧(0:Int)<=(k:Int)+n-1∧((k:Int)+n-1).toNat=k+n-1∧((k:Int)+n).toNat=k+n∧(0:Int)<=(k:Int)+n∧k+n<lx+1∧k+n-1<lx+1∧IntKind.u64.wrap ((t:Int)*4294967296)=(t:Int)*4294967296∧k+n-2<lx+1:=by
  have:=bj.out;unfold aD at aq;exact⟨IntWalk.i64_in _ (by omega),IntWalk.i64_in _ (by omega),by omega,by omega,by omega,by omega,by omega,by omega,IntWalk.u64_in _ (by omega),by omega⟩
 have ax:=zG t u1 aq ay;have B:=aB X;have e1:((t*aD+u1:Nat):Int)/(E:Int)=(((t*aD+u1)/E:Nat):Int):=(azR _ _).symm;have W:((t*aD+u1:Nat):Int)%(E:Int)=(((t*aD+u1)%E:Nat):Int):=(bx8 _ _).symm;have av:=aB X.first;have ap:=X.first.hi;have ai:(t*aD+u1)%E<aD:=by8 (dI _ bs) ba;have Y:t*aD+u1<=18446744073709551615:=by unfold aD at aq ay⊢;omega
 generalize (t*aD+u1)/E=h at *;generalize (t*aD+u1)%E=r at *;generalize t*aD+u1=T at *;unfold aD at aq ay a9 ba br bq ap ai;clear X bg bc HV;conv=>arg 2;whnf
 go_wp2_with fail;go_quiet (fail);go_upto_block 4 with fail;go_cut [16,17] from 115 to 150 (fun s cv v=>∃C:Nat,s= .int .u64 (C:Int)∧qt<=C∧C<=qt+1∧C<4294967296∧Bx v L (U (H++[0])) 153∧Bx v A (U (us++List.replicate z 0)) 153∧Bx v I (U (List.replicate (k+1) 0++rs)) 153∧Below w.1.size w v)
 case first=>
  replace u:=eN u nq;replace l:Bx (wx.drewN nq) _ _ _:=l;replace e:Bx (wx.drewN nq) _ _ _:=e;replace o:Bx (wx.drewN nq) _ _ _:=o;clear gt g1 g0 a7 a6;generalize wx.drewN nq=wx at *;obtain⟨x1,x2,x3,x4,x5,x6,x7,x8⟩:IntKind.i64.wrap ((n:Int)-2)=(n:Int)-2∧(0:Int)<=(n:Int)-2∧((n:Int)-2).toNat=n-2∧IntKind.i64.wrap ((k:Int)+n-2)=(k:Int)+n-2∧(0:Int)<=(k:Int)+n-2∧((k:Int)+n-2).toNat=k+n-2∧n-2<=n∧n-1<=n:=by
   have:=bj.out;exact⟨IntWalk.i64_in _ (by omega),by omega,by omega,IntWalk.i64_in _ (by omega),by omega,by omega,by omega,by omega⟩
  go_wp2_with fail;go_loopg [16,17] (h-qt) (fun g s t' v=>∃h r:Nat,Hid (h=qt+g)∧s= .int .u64 (h:Int)∧t'= .int .u64 (r:Int)∧Hid (Est t u1 E qt h r)∧r<4294967296∧h<=4294967297∧Bx v L (U (H++[0])) 153∧Bx v A (U (us++List.replicate z 0)) 153∧Bx v I (U (List.replicate (k+1) 0++rs)) 153∧Below w.1.size w v)
  case atStart=>exact⟨h,r,by have:=av.out.lo;unfold Hid;omega,rfl,by rw[W],av,ai,ap,l,e,o,u⟩
  case round=>
   clear l e o u av ai ap e1 W;obtain⟨h,r,HG,rfl,rfl,HE,ai,ap,l,e,o,u⟩:=hrel;generalize wr=v at *;have g0:=e.cell (k+n-2) (SL (B.out.c0 _));have a7:=l.cell (n-1) (SL B.out.d1);have a6:=l.cell (n-2) (SL B.out.d0);rcases dE 4294967295 h with b0|b0
   ·have q0:decide ((4294967296:Int)<=(h:Int))=true:=by simp;omega
    obtain⟨hE,h1⟩:=B.out.more h r HE.out (.inl (by unfold aD;omega));have ad:=aB hE;clear hE;rcases dE 4294967295 (r+E) with ao|ao
    ·have q2:decide ((4294967296:Int)<=(r:Int)+E)=true:=by simp;omega
     have Q:=B.out.fin _ _ ad.out (.inr (by unfold aD;omega));go_wp2_with fail;go_quiet (fail);go_wp2;go_meet;exact⟨h-1,by go_num,Q.1,Q.2.1,Q.2.2,l,e,o,eN u _⟩
    ·have q2:decide ((4294967296:Int)<=(r:Int)+E)=false:=by simp;omega
     have q3:r+E<4294967296:=by omega
     obtain⟨g,rfl⟩:∃g,gk=g+1:=⟨gk-1,by have:=HG.out;have:=ad.out.lo;omega⟩;clear ao;go_wp2_with fail;go_quiet (fail);go_wp2;go_roundg g
     case rel=>exact⟨h-1,r+E,by have:=HG.out;unfold Hid;omega,by go_num,by go_num,ad,by omega,by omega,l,e,o,eN u _⟩
     case measure=>omega
   ·have q0:decide ((4294967296:Int)<=(h:Int))=false:=by simp;omega
    have hP:h*v0<=4294967295*4294967295:=aqK (by omega) (by omega);have y1:IntKind.u64.wrap ((h:Int)*v0)=((h*v0:Nat):Int):=by rw[<-az8];exact IntWalk.u64_in _ (by omega)
    have y2:=zG r u0 ai a9;have y3:=IntWalk.u64_in ((r:Int)*4294967296) (by omega);by_cases hc:r*aD+u0<h*v0
    ·have q1:decide (r*aD+u0<h*v0)=true:=by simp;omega
     obtain⟨hE,h1⟩:=B.out.more h r HE.out (.inr hc);have ad:=aB hE;clear hE hc hP;generalize r*aD+u0=R at *;generalize h*v0=P at *;rcases dE 4294967295 (r+E) with ao|ao
     ·have q2:decide ((4294967296:Int)<=(r:Int)+E)=true:=by simp;omega
      have Q:=B.out.fin _ _ ad.out (.inr (by unfold aD;omega));go_wp2_with fail;go_quiet (fail);clear y1 y2 y3 w9 ax;go_wp2;go_meet;exact⟨h-1,by go_num,Q.1,Q.2.1,Q.2.2,l,e,o,eN u _⟩
     ·have q2:decide ((4294967296:Int)<=(r:Int)+E)=false:=by simp;omega
      have q3:r+E<4294967296:=by omega
      obtain⟨g,rfl⟩:∃g,gk=g+1:=⟨gk-1,by have:=HG.out;have:=ad.out.lo;omega⟩;clear ao;go_wp2_with fail;go_quiet (fail);clear y1 y2 y3 w9 ax;go_wp2;go_roundg g
      case rel=>exact⟨h-1,r+E,by have:=HG.out;unfold Hid;omega,by go_num,by go_num,ad,by omega,by omega,l,e,o,eN u _⟩
      case measure=>omega
    ·have q1:decide (r*aD+u0<h*v0)=false:=by simp;omega
     have Q:=B.out.fin h r HE.out (.inl ⟨by unfold aD;omega,by omega⟩);clear hc hP;generalize r*aD+u0=R at *;generalize h*v0=P at *;go_wp2_with fail;go_quiet (fail);clear y1 y2 y3 w9 ax;go_wp2;go_meet;exact⟨h,rfl,Q.1,Q.2.1,Q.2.2,l,e,o,eN u _⟩
 case rest=>
  obtain⟨C,rfl,b8,b9,bz,l,e,o,u⟩:=hcut;clear av ap ai e1 W ax Y w9 gt g1 g0 a7 a6 w1 w2 w3 w4 ca ay a9 ba br bs;generalize wx.drewN nq=cw at *;rw[B.out.us_,show G++(V++[t])++List.replicate z 0=(G++[])++(V++t :: List.replicate z 0) by simp] at e;have ac:=aB B.out.lo_;have am:=aB B.out.xs_;have bv:=B.out.dxs;go_wp2_with fail
  go_loopg [18,19,20] n (fun m s t' s' v=>∃(Z T:List Nat) (c b i:Nat),Hid (i+m=n)∧s= .int .u64 (c:Int)∧t'= .int .u64 (b:Int)∧s'= .int .i64 (i:Int)∧c<4294967296∧b<=1∧Hid (Z.length=i)∧Hid (V.drop i=T)∧Dg Z∧Hid (nv (V.take i)+aD^i*(c+b)=nv Z+C*nv (H.take i))∧
   Bx v L (U (H++[0])) 153∧Bx v A (U ((G++Z)++(T++t :: List.replicate z 0))) 153∧Bx v I (U (List.replicate (k+1) 0++rs)) 153∧Below w.1.size w v)
  case atStart=>exact⟨[],V,0,0,0,by unfold Hid;omega,rfl,rfl,rfl,by omega,by omega,rfl,rfl,(fun d O=>by cases O),by unfold Hid;simp[nv],l,e,o,u⟩
  case round=>
   clear l e o u;obtain⟨Z,T,c,b,i,HI,rfl,rfl,rfl,hc,bo,N,HT,dZ,a2,l,e,o,u⟩:=hrel;generalize wr=v at *;have ci:(0:Int)<=(i:Int):=by omega
   cases gk with
   |succ m=>
    have ah:i<n:=by have:=HI.out;omega
    obtain⟨x,hx⟩:∃x,V[i]? =some x:=⟨_,aR (by rw[am.out];exact ah)⟩;obtain⟨y,hy⟩:∃y,H[i]? =some y:=⟨_,aR (by rw[ag.out];exact ah)⟩;have az:=bv.get hx;have bb:=dV.get hy;have HL:Hid ((G++Z).length=i+k):=by unfold Hid;rw[bE,ac.out,N.out];omega
    have Y:T=x :: V.drop (i+1):=by rw[<-HT.out];exact(j5 (by rw[am.out];exact ah)).trans (by rw[(List.getElem?_eq_some_iff.1 hx).2])
    subst Y;have gx:=e.mid HL.out;have fx:=fun j=>e.free j;have gy:=l.cell i (SL (by rw[gA (by rw[ag.out];exact ah)];exact hy));have al:=aB (iR V i);have ak:=aB (iR H i);rw[F3 hx] at al;rw[F3 hy] at ak;clear hx hy HT;unfold aD at az bb;have hP:C*y<=4294967295*4294967295:=aqK (by omega) (by omega);have y1:IntKind.u64.wrap ((C:Int)*y)=((C*y:Nat):Int):=by rw[<-az8];exact IntWalk.u64_in _ (by omega)
    have an:∃P,C*y=P:=⟨_,rfl⟩;obtain⟨P,an⟩:=an;rw[an] at y1 hP;have y2:(P:Int)+c=((P+c:Nat):Int):=rfl;have cq:P+c<=18446744073709551615:=by omega
    have b6:(P+c)%4294967296+4294967296*((P+c)/4294967296)=P+c:=bxO _ _;have y3:((P+c:Nat):Int)/4294967296=(((P+c)/4294967296:Nat):Int):=(azR _ _).symm;have y4:bits .and .u64 ((P+c:Nat):Int) 4294967295=(((P+c)%4294967296:Nat):Int):=by rw[B7 _ (by omega) (by unfold aA;omega)];exact(bx8 _ _).symm
    have b1:(P+c)/4294967296<4294967296:=mU (by omega);have co:(P+c)%4294967296<4294967296:=dI _ (by decide);generalize (P+c)/4294967296=c' at *;generalize (P+c)%4294967296=pm at *;generalize b7:P+c=pp at *;obtain⟨D1,D,r',q',z1,z2,z3,z4,z5,z6,z7,z8,z9⟩:=zE (s:=pm) (t:=b) az (by omega);have HS:=aB (zJ (x:=r') (p:=C*y) (c:=c'+q') N.out a2.out (show x+aD*(c'+q')=r'+C*y+(c+b) by rw[an];unfold aD at z9⊢;omega));clear z9 b6 an b7;go_wp2;go_roundg m
    case rel=>exact⟨Z++[r'],V.drop (i+1),c',q',i+1,by have:=HI.out;unfold Hid;omega,rfl,rfl,by go_num,b1,z5,jR N.out,rfl,dZ.snoc (by unfold aD;exact z6),by unfold Hid;rw[al.out,ak.out,iL C,Nat.mul_left_comm C];exact HS.out,l.far _ _ (by omega),by rw[<-eK G];exact e.next HL.out rfl,o.far _ _ (by omega),u.setCell (p:=⟨A,i+k,none⟩) (show w.1.size<=A by omega) _⟩
    case measure=>omega
   |zero=>
    have ah:i=n:=HI.out;subst ah;have b4:¬(i:Int)<(i:Int):=by omega
    have Y:T=[]:=by rw[<-HT.out,<-am.out];exact azY
    subst Y;rw[iM] at e;have HL:Hid ((G++Z).length=k+i):=by unfold Hid;rw[bE,ac.out,N.out]
    have a8:=a2.out;rw[iN (by rw[am.out];exact aE),iN (by rw[ag.out];exact aE)] at a8;have hZ:nv Z<aD^i:=by have:=nO dZ;rwa [N.out] at this
    have b3:=ND (X:=nv V) (t:=t) (h:=C) (k:=c+b) rfl B.out.u_.symm B.out.r_ bi.out b8 b9 a8 hZ;obtain⟨td,tD,k1,k2,k3,k4,k5⟩:=N5 (t:=t) (c:=c) (b:=b) aq (by omega) bo;have bx:=e.mid HL.out;have bw:=fun j=>e.free j;have bm:=o.last;have bk:=fun j=>o.free j;have a5:=B.out.dlo;have ar:Hid (∀R:List Nat,R.length=i->nv R=rt->nv (G++R)<nv H*aD^k∧nv (G++R)+nv H*aD^k*nv (qt :: rs)=nv As):=fun R cc bn=>⟨NF a5 ac.out (by rw[bn];exact B.out.r_),NE ac.out am.out B.out.u_ bn (by rw[<-B.out.us_];exact bt.out)⟩;clear a8 a2 HT;rcases b3 with ⟨e1,W,e3⟩|⟨e1,W,e3⟩
    ·have k6:IntKind.u64.wrap ((td:Int)-b)=0:=by rw[k2,k4 W];rfl
     have F:=aB (ar.out Z N.out e3);subst e1;clear k2 k4 k5 W e3 ar;go_wp2_with fail;refine Handed.intro k (aqC k) (hJ _ _ _ ⟨_,rfl,rfl,⟨G++Z,C :: rs,(k:Int)-1,z+1,by unfold Hid;omega,rfl,by omega,by omega,by unfold Hid;rw[bE,ac.out,N.out];omega,by have:=HZ.out;unfold Hid;omega,a5.app dZ,?_,F.out.1,F.out.2,(l.far _ _ (show A≠L by omega)).far _ _ (show I≠L by omega),?_,(o.far _ _ (by omega)).prev rfl,by unfold Hid;rw[eG,bh.out],(u.setCell (p:=⟨A,k+i,none⟩) (show w.1.size<=A by omega) _).setCell (p:=⟨I,k,none⟩) (show w.1.size<=I by omega) _⟩,rfl,rfl,rfl,rfl,rfl⟩)
     ·intro d O;rcases List.mem_cons.1 O with rfl|O
      ·exact bz
      ·exact dR d O
     ·rw[aqV,<-List.singleton_append,<-eK];exact(e.next (y:=0) HL.out rfl).far _ _ (by omega)
    ·have k6:IntKind.u64.wrap ((td:Int)-b)=18446744073709551615:=by rw[k2,k5 W];rfl
     have bf:=aB e3;have ch:1<=C:=by omega
     have a3:=e.next (y:=4294967295) HL.out rfl;have cb:=aB hZ;have HQ:=aB e1;clear k2 k4 k5 e1 W e3 hZ bm bk;go_wp2_with fail;rw[show G++Z++[4294967295]++List.replicate z 0=(G++[])++(Z++4294967295 :: List.replicate z 0) by simp] at a3
     go_loopg [18,24] i (fun m s t' v=>∃(R T:List Nat) (c q:Nat),Hid (q+m=i)∧s= .int .u64 (c:Int)∧t'= .int .i64 (q:Int)∧c<=1∧Hid (R.length=q)∧Hid (Z.drop q=T)∧Dg R∧Hid (nv R+aD^q*c=nv (Z.take q)+nv (H.take q))∧
      Bx v L (U (H++[0])) 153∧Bx v A (U ((G++R)++(T++4294967295 :: List.replicate z 0))) 153∧Bx v I (U (List.replicate (k+1) 0++rs)) 153∧Below w.1.size w v)
     case atStart=>exact⟨[],Z,0,0,by unfold Hid;omega,rfl,rfl,by omega,rfl,rfl,(fun d O=>by cases O),by unfold Hid;simp[nv],l.far _ _ (by omega),a3,o.far _ _ (by omega),u.setCell (p:=⟨A,k+i,none⟩) (show w.1.size<=A by omega) _⟩
     case round=>
      clear l e a3 o u bx bw b4 k1 k3 k6 bo;obtain⟨R,T,c,q,a1,rfl,rfl,cd,ae,au,a4,a0,l,e,o,u⟩:=hrel;generalize wr=wz at *;have cr:(0:Int)<=(q:Int):=by omega
      cases gk with
      |succ m=>
       have af:q<i:=by have:=a1.out;omega
       obtain⟨x,hx⟩:∃x,Z[q]? =some x:=⟨_,aR (by rw[N.out];exact af)⟩;obtain⟨y,hy⟩:∃y,H[q]? =some y:=⟨_,aR (by rw[ag.out];exact af)⟩;have az:=dZ.get hx;have bb:=dV.get hy;have aj:Hid ((G++R).length=q+k):=by unfold Hid;rw[bE,ac.out,ae.out];omega
       have Y:T=x :: Z.drop (q+1):=by rw[<-au.out];exact(j5 (by rw[N.out];exact af)).trans (by rw[(List.getElem?_eq_some_iff.1 hx).2])
       subst Y;have gx:=e.mid aj.out;have fx:=fun j=>e.free j;have gy:=l.cell q (SL (by rw[gA (by rw[ag.out];exact af)];exact hy));have al:=aB (iR Z q);have ak:=aB (iR H q);rw[F3 hx] at al;rw[F3 hy] at ak;have HS:=aB (zI ae.out a0.out (show c+(x+y)=c+(x+y) from rfl));clear hx hy au;unfold aD at az bb;have y1:IntKind.u64.wrap ((x:Int)+y)=((x+y:Nat):Int):=IntWalk.u64_in _ (by omega);have cu:x+y<=8589934590:=by omega
       generalize hX:x+y=X at *;have y2:IntKind.u64.wrap ((c:Int)+X)=((c+X:Nat):Int):=IntWalk.u64_in _ (by omega);have ce:c+X<=8589934591:=by omega
       have bu:=aB hX;clear hX;generalize c+X=s at *;obtain⟨x1,x2,x3,x4⟩:IntKind.i64.wrap ((q:Int)+k)=(q:Int)+k∧(0:Int)<=(q:Int)+k∧((q:Int)+k).toNat=q+k∧q+k<lx+1:=⟨IntWalk.i64_in _ (by omega),by omega,by omega,by omega⟩;go_wp2_with fail;go_quiet (fail);clear y1 y2;go_wp2;go_roundg m
       case rel=>exact⟨R++[s%aD],Z.drop (q+1),s/aD,q+1,by have:=a1.out;unfold Hid;omega,vH (by unfold aD;omega),by go_num,by unfold aD;omega,jR ae.out,rfl,a4.snoc (dI _ mV),(by unfold Hid;rw[al.out,ak.out,HS.out,<-bu.out,iL];omega),(show Bx (wz.drewN _) _ _ _ from l).far _ _ (by omega),by rw[<-eK G];exact(show Bx (wz.drewN _) _ (U ((G++R)++x :: (Z.drop (q+1)++4294967295 :: List.replicate z 0))) _ from e).next aj.out (pW (a:=(s:Int)%4294967296) (b:=s%aD) (by unfold aD;omega)),(show Bx (wz.drewN _) _ _ _ from o).far _ _ (by omega),(eN u _).setCell (p:=⟨A,q+k,none⟩) (show w.1.size<=A by omega) _⟩
       case measure=>omega
      |zero=>
       have af:q=i:=a1.out;subst af;have cj:¬(q:Int)<(q:Int):=by omega
       have Y:T=[]:=by rw[<-au.out,<-N.out];exact azY
       subst Y;rw[iM] at e;have aj:Hid ((G++R).length=k+q):=by unfold Hid;rw[bE,ac.out,ae.out]
       have aw:=a0.out;rw[iN (by rw[N.out];exact aE),iN (by rw[ag.out];exact aE),bf.out] at aw;have hR:nv R<aD^q:=by have:=nO a4;rwa [ae.out] at this
       have hr:=B.out.r_;have hV:=bi.out;obtain⟨b2,bp⟩:c=1∧nv R=rt:=by
        rcases(show c=0∨c=1 by omega) with rfl|rfl
        ·rw[azP] at aw;omega
        ·rw[az9] at aw;omega
       subst b2;have F:=aB (ar.out R ae.out bp);have gx:=e.mid aj.out;have fx:=fun j=>e.free j;have bm:=o.last;have bk:=fun j=>o.free j;have hq:C-1=qt:=by have:=HQ.out;omega
       have af:((C:Int)-1)=(qt:Int):=by omega
       clear aw hR hr hV bp a0 au ar bf;go_wp2_with fail;refine Handed.intro k (aqC k) (hJ _ _ _ ⟨_,rfl,rfl,⟨G++R,qt :: rs,(k:Int)-1,z+1,by unfold Hid;omega,rfl,by omega,by omega,by unfold Hid;rw[bE,ac.out,ae.out];omega,by have:=HZ.out;unfold Hid;omega,a5.app a4,?_,F.out.1,F.out.2,(l.far _ _ (show A≠L by omega)).far _ _ (show I≠L by omega),?_,(o.far _ _ (by omega)).prev rfl,by unfold Hid;rw[eG,bh.out],(u.setCell (p:=⟨A,k+q,none⟩) (show w.1.size<=A by omega) _).setCell (p:=⟨I,k,none⟩) (show w.1.size<=I by omega) _⟩,rfl,rfl,rfl,rfl,rfl⟩)
       ·intro d O;rcases List.mem_cons.1 O with rfl|O
        ·exact bq
        ·exact dR d O
       ·rw[aqV,<-List.singleton_append,<-eK];exact(e.next (y:=0) aj.out rfl).far _ _ (by omega)
def yZ(w:World)(a b:Nat)(e:Ending)(w':World):Prop:=∃v u,e= .returned (.tuple #[v,u])∧Mg w' v (a/b)∧Mg w' u (a%b)∧Below w.1.size w w'
def EM(a b:Nat)(va vb:Value)(w:World)(ha:Mg w va a)(ay:Mg w vb b)(la:nl a<=1099511627776)(lb:nl b<=1099511627776)(h0:0<b):
  Calls prog 119 #[va,vb] w (yZ w a b):=by
 have ad:=EV a b va vb w ha ay la lb;by_cases ae:a<b
 ·rw[jL (by omega)] at ad;obtain⟨X,hX,tX,E⟩:=ha;have lX:=lJ tX E;have dX:=hX.dg;obtain⟨A,c,rfl,hc⟩:=hX.form;obtain⟨Y,R,tY,v⟩:=ay;obtain⟨B,d,rfl,hd⟩:=R.form;have HQ:Hid (a/b=0∧a%b=a):=⟨azT ae,jJ ae⟩;clear R tY v ae;go_enter func119,ntmps119;go_wp2_with fail;refine ad.mono ?_;rintro e1 u ⟨rfl,g⟩;have G:Below u.1.size u (u.alloc (.cells #[] 153)):=(aG _ _).alloc aE _;have b9:=((hX.be g).be G).src;have b7:=AT u 153 1;have bz:=aC g G;go_wp2_with (at_builtin;refine gM rfl rfl 153 _ 1 4 underlying104 oX rfl (by decide) u.1.size (.slice (some ⟨u.1.size,0,none⟩) 0 0) 0 [] rfl b7 (U X) rfl (by rw[MZ,az9]) b9 (N4 _) (by omega) (by omega) (by simp) ?_;intro v2 I bm b0 ci);rw[iM] at bm;have hm:=Ds.row bm (bA _).symm dX;go_ret2;exact⟨_,_,rfl,by rw[HQ.out.1];exact Mg.zero _ _ _,by rw[HQ.out.2];exact⟨X,hm,tX,E⟩,bz.grown b0 (by have:=g.size;simp;omega) (by simp[Value.ownBlock];exact g.size)⟩
 ·obtain⟨c0,cj,HC⟩:∃c0,¬c0<0∧bZ a b=c0:=⟨_,by rcases kJ (a:Int) b with ⟨h,_⟩|⟨_,e⟩|⟨_,e⟩<;>omega,rfl⟩;rw[HC] at ad;clear HC;obtain⟨Y,R,tY,v⟩:=id ay;have lY:=lJ tY v;obtain⟨B,d,rfl,hd⟩:=R.form;by_cases o:Y.length=1
  ·have q1:((Y.length:Int)==1)=true:=by rw[o];rfl
   obtain⟨y,rfl⟩:∃y,Y=[y]:=List.length_eq_one_iff.1 o;have cc:y=b:=by rw[<-v];simp[nv]
   subst cc;have ac:y<aD:=R.dg y (List.mem_singleton.2 rfl);unfold aD at ac;obtain⟨A,_,_,rfl⟩:=ha.form;simp only[iJ] at ad;clear ae o v tY;obtain⟨gy,rfl,az,ag⟩:=R.at_ (i:=0) (d:=y) rfl;have ai:=fun (W:World) (D:Below w.1.size w W)=>(D.cell (p:=⟨gy,0,none⟩) az).trans ag;go_enter func119,ntmps119;go_wp2_with fail;refine ad.mono ?_;rintro e1 u ⟨rfl,g⟩;have av:=ai u g;clear ag ai;go_wp2_with fail;refine(EP a y _ u (ha.be g) la h0 ac).mono ?_;rintro e2 I ⟨v2,rfl,a1, -,ah⟩;have hr:a%y<aD:=by have:=dI a h0;unfold aD;omega
   have G:Below I.1.size I (I.alloc (.cells #[.int .u32 ((a%y:Nat):Int)] 153)):=(aG _ _).alloc aE _;have hB:Bx (I.alloc (.cells #[.int .u32 ((a%y:Nat):Int)] 153)) I.1.size (U [a%y]) 153:=Bx.new _ _ _;replace a1:=a1.be G;have D:=(aC g ah).trans (G.mono (aC g ah).size);have O:=oW [a%y] I.1.size (a%y) 1 _ hB (fun z hz=>by rw[List.mem_singleton.1 hz];exact hr) (by simp[nv]) aE (by simp);simp only[iJ] at O;clear hr;generalize hr:a%y=r at *;generalize hq:a/y=q at *;have HR:=aB (And.intro hq hr);clear hr hq;go_wp2_with fail;refine O.mono ?_;rintro e3 w3 ⟨v3,rfl,b5,rfl⟩;go_wp2;go_ret2;exact⟨_,_,rfl,by rw[HR.out.1];exact a1,by rw[HR.out.2];exact b5,D⟩
  ·have q1:((Y.length:Int)==1)=false:=by simp;omega
   obtain⟨X,hX,tX,E⟩:=ha;have lX:=lJ tX E;have dY:=R.dg;obtain⟨A,c,rfl,hc⟩:=hX.form;obtain⟨p,n,hp,hn,HN⟩:∃p n,Y.length=p+1+1∧2<=n∧Hid (n=p+1+1):=by
    have:Y.length≠0:=fun e=>by
     rw[bX e] at v;have:nv []=0:=rfl;omega
    exact⟨Y.length-2,Y.length,by omega,by omega,(show Y.length=_ by omega)⟩
   have ch:Y.length<=X.length:=by
    rcases dE X.length Y.length with h|h
    ·have:=vI hX.dg tY h;omega
    ·exact h
   obtain⟨y,ak⟩:∃y,Y[p+1]? =some y:=⟨_,aR (by omega)⟩;have cb:y≠0:=tY y (by rw[byO,hp];exact ak);have ac:=dY.get ak;obtain⟨S,cd,s1,s2⟩:=NP cb ac;have HY:=aB (fun Z (dZ:Dg Z) (H:Z.length=p+1+2) (hv:nv Z=2^S*nv Y)=>NL dY dZ hp H (F3 ak) s1 s2 cd hv);obtain⟨gy,rfl,az,ag⟩:=R.at_ ak;have ai:=fun (W:World) (D:Below w.1.size w W)=>(D.cell (p:=⟨gy,p+1,none⟩) az).trans ag;have HS:=aB (And.intro s1 s2);have HP:=aB hp;have ar:=aB (And.intro E v);have ce:=aB ae;unfold aD at ac;have cq:p+1<Y.length:=by omega
   clear ak ag s1 s2 hp E v ae o;go_enter func119,ntmps119;go_wp2_with fail;refine ad.mono ?_;rintro e1 u ⟨rfl,g⟩;have av:=ai u g;clear ai;go_wp2_with fail;go_loopg [8] S (fun k t wr=>∃s,Hid (s+k=S)∧t= .int .u64 (s:Int)∧u=wr)
   case atStart=>exact⟨0,by unfold Hid;omega,rfl,rfl⟩
   case round=>
    obtain⟨s,HJ,rfl,rfl⟩:=hrel;have aj:s<32:=by have:=HJ.out;omega
    have b4:y*2^s<=y*2^S:=eV _ (cO (by decide) (by have:=HJ.out;omega));have hw:IntKind.u32.wrap ((y:Int)*2^s)=((y*2^s:Nat):Int):=by
     have:=HS.out.2;rw[show((y:Int)*2^s)=((y*2^s:Nat):Int) by rw[az8,bx9];rfl];exact IntWalk.u32_in _ (by omega)
    have b3:((Y.length:Int)-1)=((p+1:Nat):Int):=by have:=HP.out;omega
    cases gk with
    |zero=>
     have b8:s=S:=HJ.out;subst b8;have q2:¬((y*2^s:Nat):Int)<2147483648:=by have:=HS.out.1;omega
     generalize y*2^s=yy at *;clear b4;go_wp2_with fail;refine(EQ Y _ s u (R.be g) (by omega) aj).mono ?_;rintro e2 I ⟨rfl,Z,H,ax,dZ,bj,ah⟩;obtain⟨vs,bh,bi,ao,dV,bg,a3,bf⟩:=HY.out Z dZ (by rw[ax,HP.out]) bj;have O:=zA Z _ (Y.length+1) I (Ds.own (es:=[]) (by rw[fH];exact H) dZ _ (by omega)) (by omega);rw[ax,bi,ao,<-HN.out] at O;rw[bh] at H;have aq:=aB bg;have b1:=g.size;have ct:=H.lt;replace g:=aC g ah;clear ax dZ bj bh bi bg HY av;go_wp2_with fail;refine O.mono ?_;rintro e3 w3 ⟨rfl,rfl⟩;go_wp2_with fail;refine(EQ X _ s I (hX.be g) (by omega) aj).mono ?_;rintro e4 w4 ⟨rfl,As,G,bb,dA,aw,am⟩;replace H:=H.be am;have ck:=am.size;have cs:=G.lt;replace g:=aC g am;obtain⟨M,hM⟩:∃M,X.length=M+Y.length:=⟨X.length-Y.length,by omega⟩;have cg:((X.length:Int)+1)-(n:Int)=(M:Int)+1:=by have:=HP.out;have:=HN.out;omega
     have HM:=aB hM;have bx:M<=X.length:=by omega
     clear hM;clear O;go_wp2_with (at_make;refine jT rfl rfl 153 _ 1 4 underlying104 oX rfl (by decide) (M+1) rfl rfl rfl rfl (by omega) (by omega) ?_;intro w5 cv bn an);have Q:=Bx.zeros bn;replace G:=G.be an;replace H:=H.be an;replace g:=aC g an;have af:=NM (M:=M) hX.dg ao (by rw[HM.out,HP.out]) a3 aj;rw[<-aw] at af;have bv:=aB af;have bt:=aB aw;have bc:As.length=n+(M+1):=by rw[bb,HM.out,HP.out,HN.out];omega
     have bs:=aB bc;have HV:Hid (Dvs vs n p):=⟨HN.out,by rw[ao,HN.out],dV,a3,by rw[HN.out];exact bf⟩;have a9:Hid (X.length+1=n+(M+1)):=by unfold Hid;rw[HM.out,HP.out,HN.out];omega
     have b6:n<=Y.length+1:=by have:=HP.out;have:=HN.out;omega
     have cr:Hid (2^s*nv Y=nv vs):=aq.out.symm;clear bn an am ah af aw bb bc ao a3 bf ad b3;generalize u.1.size=gv at *;generalize I.1.size=C at *;generalize w4.1.size=gq at *;go_wp2_with fail;refine wp_loop_ghost_k (DvI w (.int .u64 (s:Int)) gv C gq n M vs As X.length Y.length) (M+1) ⟨_,rfl,rfl,⟨As,[],(M:Int),0,by unfold Hid;omega,rfl,by omega,by omega,bs.out,by unfold Hid;omega,dA,(fun d hd=>by cases hd),bv.out,by unfold Hid;rw[rB,azP,gQ],H,by rw[aq8,fH];exact G,by rw[fH];exact Q,rfl,g⟩,rfl,rfl,rfl,rfl,rfl⟩ ?_;intro gk a' wr hI JJ K hJ hK;clear H G Q g dA;cases gk with
     |succ k=>exact MV HV b1 (by omega) (by omega) a9 (by omega) hn b6 bx k hI JJ K _ hJ hK
     |zero=>
      clear hJ hK;obtain⟨f,J,⟨us,rs,j,z,a5,rfl,cn,co,a7,HZ,dU,dR,a6,a4,VX,N,QX,ap,D⟩,rfl⟩:=hI.open_;unfold vG vF;have cm:¬0<=j:=by have:=a5.out;omega
      have hz:z=M+1:=HZ.out;subst hz;have bo:us.length=n:=a7.out
      obtain⟨hq,hr⟩:nv rs=a/b∧nv us=2^s*(a%b):=NT h0 (by
       have o:=a4.out;rw[bx0,az9,aq.out,bt.out,ar.out.1,ar.out.2] at o;exact o) (by
       have o:=a6.out;rw[bx0,az9,aq.out,ar.out.2] at o;exact o)
      have cp:n<=X.length+1:=by have:=a9.out;omega
      have O:=zA us _ (X.length+1) wr (Ds.own N dU _ (by omega)) (by omega);rw[bo] at O;obtain⟨tl,bp, -, -⟩:=pZ aV us;have ba:=dU.trim;have a2:=EZ us;rw[hr] at a2;have bw:=oY aV us;rw[bo] at bw;generalize aW aV us=m at *;rw[bp,eK] at N;generalize tl++List.replicate (M+1) 0=bq at *;have HQ:=aB hq;have bu:=aB a2;clear hq hr bp a2 a4 a6 a7 a5 HZ dU;go_wp2_with fail;refine O.mono ?_;rintro e6 w6 ⟨rfl,rfl⟩;clear O;go_wp2_with fail
      go_loopg [26] m.length (fun k t wy=>∃(P T:List Nat) (i:Nat),Hid (i+k=m.length)∧t= .int .i64 (i:Int)∧Hid (P.length=i)∧Hid (m.drop i=T)∧Dg P∧Hid (2^s*nv P+cB m 0%2^s=nv (m.take i)+aD^i*(cB m i%2^s))∧
       Bx wy C (U (P++(T++bq))) 153∧Bx wy gq (U (List.replicate 0 0++rs)) 153∧Below w.1.size w wy)
      case atStart=>exact⟨[],m,0,by unfold Hid;omega,rfl,rfl,rfl,(fun d hd=>by cases hd),by unfold Hid;rw[byQ,rB,azP,bx0,aqD],N,QX,D⟩
      case round=>
       clear N VX QX D;obtain⟨P,T,i,HI,rfl,F,HT,dP,a8,N,QX,D⟩:=hrel;generalize wr=wy at *;have cl:(0:Int)<=(i:Int):=by omega
       cases gk with
       |zero=>
        have hi:i=m.length:=HI.out;subst hi;have a0:¬(m.length:Int)<(m.length:Int):=by omega
        have hT:T=[]:=by rw[<-HT.out];exact azY
        subst hT;rw[iM] at N;rw[aq8,iM] at QX
        have hv:nv P=a%b:=NS (r:=cB m 0) (by
         have o:=a8.out;rw[iN aE,rA aE,Nat.zero_mod,azP,gQ] at o;exact o) bu.out
        have t1:=oW rs gq (a/b) (M+1) wy QX dR HQ.out (by rw[ap.out];exact aE) (by rw[ap.out];omega);have t2:=ET P bq C (a%b) (X.length+1) wy N dP hv (by rw[F.out];omega) (by rw[F.out];omega);rw[ap.out] at t1;rw[F.out] at t2;go_wp2_with fail;refine t1.mono ?_;rintro e7 w7 ⟨v7,rfl,m7,rfl⟩;go_wp2_with fail;refine t2.mono ?_;rintro e8 w8 ⟨v8,rfl,m8,rfl⟩;go_wp2;go_ret2;exact⟨_,_,rfl,m7,m8,D⟩
       |succ k=>
        have a0:i<m.length:=by have:=HI.out;omega
        obtain⟨x,E⟩:∃x,m[i]? =some x:=⟨_,aR a0⟩;have br:=ba.get E;have hT:T=x :: m.drop (i+1):=by rw[<-HT.out];exact(j5 a0).trans (by rw[(List.getElem?_eq_some_iff.1 E).2])
        subst hT;have ca:2^s*nv P+cB m 0%2^s=nv (m.take i)+aD^i*(x%2^s):=by have:=a8.out;rw[F3 E] at this;exact this
        have af:=fun y=>aB (NR (y:=y) aj F.out ca);have HX:=aB (iR m i);rw[F3 E] at HX;clear E HT;have gx:=N.mid F.out;have fx:=fun j=>N.free j;have U1:=N.next (y:=x/2^s) F.out rfl;have y1:(x:Int)/2^s=((x/2^s:Nat):Int):=by rw[azR,bx9];rfl
        have cu:x/2^s<=x:=azK _ _;unfold aD at br;by_cases bk:i+1<m.length
        ·obtain⟨y,v⟩:∃y,m[i+1]? =some y:=⟨_,aR bk⟩;have ac:=ba.get v;have hT:m.drop (i+1)=y :: m.drop (i+2):=(j5 bk).trans (by rw[(List.getElem?_eq_some_iff.1 v).2]);have HT:=aB hT;rw[hT] at U1;have gz:=U1.cell i (SL (by rw[eK];exact zH F.out));have av:=U1.mid (jR F.out);have fz:=fun j=>U1.free j;unfold aD at ac;have au:cB m (i+1)=y:=F3 v;have b2:(i:Int)+1<(m.length:Int):=by omega
         replace au:=aB au;obtain⟨V,L,k1,k2,k3,k4,k5,k6⟩:=MX aj br ac;have al:=af y;rw[<-k5] at al;have k7:=IntWalk.i64_in ((i:Int)+1) (by omega);have k8:(0:Int)<=(i:Int)+1:=by omega
         have k9:((i:Int)+1).toNat=i+1:=by omega
         have U2:=U1;rw[eK] at U2;have U3:=U2.next (y:=x/2^s+L) F.out rfl;clear v hT k5;generalize x/2^s=xq at *;go_wp2_with fail;go_region
         all_goals (
          go_wp2;go_roundg k
          case rel=>exact⟨P++[xq+L],m.drop (i+1),i+1,by have:=HI.out;unfold Hid;omega,by go_num,jR F.out,rfl,dP.snoc (by unfold aD;omega),(by
           unfold Hid;rw[HX.out,au.out];exact al.out),(by rw[HT.out];exact U3),(QX.far _ _ (show C≠gq by omega)).far _ _ (show C≠gq by omega),((D.setCell (p:=⟨C,i,none⟩) (show w.1.size<=C by omega) _).setCell (p:=⟨C,i,none⟩) (show w.1.size<=C by omega) _).drew⟩
          case measure=>omega)
        ·have b2:¬(i:Int)+1<(m.length:Int):=by omega
         have al:=af 0;generalize x/2^s=xq at *;go_wp2;go_roundg k
         case rel=>exact⟨P++[xq],m.drop (i+1),i+1,by have:=HI.out;unfold Hid;omega,by go_num,jR F.out,rfl,dP.snoc (by unfold aD;omega),by
          unfold Hid;rw[HX.out,rA (l:=m) (i:=i+1) (by omega)];have:=al.out;rw[Nat.zero_mod,azP,gQ,azP,gQ] at this;rw[Nat.zero_mod,azP,gQ];exact this,U1,QX.far _ _ (show C≠gq by omega),D.setCell (p:=⟨C,i,none⟩) (show w.1.size<=C by omega) _⟩
         case measure=>omega
    |succ k=>
     have q2:((y*2^s:Nat):Int)<2147483648:=by
      have o:=HS.out.2;have h2:y*2^(s+1)<=y*2^S:=eV _ (cO (by decide) (by have:=HJ.out;omega));rw[dH] at h2;have h3:y*(2^s*2)=y*2^s*2:=by rw[iW]
      omega
     generalize y*2^s=yy at *;go_wp2;go_roundg k
     case rel=>exact⟨s+1,by have:=HJ.out;unfold Hid;omega,by go_num,rfl⟩
     case measure=>omega
def NI(w:World)(v:Value)(n:Int):Prop:=∃u,v= .agg #[.bool (decide (n<0)),u]∧Mg w u n.natAbs
def nN(w:World)(n:Int)(e:Ending)(w':World):Prop:=∃v,e= .returned v∧NI w' v n∧Below w.1.size w w'
section
variable {w w':World}{v u:Value}{n:Int}{s:Bool}
def NI.be(h:NI w v n)(a:Below w.1.size w w'):NI w' v n:=by
 obtain⟨u,e,h⟩:=h;exact⟨u,e,h.be a⟩
def NI.ke(h:NI w v n)(a:KM w w'):NI w' v n:=by
 obtain⟨u,e,h⟩:=h;exact⟨u,e,h.ke a⟩
def NI.drew(h:NI w v n):NI w.drew v n:=h.be (aG _ _).drew
def NI.form(h:NI w v n):∃s A k c,v= .agg #[.bool s,.slice A k c]:=by
 obtain⟨u,rfl,h⟩:=h;obtain⟨A,k,c,rfl⟩:=h.form;exact⟨_,A,k,c,rfl⟩
def NI.words(h:NI w (.agg #[.bool s,u]) n):Mg w u n.natAbs:=by
 obtain⟨u,e,h⟩:=h;simp at e;rw[e.2];exact h
def NI.neg(h:NI w (.agg #[.bool s,u]) n):s=decide (n<0):=by
 obtain⟨u,e,h⟩:=h;simp at e;exact e.1
def NI.zero(w:World):NI w (.agg #[.bool false,.slice none 0 0]) 0:=⟨_,rfl,Mg.zero _ _ _⟩
def Mg.len{m:Nat}(h:Mg w (.slice A k c) m):(k=0↔m=0)∧k<=2*nl m:=by
 obtain⟨i,d,b,a⟩:=h;obtain⟨f,g,e,_⟩:=d.form;simp only[Value.slice.injEq] at e;obtain⟨_,rfl,_⟩:=e;refine⟨⟨fun h=> ?_,fun h=> ?_⟩,lJ b a⟩
 ·rw[bX h] at a;exact a.symm
 ·rw[NX b (a.trans h)];rfl
end
def pU(s:Bool)(u:Value)(m:Nat)(n:Int)(w:World)(g:Mg w u m)(q:nl m<=1099511627776)(hn:n.natAbs=m)(f:(s=true∧m≠0)↔n<0):
  Calls prog 117 #[.bool s,u] w (nN w n):=by
 obtain⟨A,k,c,rfl⟩:=g.form;obtain⟨o,p⟩:=g.len;have a:Below w.1.size w (w.alloc (.cells #[.bool (decide (n<0)),.slice A k c] 106)):=(aG _ _).alloc aE _;have h:=aB hn;clear hn;by_cases d:s=true∧m≠0
 ·have b:decide (n<0)=true:=by simpa using f.1 d
  have e:NI (w.alloc (.cells #[.bool (decide (n<0)),.slice A k c] 106)) (.agg #[.bool (decide (n<0)),.slice A k c]) n:=⟨_,rfl,by rw[h.out];exact g.be a⟩;rw[b] at e a;obtain⟨rfl,l⟩:=d;have j:decide (0<k)=true:=by simp;omega
  clear f b;go_enter func117,ntmps117;go_wp2_with fail;exact aM (v:= .agg #[.bool true,.slice A k c]) (by simp[results,results117,go_sem]) rfl ⟨_,rfl,e,a⟩
 ·have b:decide (n<0)=false:=by rw[jA,<-f];exact d
  have e:NI (w.alloc (.cells #[.bool (decide (n<0)),.slice A k c] 106)) (.agg #[.bool (decide (n<0)),.slice A k c]) n:=⟨_,rfl,by rw[h.out];exact g.be a⟩;rw[b] at e a;have i:s=false∨s=true∧decide (0<k)=false:=by
   cases s with
   |false=>exact .inl rfl
   |true=>exact .inr ⟨rfl,by have:m=0:=by simpa using d
                             simp;omega⟩
  clear f b d;rcases i with rfl|⟨rfl,j⟩
  all_goals (
   go_enter func117,ntmps117;go_wp2_with fail;exact aM (v:= .agg #[.bool false,.slice A k c]) (by simp[results,results117,go_sem]) rfl ⟨_,rfl,e,a⟩)
def EJ(n:Nat)(w:World)(hn:n<=1000000):
  Calls prog 73 #[.int .i64 (n:Int)] w (nN w n):=by
 have D:¬((n:Int)<0):=by omega
 have E:(n:Int)/4294967296=0:=by omega
 have F:(n:Int)%4294967296=n:=by omega
 obtain⟨W,h,a,R⟩:=bI w [.bool false,.slice none 0 0] 106;have c:=R.g2;go_enter func73,ntmps73;go_wp2_with fail;(try rw[h]);clear h;obtain⟨x,g,j,B⟩:=bI W [.int .u32 (n:Int),.int .u32 0] 153;rw[g];clear g;have l:=oW [n,0] W.1.size n 2 x B (fun d q=>by simp at q;unfold aD;omega) (by simp[nv]) aE (by simp);simp only[eG,azS] at l;refine l.mono ?_;rintro z H ⟨v,rfl,t,rfl⟩;replace R:=R.be j;replace c:=R.g2;replace a:=aC a j;go_wp2_with fail;refine(pU false v n n _ t (aH (cJ (m:=1) (by unfold BN;omega)) (by decide)) rfl (by simp)).mono ?_;rintro A I ⟨G,rfl,b,k⟩;obtain⟨p,e,o,f,rfl⟩:=b.form;replace R:=R.be k;replace c:=R.g2;replace a:=aC a k;go_wp2_with fail;obtain⟨y,i,R,a,r,C⟩:=R.mut2 a (by omega) (.bool p) (.slice e o f) rfl rfl;replace b:=b.ke r;rw[i];clear i;replace c:=R.k2;exact aM (v:= .agg #[.bool p,.slice e o f]) (by simp[results,results73,go_sem,R.k2]) rfl ⟨_,rfl,b,a⟩
def EK(n:Int)(v:Value)(w:World)(hv:NI w v n)(i:nl n.natAbs<=1099511627776):
  Calls prog 134 #[v] w (eO w n.sign):=by
 obtain⟨s,A,k,c,rfl⟩:=hv.form;have a:=hv.neg;obtain⟨d,j⟩:=hv.words.len;have f:Below w.1.size w (w.alloc (.cells #[.bool s,.slice A k c] 106)):=(aG _ _).alloc aE _;rcases aqL n 0 with h|h|h
 ·have b:s=true:=by rw[a];simpa using h
  subst b;have e:Hid (n.sign= -1):=aqT h;clear a h d;go_enter func134,ntmps134;go_wp2;go_ret;exact⟨by rw[e.out];rfl,f⟩
 ·subst h;have b:s=false:=by rw[a];rfl
  subst b;have g:k=0:=d.2 rfl;subst g;clear a d;go_enter func134,ntmps134;go_wp2;go_ret;exact⟨rfl,f⟩
 ·have b:s=false:=by rw[a];simp;omega
  subst b;have g:((k:Int)==0)=false:=by simp;omega
  have e:Hid (n.sign=1):=aqI h;clear a h d;go_enter func134,ntmps134;go_wp2;go_ret;exact⟨by rw[e.out];rfl,f⟩
def yY(n:Int)(v:Value)(w:World)(hv:NI w v n)(q:nl n.natAbs<=1099511627776):
  Calls prog 131 #[v] w (nN w (-n)):=by
 obtain⟨s,A,k,c,rfl⟩:=hv.form;have r:=fun W h=>pU (!s) (.slice A k c) n.natAbs (-n) W h q (by omega) (by rw[hv.neg];simp;omega);obtain⟨W,i,a,B,R⟩:=eL w [.bool s,.slice A k c] 106 [.bool false,.slice none 0 0] 106;have g:=aa B.g2 R.g2;go_enter func131,ntmps131;go_wp2_with fail;(try rw[i]);clear i;refine(r _ (hv.be a).words).mono ?_;rintro x z ⟨y,rfl,b,d⟩;obtain⟨m,e,l,f,rfl⟩:=b.form;replace B:=B.be d;replace R:=R.be d;replace g:=aa B.k2 R.g2;replace a:=aC a d;go_wp2_with fail;obtain⟨t,j,R,a,p,o⟩:=R.mut2 a (by omega) (.bool m) (.slice e l f) rfl rfl;replace B:=o B;replace b:=b.ke p;rw[j];clear j;replace g:=aa B.k2 R.k2;exact aM (v:= .agg #[.bool m,.slice e l f]) (by simp[results,results131,go_sem,R.k2]) rfl ⟨_,rfl,b,a⟩
def EL(x y:Int)(vx vy:Value)(w:World)(f:NI w vx x)(g:NI w vy y)(lx:nl x.natAbs<=549755813888)(ly:nl y.natAbs<=549755813888):
  Calls prog 167 #[vx,vy] w (nN w (x+y)):=by
 obtain⟨s,A,k,c,rfl⟩:=f.form;obtain⟨t,C,l,d,rfl⟩:=g.form;have J:=f.neg;have N:=g.neg;have Z:nl (x+y).natAbs<=1099511627776:=by
  have p:nl (x+y).natAbs<=nl (x.natAbs+y.natAbs):=cK (by omega);have:=rK x.natAbs y.natAbs;omega
 have O:=fun W u v p r=>EV x.natAbs y.natAbs u v W p r (by omega) (by omega);by_cases z:s=t
 ·have B:(x+y).natAbs=x.natAbs+y.natAbs:=by rw[J,N] at z;by_cases p:x<0<;>by_cases r:y<0<;>simp[p,r] at z<;>omega
  have K:(s=true∧x.natAbs+y.natAbs≠0)↔x+y<0:=by rw[J,N] at z;rw[J];by_cases p:x<0<;>by_cases r:y<0<;>simp[p,r] at z⊢<;>omega
  have P:=fun W u h=>pU s u (x.natAbs+y.natAbs) (x+y) W h (by rw[<-B];exact Z) B K;clear J N B K O;subst z;obtain⟨W,G,a,X,Y,R⟩:=gE w [.bool s,.slice A k c] 106 [.bool s,.slice C l d] 106 [.bool false,.slice none 0 0] 106;have o:=aa X.g2 (aa Y.g2 R.g2);go_enter func167,ntmps167;go_wp2_with fail;(try rw[G]);clear G;replace f:=f.be a;replace g:=g.be a;replace f:=f.drew;replace g:=g.drew;replace X:=X.drew;replace Y:=Y.drew;replace R:=R.drew;replace a:=a.drew;replace o:=aa X.k2 (aa Y.k2 R.g2);have Q:w.1.size+1+1≠w.1.size:=by omega
  have S:w.1.size+1+1≠w.1.size+1:=by omega
  go_region_held3 (fun w'=>C2 w' w.1.size (.bool s) (.slice A k c)∧C2 w' (w.1.size+1) (.bool s) (.slice C l d))
   (first|(with_reducible exact⟨X.k2,Y.k2⟩)|(refine⟨?_,?_⟩<;>(repeat (first|with_reducible exact X.k2|with_reducible exact Y.k2|with_reducible refine fQ Q ?_|with_reducible refine fQ S ?_))))
   (first
    |(go_at_call 189;refine(EU _ _ _ _ _ f.words g.words (by omega) (by omega)).mono ?_;rintro e4 w4 ⟨v4,rfl,q,j⟩;obtain⟨A4,k4,c4,rfl⟩:=q.form;replace X:=X.be j;replace Y:=Y.be j;replace R:=R.be j;replace o:=aa X.k2 (aa Y.k2 R.g2);replace b:=KM.be j;replace f:=f.ke b;replace g:=g.ke b;(try replace i:=i.ke b);replace a:=aC a j)
    |(go_at_call 117;refine(P _ _ q).mono ?_;rintro e5 w5 ⟨v5,rfl,i,m⟩;obtain⟨M,E,L,F,rfl⟩:=i.form;replace X:=X.be m;replace Y:=Y.be m;replace R:=R.be m;replace o:=aa X.k2 (aa Y.k2 R.g2);replace b:=KM.be m;replace f:=f.ke b;replace g:=g.ke b;(try replace q:=q.ke b);replace a:=aC a m))
  go_wp2_with fail;obtain⟨W6,H,R,a,b,I⟩:=R.mut2 a (by omega) (.bool M) (.slice E L F) rfl rfl;replace X:=I X;replace Y:=I Y;replace i:=i.ke b;rw[H];clear H;replace o:=aa X.k2 (aa Y.k2 R.k2);exact aM (v:= .agg #[.bool M,.slice E L F]) (by simp[results,results167,go_sem,R.k2]) rfl ⟨_,rfl,i,a⟩
 ·have q0:(s==t)=false:=by simpa using z
  rw[J,N] at z;rcases dE x.natAbs y.natAbs with U|U
  ·have B:(x+y).natAbs=y.natAbs-x.natAbs:=by by_cases p:x<0<;>by_cases r:y<0<;>simp[p,r] at z<;>omega
   have K:(t=true∧y.natAbs-x.natAbs≠0)↔x+y<0:=by rw[N];by_cases p:x<0<;>by_cases r:y<0<;>simp[p,r] at z⊢<;>omega
   have P:=fun W u h=>pU t u (y.natAbs-x.natAbs) (x+y) W h (by rw[<-B];exact Z) B K;have V:x.natAbs<=y.natAbs:=by omega
   rw[jL (by omega)] at O;clear J N B K z U;obtain⟨W,G,a,X,Y,R⟩:=gE w [.bool s,.slice A k c] 106 [.bool t,.slice C l d] 106 [.bool false,.slice none 0 0] 106;have o:=aa X.g2 (aa Y.g2 R.g2);go_enter func167,ntmps167;go_wp2_with fail;(try rw[G]);clear G;replace f:=f.be a;replace g:=g.be a;refine(O _ _ _ f.words g.words).mono ?_;rintro e1 w1 ⟨rfl,D⟩;replace X:=X.be D;replace Y:=Y.be D;replace R:=R.be D;replace o:=aa X.k2 (aa Y.k2 R.g2);replace b:=KM.be D;replace f:=f.ke b;replace g:=g.ke b;replace a:=aC a D;go_wp2_with fail;replace f:=f.drew;replace g:=g.drew;replace X:=X.drew;replace Y:=Y.drew;replace R:=R.drew;replace a:=a.drew;replace o:=aa X.k2 (aa Y.k2 R.g2);have Q:w.1.size+1+1≠w.1.size:=by omega
   have S:w.1.size+1+1≠w.1.size+1:=by omega
   go_region_held3 (fun w'=>C2 w' w.1.size (.bool s) (.slice A k c)∧C2 w' (w.1.size+1) (.bool t) (.slice C l d))
    (first|(with_reducible exact⟨X.k2,Y.k2⟩)|(refine⟨?_,?_⟩<;>(repeat (first|with_reducible exact X.k2|with_reducible exact Y.k2|with_reducible refine fQ Q ?_|with_reducible refine fQ S ?_))))
    (first
     |(go_at_call 190;refine(EW _ _ _ _ _ g.words f.words (by omega) (by omega) V).mono ?_;rintro e4 w4 ⟨v4,rfl,q,j⟩;obtain⟨A4,k4,c4,rfl⟩:=q.form;replace X:=X.be j;replace Y:=Y.be j;replace R:=R.be j;replace o:=aa X.k2 (aa Y.k2 R.g2);replace b:=KM.be j;replace f:=f.ke b;replace g:=g.ke b;(try replace i:=i.ke b);replace a:=aC a j)
     |(go_at_call 117;refine(P _ _ q).mono ?_;rintro e5 w5 ⟨v5,rfl,i,m⟩;obtain⟨M,E,L,F,rfl⟩:=i.form;replace X:=X.be m;replace Y:=Y.be m;replace R:=R.be m;replace o:=aa X.k2 (aa Y.k2 R.g2);replace b:=KM.be m;replace f:=f.ke b;replace g:=g.ke b;(try replace q:=q.ke b);replace a:=aC a m))
   go_wp2_with fail;obtain⟨W6,H,R,a,b,I⟩:=R.mut2 a (by omega) (.bool M) (.slice E L F) rfl rfl;replace X:=I X;replace Y:=I Y;replace i:=i.ke b;rw[H];clear H;replace o:=aa X.k2 (aa Y.k2 R.k2);exact aM (v:= .agg #[.bool M,.slice E L F]) (by simp[results,results167,go_sem,R.k2]) rfl ⟨_,rfl,i,a⟩
  ·have B:(x+y).natAbs=x.natAbs-y.natAbs:=by by_cases p:x<0<;>by_cases r:y<0<;>simp[p,r] at z<;>omega
   have K:(s=true∧x.natAbs-y.natAbs≠0)↔x+y<0:=by rw[J];by_cases p:x<0<;>by_cases r:y<0<;>simp[p,r] at z⊢<;>omega
   have P:=fun W u h=>pU s u (x.natAbs-y.natAbs) (x+y) W h (by rw[<-B];exact Z) B K;have V:y.natAbs<=x.natAbs:=by omega
   obtain⟨T,ac,ad⟩:∃T,bZ x.natAbs y.natAbs=T∧¬T<0:=⟨_,rfl,by rcases kJ (x.natAbs:Int) y.natAbs with ⟨h,_⟩|⟨_,e⟩|⟨_,e⟩<;>omega⟩;rw[ac] at O;clear J N B K z U ac;obtain⟨W,G,a,X,Y,R⟩:=gE w [.bool s,.slice A k c] 106 [.bool t,.slice C l d] 106 [.bool false,.slice none 0 0] 106;have o:=aa X.g2 (aa Y.g2 R.g2);go_enter func167,ntmps167;go_wp2_with fail;(try rw[G]);clear G;replace f:=f.be a;replace g:=g.be a;refine(O _ _ _ f.words g.words).mono ?_;rintro e1 w1 ⟨rfl,D⟩;replace X:=X.be D;replace Y:=Y.be D;replace R:=R.be D;replace o:=aa X.k2 (aa Y.k2 R.g2);replace b:=KM.be D;replace f:=f.ke b;replace g:=g.ke b;replace a:=aC a D;go_wp2_with fail;replace f:=f.drew;replace g:=g.drew;replace X:=X.drew;replace Y:=Y.drew;replace R:=R.drew;replace a:=a.drew;replace o:=aa X.k2 (aa Y.k2 R.g2);have Q:w.1.size+1+1≠w.1.size:=by omega
   have S:w.1.size+1+1≠w.1.size+1:=by omega
   go_region_held3 (fun w'=>C2 w' w.1.size (.bool s) (.slice A k c)∧C2 w' (w.1.size+1) (.bool t) (.slice C l d))
    (first|(with_reducible exact⟨X.k2,Y.k2⟩)|(refine⟨?_,?_⟩<;>(repeat (first|with_reducible exact X.k2|with_reducible exact Y.k2|with_reducible refine fQ Q ?_|with_reducible refine fQ S ?_))))
    (first
     |(go_at_call 190;refine(EW _ _ _ _ _ f.words g.words (by omega) (by omega) V).mono ?_;rintro e4 w4 ⟨v4,rfl,q,j⟩;obtain⟨A4,k4,c4,rfl⟩:=q.form;replace X:=X.be j;replace Y:=Y.be j;replace R:=R.be j;replace o:=aa X.k2 (aa Y.k2 R.g2);replace b:=KM.be j;replace f:=f.ke b;replace g:=g.ke b;(try replace i:=i.ke b);replace a:=aC a j)
     |(go_at_call 117;refine(P _ _ q).mono ?_;rintro e5 w5 ⟨v5,rfl,i,m⟩;obtain⟨M,E,L,F,rfl⟩:=i.form;replace X:=X.be m;replace Y:=Y.be m;replace R:=R.be m;replace o:=aa X.k2 (aa Y.k2 R.g2);replace b:=KM.be m;replace f:=f.ke b;replace g:=g.ke b;(try replace q:=q.ke b);replace a:=aC a m))
   go_wp2_with fail;obtain⟨W6,H,R,a,b,I⟩:=R.mut2 a (by omega) (.bool M) (.slice E L F) rfl rfl;replace X:=I X;replace Y:=I Y;replace i:=i.ke b;rw[H];clear H;replace o:=aa X.k2 (aa Y.k2 R.k2);exact aM (v:= .agg #[.bool M,.slice E L F]) (by simp[results,results167,go_sem,R.k2]) rfl ⟨_,rfl,i,a⟩
def r9(s:Bool)(u:Value)(m:Nat)(n:Int)(w:World)(a:Mg w u m)(b:nl m<=1099511627776)(hn:n=if s then -(m:Int) else m):
  Calls prog 117 #[.bool s,u] w (nN w n):=by
 exact pU s u m n w a b (by cases s<;>simp at hn<;>omega) (by cases s<;>simp at hn⊢<;>omega)
def oV(x y:Int)(D E:Value)(w:World)(b:NI w D x)(e:NI w E y)(Q:nl x.natAbs<=549755813888)(S:nl y.natAbs<=549755813888):
  Calls prog 77 #[D,E] w (nN w (x*y)):=by
 obtain⟨s,A,k,c,rfl⟩:=b.form;obtain⟨t,C,l,d,rfl⟩:=e.form;have n:=AC x y;rw[<-b.neg,<-e.neg] at n;have G:=aB n;have O:=fI x.natAbs y.natAbs;clear n;obtain⟨W,q,a,X,Y,R⟩:=gE w [.bool s,.slice A k c] 106 [.bool t,.slice C l d] 106 [.bool false,.slice none 0 0] 106;have j:=aa X.g2 (aa Y.g2 R.g2);go_enter func77,ntmps77;go_wp2_with fail;(try rw[q]);clear q;replace b:=b.be a;replace e:=e.be a;replace b:=b.drew;replace e:=e.drew;replace X:=X.drew;replace Y:=Y.drew;replace R:=R.drew;replace a:=a.drew;replace j:=aa X.k2 (aa Y.k2 R.g2);have H:w.1.size+1+1≠w.1.size:=by omega
 have I:w.1.size+1+1≠w.1.size+1:=by omega
 go_region_held3 (fun F=>C2 F w.1.size (.bool s) (.slice A k c)∧C2 F (w.1.size+1) (.bool t) (.slice C l d))
  (first|(with_reducible exact⟨X.k2,Y.k2⟩)|(refine⟨?_,?_⟩<;>(repeat (first|with_reducible exact X.k2|with_reducible exact Y.k2|with_reducible refine fQ H ?_|with_reducible refine fQ I ?_))))
  (first
   |(go_at_call 121;refine(ER _ _ _ _ _ b.words e.words (by omega) (by omega)).mono ?_;rintro M V ⟨T,rfl,m,h⟩;obtain⟨J,P,L,rfl⟩:=m.form;replace X:=X.be h;replace Y:=Y.be h;replace R:=R.be h;replace j:=aa X.k2 (aa Y.k2 R.g2);replace f:=KM.be h;replace b:=b.ke f;replace e:=e.ke f;(try replace g:=g.ke f);replace a:=aC a h)
   |(go_at_call 117;refine(r9 _ _ _ (x*y) _ m (by omega) G.out).mono ?_;rintro N Z ⟨U,rfl,g,i⟩;obtain⟨B,o,z,p,rfl⟩:=g.form;replace X:=X.be i;replace Y:=Y.be i;replace R:=R.be i;replace j:=aa X.k2 (aa Y.k2 R.g2);replace f:=KM.be i;replace b:=b.ke f;replace e:=e.ke f;(try replace m:=m.ke f);replace a:=aC a i))
 go_wp2_with fail;obtain⟨K,r,R,a,f,u⟩:=R.mut2 a (by omega) (.bool B) (.slice o z p) rfl rfl;replace X:=u X;replace Y:=u Y;replace g:=g.ke f;rw[r];clear r;replace j:=aa X.k2 (aa Y.k2 R.k2);exact aM (v:= .agg #[.bool B,.slice o z p]) (by simp[results,results77,go_sem,R.k2]) rfl ⟨_,rfl,g,a⟩
def EF(w:World)(m n:Int)(e:Ending)(w':World):Prop:=∃u v,e= .returned (.tuple #[u,v])∧NI w' u m∧NI w' v n∧Below w.1.size w w'
def EG(x y:Int)(T U:Value)(w:World)(n:NI w T x)(o:NI w U y)(lx:nl x.natAbs<=549755813888)(ly:nl y.natAbs<=549755813888)(ai:y≠0):
  Calls prog 76 #[T,U] w (EF w (x.tdiv y) (x.tmod y)):=by
 obtain⟨s,A,k,c,rfl⟩:=n.form;obtain⟨t,C,l,d,rfl⟩:=o.form;have B:=FA x y;have E:=FC x y;rw[<-n.neg] at B E;rw[<-o.neg] at B;have Z:=aB B;have HR:=aB E;have ag:nl (x.natAbs/y.natAbs)<=nl x.natAbs:=cK (azK _ _);have ah:nl (x.natAbs%y.natAbs)<=nl x.natAbs:=cK (bxP _ _);have D:=fun W u v h1 h2=>EM x.natAbs y.natAbs u v W h1 h2 (by omega) (by omega) (by omega);unfold yZ at D;generalize x.natAbs/y.natAbs=q at *;generalize x.natAbs%y.natAbs=r at *;generalize x.tdiv y=Q at *;generalize x.tmod y=R' at *;clear B E;obtain⟨W,K,a,X,Y,R,S⟩:=BL w [.bool s,.slice A k c] 106 [.bool t,.slice C l d] 106 [.bool false,.slice none 0 0] 106 [.bool false,.slice none 0 0] 106;have p:=aa X.g2 (aa Y.g2 (aa R.g2 S.g2));go_enter func76,ntmps76;go_wp2_with fail;(try rw[K]);clear K;replace n:=n.be a;replace o:=o.be a;refine(D _ _ _ n.words o.words).mono ?_;rintro e3 w3 ⟨v3,u3,rfl,e,h,z⟩;obtain⟨A3,l3,c3,rfl⟩:=e.form;obtain⟨D3,m3,d3,rfl⟩:=h.form;replace e:Mg w3 _ _:=e;replace X:=X.be z;replace Y:=Y.be z;replace R:=R.be z;replace S:=S.be z;replace p:=aa X.k2 (aa Y.k2 (aa R.g2 S.g2));replace a:=aC a z;clear D n o;have H3:=e;go_wp2_with fail;replace e:=e.drew;replace h:=h.drew;replace X:=X.drew;replace Y:=Y.drew;replace R:=R.drew;replace S:=S.drew;replace a:=a.drew;replace p:=aa X.k2 (aa Y.k2 (aa R.g2 S.g2));have ac:w.1.size+1+1≠w.1.size:=by omega
 have ad:w.1.size+1+1≠w.1.size+1:=by omega
 have ae:w.1.size+1+1+1≠w.1.size:=by omega
 have af:w.1.size+1+1+1≠w.1.size+1:=by omega
 go_region_held3 (fun V=>C2 V w.1.size (.bool s) (.slice A k c)∧C2 V (w.1.size+1) (.bool t) (.slice C l d))
  (first|(with_reducible exact⟨X.k2,Y.k2⟩)|(refine⟨?_,?_⟩<;>(repeat (first|with_reducible exact X.k2|with_reducible exact Y.k2|with_reducible refine fQ ac ?_|with_reducible refine fQ ad ?_|with_reducible refine fQ ae ?_|with_reducible refine fQ af ?_))))
  (first
   |(go_at_call 117;(with_reducible refine(r9 _ _ q Q _ e (by omega) Z.out).mono ?_);rintro e4 w4 ⟨v4,rfl,f,j⟩;obtain⟨O,F,M,H,rfl⟩:=f.form;replace X:=X.be j;replace Y:=Y.be j;replace R:=R.be j;replace S:=S.be j;replace p:=aa X.k2 (aa Y.k2 (aa R.g2 S.g2));replace b:=KM.be j;replace e:=e.ke b;replace h:=h.ke b;(try replace g:=g.ke b);replace a:=aC a j)
   |(go_at_call 117;(with_reducible refine(r9 _ _ r R' _ h (by omega) HR.out).mono ?_);rintro e5 w5 ⟨v5,rfl,g,m⟩;obtain⟨P,G,N,I,rfl⟩:=g.form;replace X:=X.be m;replace Y:=Y.be m;replace R:=R.be m;replace S:=S.be m;replace p:=aa X.k2 (aa Y.k2 (aa R.g2 S.g2));replace b:=KM.be m;replace e:=e.ke b;replace h:=h.ke b;(try replace f:=f.ke b);replace a:=aC a m))
 go_wp2_with fail;obtain⟨U0,J,R,a,b,i⟩:=R.mut2 a (by omega) (.bool O) (.slice F M H) rfl rfl;replace X:=i X;replace Y:=i Y;replace S:=i S;replace f:=f.ke b;replace g:=g.ke b;obtain⟨W6,L,S,a,b,i⟩:=S.mut2 a (by omega) (.bool P) (.slice G N I) rfl rfl;replace X:=i X;replace Y:=i Y;replace R:=i R;replace f:=f.ke b;replace g:=g.ke b;rw[J,L];clear J L;replace p:=aa X.k2 (aa Y.k2 (aa R.k2 S.k2));exact aM (v:= .tuple #[.agg #[.bool O,.slice F M H],.agg #[.bool P,.slice G N I]]) (by simp[results,results76,go_sem,R.k2,S.k2]) rfl ⟨_,_,rfl,f,g,a⟩
def MR(x y:Int)(S T:Value)(w:World)(h:NI w S x)(f:NI w T y)(lx:nl x.natAbs<=549755813888)(ly:nl y.natAbs<=549755813888):
  Calls prog 74 #[S,T] w (nN w ((Nat.gcd x.natAbs y.natAbs:Nat):Int)):=by
 obtain⟨s,A,k,c,rfl⟩:=h.form;obtain⟨t,C,l,d,rfl⟩:=f.form;obtain⟨W,L,e,X,Y,R⟩:=gE w [.bool s,.slice A k c] 106 [.bool t,.slice C l d] 106 [.bool false,.slice none 0 0] 106;have D:=aa X.g2 (aa Y.g2 R.g2);go_enter func74,ntmps74;go_wp2_with fail;(try rw[L]);clear L;replace h:=(h.be e).words;replace f:=(f.be e).words;go_quiet (fail);go_wp2_with fail;generalize x.natAbs=n at *;generalize y.natAbs=j at *;clear D X Y;go_loopg [5,6] j (fun g p q wr=>∃(a b:Nat) (A:Option Addr) (k c:Nat) (B:Option Addr) (l d:Nat),Hid (b<=g)∧p= .slice A k c∧q= .slice B l d∧Mg wr p a∧Mg wr q b∧nl a<=549755813888∧nl b<=549755813888∧Hid (Nat.gcd a b=Nat.gcd n j)∧Bx wr (w.1.size+1+1) [.bool false,.slice none 0 0] 106∧Below w.1.size w wr)
 case atStart=>exact⟨n,j,A,k,c,C,l,d,aE,rfl,rfl,h,f,lx,ly,rfl,R,eN e _⟩
 case round=>
  clear h f R e;obtain⟨a,b,A,k,c,B,l,d,F,rfl,rfl,h,f,la,lb,z,R,e⟩:=hrel;generalize wr=wx at *;have o:=f.len;by_cases H:b=0
  ·have O:l=0:=o.1.2 H;subst O;have P:Nat.gcd n j=a:=by rw[<-z.out,H];exact bxN _
   have HR:=aB P;have D:=R.g2;clear z P H o F;go_wp2_with fail;refine(r9 false _ a (a:Int) _ h (by omega) rfl).mono ?_;rintro e3 U ⟨v3,rfl,i,m⟩;obtain⟨K,E,J,G,rfl⟩:=i.form;replace R:=R.be m;replace D:=R.g2;replace e:=aC e m;replace i:NI U (.agg #[.bool K,.slice E J G]) ((Nat.gcd n j:Nat):Int):=by rw[HR.out];exact i
   go_wp2_with fail;obtain⟨W6,M,R,e,o,ff⟩:=R.mut2 e (by omega) (.bool K) (.slice E J G) rfl rfl;replace i:=i.ke o;rw[M];clear M;replace D:=R.k2;exact aM (v:= .agg #[.bool K,.slice E J G]) (by simp[results,results74,go_sem,R.k2]) rfl ⟨_,rfl,i,e⟩
  ·have O:decide (0<l)=true:=by simp;omega
   have hm:a%b<b:=dI _ (by omega);have N:Nat.gcd b (a%b)=Nat.gcd n j:=by rw[<-z.out,azD a b,Nat.gcd_rec b a,azD]
   have ac:nl (a%b)<=nl b:=cK (by omega);have Z:=aB N;have I:=fun W u v h1 h2=>EM a b u v W h1 h2 (by omega) (by omega) (by omega);unfold yZ at I;clear z N o;obtain⟨g,rfl⟩:∃g,gk=g+1:=⟨gk-1,by have:=F.out;omega⟩;generalize a%b=r at *;generalize a/b=qq at *;go_wp2_with fail;refine(I _ _ _ h f).mono ?_;rintro e3 U ⟨v3,u3,rfl,i,Q,m⟩;obtain⟨V,m3,d3,rfl⟩:=Q.form;clear I;go_wp2;go_roundg g
   case rel=>exact⟨b,r,B,l,d,V,m3,d3,by have:=F.out;unfold Hid;omega,rfl,rfl,f.be m,Q,lb,by omega,Z,R.be m,aC e m⟩
   case measure=>omega
def bl(t:Nat):Nat:=if t=0 then 0 else t.log2+1
def yX(h:t≠0):bl t=bl (t/2)+1:=by
 unfold bl;rw[if_neg h,Nat.log2_def];by_cases a:2<=t
 ·rw[if_pos a,if_neg (by omega)]
 ·rw[if_neg a,if_pos (by omega)]
def MS(k t:Nat)(h:t<2^k):bl t<=k:=by
 induction k generalizing t with
 |zero=>rw[show t=0 by simpa using h];exact aE
 |succ k b=>
  by_cases a:t=0
  ·rw[a];exact dC _
  ·rw[yX a];have:=b (t/2) (by rw[dH] at h;omega);omega
def EH(h:t≠0):1<=bl t∧(bl t=1↔t=1):=by
 rw[yX h];refine⟨by omega,?_⟩;unfold bl;split<;>omega
def MT(w:World)(m:Nat)(e:Ending)(w':World):Prop:=∃b:Int,e= .returned (.int .i64 b)∧(1<b↔1<m)∧(b=1↔m=1)∧Below w.1.size w w'
def EI(x:Int)(J:Value)(w:World)(q:NI w J x)(lx:nl x.natAbs<=549755813888):
  Calls prog 132 #[J] w (MT w x.natAbs):=by
 obtain⟨s,A,k,c,rfl⟩:=q.form;obtain⟨o,Q⟩:=q.words.len;have d:Below w.1.size w (w.alloc (.cells #[.bool s,.slice A k c] 106)):=(aG _ _).alloc aE _;obtain⟨X,i,C,hv⟩:=(q.words).be d;obtain⟨V,Y,e,P⟩:=i.form;simp only[Value.slice.injEq] at e;obtain⟨rfl,rfl,rfl⟩:=e;by_cases a:x.natAbs=0
 ·have z:X.length=0:=o.2 a;rw[z] at q d;rw[z];have D:=aB a;clear hv o a C i P Q z;go_enter func132,ntmps132;go_wp2;go_ret;exact⟨0,rfl,by have:=D.out;omega,by have:=D.out;omega,d⟩
 ·have H:X.length≠0:=fun h=>a (o.1 h);have q0:((X.length:Int)==0)=false:=by simpa using H
  obtain⟨p,B⟩:∃p,X.length=p+1:=⟨X.length-1,by omega⟩;obtain⟨y,j⟩:∃y,X[p]? =some y:=⟨_,aR (by omega)⟩;have I:y≠0:=C y (by rw[byO,B];exact j);have K:=i.dg y (dG j);obtain⟨b,rfl,ac,Z⟩:=i.at_ j;obtain⟨N,O⟩:=EH I;have G:(1<32*p+bl y↔1<x.natAbs)∧(32*p+bl y=1↔x.natAbs=1):=by
   have l:=iR X p;rw[iN (by omega),F3 j,hv] at l;rcases iB p with h|h
   ·subst h;have m:x.natAbs=y:=by rw[l];simp[nv]
    rw[m];omega
   ·have m:aD^1<=aD^p:=cO mV h;have F:aD^p*1<=aD^p*y:=eV _ (by omega);unfold aD at l m F;omega
  have E:=aB G;have W:=aB B;have ad:((X.length:Int)-1)=(p:Int):=by omega
  have ae:p<X.length:=by omega
  unfold aD at K;clear hv o a C i G B j I N O H;go_enter func132,ntmps132;go_wp2_with fail;go_loopg [3,4] y (fun g T U wr=>∃(n t:Nat),Hid (t<=g)∧T= .int .i64 (n:Int)∧U= .int .u32 (t:Int)∧t<4294967296∧n<=35184372088832∧Hid (n+bl t=32*p+bl y)∧Below w.1.size w wr)
  case atStart=>exact⟨32*p,y,aE,by go_num,rfl,K,by omega,rfl,d⟩
  case round=>
   clear d;obtain⟨n,t,r,rfl,rfl,ht,hn,f,d⟩:=hrel;generalize wr=wx at *;by_cases a:t=0
   ·subst a;have v:=E.out;have u:=f.out;rw[show bl 0=0 from rfl,gQ] at u;rw[<-u] at v;have L:=aB v;clear f E v u r;go_wp2;go_ret;have:=L.out;exact⟨n,rfl,by omega,by omega,d⟩
   ·have hd:decide (0<t)=true:=by simp;omega
    have S:=yX a;obtain⟨g,rfl⟩:∃g,gk=g+1:=⟨gk-1,by have:=r.out;omega⟩;have M:Hid (n+1+bl (t/2)=32*p+bl y):=by have:=f.out;unfold Hid;omega
    have R:n+1<=35184372088832:=by have l:=EH a;have m:=f.out;have F:=MS 32 y (by omega);omega
    clear S f;go_wp2;go_roundg g
    case rel=>exact⟨n+1,t/2,by have:=r.out;unfold Hid;omega,by go_num,pW (by omega),by omega,R,M,d⟩
    case measure=>omega
def NQ(w:World)(v:Value)(q:Rat):Prop:=∃s u s' a,v= .agg #[.bool s,u,.bool s',a]∧NI w (.agg #[.bool s,u]) q.num∧NI w (.agg #[.bool s',a]) (bS q)
def eS(w:World)(q:Rat)(e:Ending)(w':World):Prop:=∃v,e= .returned v∧NQ w' v q∧Below w.1.size w w'
section
variable {w w':World}{v:Value}{q:Rat}
def NQ.be(h:NQ w v q)(a:Below w.1.size w w'):NQ w' v q:=by
 obtain⟨s,u,d,f,e,b,c⟩:=h;exact⟨s,u,d,f,e,b.be a,c.be a⟩
def NQ.ke(h:NQ w v q)(a:KM w w'):NQ w' v q:=by
 obtain⟨s,u,d,f,e,b,c⟩:=h;exact⟨s,u,d,f,e,b.ke a,c.ke a⟩
def NQ.drew(h:NQ w v q):NQ w.drew v q:=h.be (aG _ _).drew
def NQ.form(h:NQ w v q):∃s A k c s' a d c',v= .agg #[.bool s,.slice A k c,.bool s',.slice a d c']:=by
 obtain⟨s,u,s',i,rfl,f,g⟩:=h;obtain⟨_,A,k,c,e⟩:=f.form;obtain⟨_,a,d,c',b⟩:=g.form;simp at e b;rw[e.2,b.2];exact⟨_,_,_,_,_,_,_,_,rfl⟩
def NQ.num(h:NQ w (.agg #[.bool s,u,.bool s',b]) q):NI w (.agg #[.bool s,u]) q.num:=by
 obtain⟨_,_,_,_,e,a,c⟩:=h;simp at e;rw[e.1,e.2.1];exact a
def NQ.den{a:Value}(h:NQ w (.agg #[.bool s,u,.bool s',a]) q):NI w (.agg #[.bool s',a]) (bS q):=by
 obtain⟨_,_,_,_,e,c,b⟩:=h;simp at e;rw[e.2.2.1,e.2.2.2];exact b
def NQ.of{a:Value}(e:NI w (.agg #[.bool s,u]) n)(f:NI w (.agg #[.bool s',a]) d)(b:q.num=n)(c:bS q=d):NQ w (.agg #[.bool s,u,.bool s',a]) q:=
 ⟨s,u,s',a,rfl,by rw[b];exact e,by rw[c];exact f⟩
def NQ.zero(w:World):NQ w (.agg #[.bool false,.slice none 0 0,.bool false,.slice none 0 0]) 0:=NQ.of (NI.zero w) (NI.zero w) rfl rfl
end
def MQ(a:0<d)(b:q=(n:Rat)/d):q.num=n.tdiv (Nat.gcd n.natAbs d.natAbs:Nat)∧((q.den:Nat):Int)=d.tdiv (Nat.gcd n.natAbs d.natAbs:Nat):=by rw[b];exact F4 a
def EE(w:World)(q:Rat)(b:Bool)(a:World):Prop:=∃(n d:Int) (s:Bool) (A:Option Addr) (k c:Nat) (t:Bool) (C:Option Addr) (l e:Nat),0<d∧Hid ((n:Rat)/d=q)∧(b=true->Hid (q.num=n∧(q.den:Int)=d))∧nl n.natAbs<=549755813888∧nl d.natAbs<=549755813888∧
 Bx a w.1.size [.bool s,.slice A k c] 106∧Bx a (w.1.size+1) [.bool t,.slice C l e] 106∧Bx a (w.1.size+1+1) [.bool false,.slice none 0 0,.bool false,.slice none 0 0] 108∧NI a (.agg #[.bool s,.slice A k c]) n∧NI a (.agg #[.bool t,.slice C l e]) d∧Below w.1.size w a
def vE(n d:Int)(vn vd:Value)(w:World)(hn:NI w vn n)(f:NI w vd d)(h0:d≠0)(B:nl n.natAbs<=549755813888)(z:nl d.natAbs<=549755813888):
  Calls prog 81 #[vn,vd] w (eS w ((n:Rat)/d)):=by
 obtain⟨s,A,k,c,rfl⟩:=hn.form;obtain⟨t,C,l,e,rfl⟩:=f.form;have hT:=f.neg;generalize hq:(n:Rat)/d=q;obtain⟨W,eW,a,X,Y,R⟩:=gE w [.bool s,.slice A k c] 106 [.bool t,.slice C l e] 106 [.bool false,.slice none 0 0,.bool false,.slice none 0 0] 108;replace hn:=hn.be a;replace f:=f.be a;have m:=aa X.g2 (aa Y.g2 R.g4);have H:=aB hq;have HT:=aB hT;clear hq hT;go_enter func81,ntmps81;go_upto_if 7 with fail;(try rw[eW]);clear eW;go_cut [] (fun wx=>EE w q false wx)
 case first=>
  cases t with
  |false=>
   go_wp2;go_meet;exact⟨n,d,_,_,_,_,_,_,_,_,by have:=HT.out;simp at this;omega,H,(fun h=>by cases h),B,z,X,Y,R,hn,f,a⟩
  |true=>
   go_wp2_with fail;replace hn:=hn.drew;replace f:=f.drew;replace X:=X.drew;replace Y:=Y.drew;replace R:=R.drew;replace a:=a.drew
   go_region_with (first
     |(go_at_call 131;(with_reducible refine(yY n _ _ hn (by omega)).mono ?_);rintro e4 w4 ⟨v4,rfl,i,y⟩;obtain⟨s4,A4,k4,c4,rfl⟩:=i.form;replace X:=X.be y;replace Y:=Y.be y;replace R:=R.be y;replace m:=aa X.g2 (aa Y.g2 R.g4);replace b:=KM.be y;replace hn:=hn.ke b;replace f:=f.ke b;(try replace E:=E.ke b);replace a:=aC a y)
     |(go_at_call 131;(with_reducible refine(yY d _ _ f (by omega)).mono ?_);rintro e5 w5 ⟨v5,rfl,E,U⟩;obtain⟨s5,A5,k5,c5,rfl⟩:=E.form;replace X:=X.be U;replace Y:=Y.be U;replace R:=R.be U;replace m:=aa X.g2 (aa Y.g2 R.g4);replace b:=KM.be U;replace hn:=hn.ke b;replace f:=f.ke b;(try replace i:=i.ke b);replace a:=aC a U))
   all_goals (
    go_wp2_with fail;obtain⟨U0,Q,X,a,b,j⟩:=X.mut2 a (by omega) (.bool s4) (.slice A4 k4 c4) rfl rfl;replace Y:=j Y;replace R:=j R;replace i:=i.ke b;replace E:=E.ke b;obtain⟨W6,x,Y,a,b,j⟩:=Y.mut2 a (by omega) (.bool s5) (.slice A5 k5 c5) rfl rfl;replace X:=j X;replace R:=j R;replace i:=i.ke b;replace E:=E.ke b;rw[Q,x];clear Q x;replace m:=aa X.k2 (aa Y.k2 R.k4);go_meet;exact⟨-n, -d,_,_,_,_,_,_,_,_,by have:=HT.out;simp at this;omega,by unfold Hid;rw[F5];exact H.out,(fun h=>by cases h),by rw[azJ];exact B,by rw[azJ];exact z,X,Y,R,i,E,a⟩)
 case rest=>
  clear X Y R hn f a m B z h0 HT H;obtain⟨p,o,P,I,O,J,s2,Z,k2,c2,ad,H, -,B,z,X,Y,R,hn,f,a⟩:=hcut;have m:=aa X.g2 (aa Y.g2 R.g4);obtain⟨aq,ai⟩:=MQ ad H.out.symm;have a2:Nat.gcd p.natAbs o.natAbs≠0:=fun h=>by have:=Nat.eq_zero_of_gcd_eq_zero_right h;omega
  have a3:nl (Nat.gcd p.natAbs o.natAbs)<=nl o.natAbs:=cK (aqY (by omega) (azU _ _));have ax:=jN p (Nat.gcd p.natAbs o.natAbs:Nat) _ B;have aw:=jN o (Nat.gcd p.natAbs o.natAbs:Nat) _ z;have ar:0<o.tdiv (Nat.gcd p.natAbs o.natAbs:Nat):=by rw[<-ai];have:=q.den_nz;omega
  have ap:=fun W h1 h2=>MR p o (.agg #[.bool P,.slice I O J]) (.agg #[.bool s2,.slice Z k2 c2]) W h1 h2 B z;have r:=aB (And.intro aq ai);clear aq ai;generalize Nat.gcd p.natAbs o.natAbs=g at *;go_wp2_with fail;refine(ap _ hn f).mono ?_;rintro e4 w4 ⟨v4,rfl,i,y⟩;obtain⟨s4,A4,k4,c4,rfl⟩:=i.form;replace X:=X.be y;replace Y:=Y.be y;replace R:=R.be y;replace m:=aa X.g2 (aa Y.g2 R.g4);replace b:=KM.be y;replace hn:=hn.ke b;replace f:=f.ke b;replace a:=aC a y;clear ap;go_wp2_with fail;have ak:=X.lt;have al:=Y.lt;have aj:=R.lt;have ay:=a.size;obtain⟨w5,an,S,G⟩:=bI w4 [.bool s4,.slice A4 k4 c4] 106;replace X:=X.be S;replace Y:=Y.be S;replace R:=R.be S;replace b:=KM.be S;replace a:=aC a S;replace hn:=hn.ke b;replace f:=f.ke b;replace i:=i.ke b;rw[an];clear an;replace m:=aa X.g2 (aa Y.g2 (aa R.g4 G.k2));have ah:nl g<=549755813888:=by omega
  refine(EI _ _ _ i (by rw[dD];exact ah)).mono ?_;rintro e6 w6 ⟨bb,rfl,T, -,K⟩;rw[dD] at T;replace X:=X.be K;replace Y:=Y.be K;replace R:=R.be K;replace G:=G.be K;replace m:=aa X.g2 (aa Y.g2 (aa R.g4 G.k2));replace b:=KM.be K;replace hn:=hn.ke b;replace f:=f.ke b;replace i:=i.ke b;replace a:=aC a K;go_upto_if 17 with fail;go_cut [] (fun wx=>EE w q true wx)
  case first=>
   by_cases ag:1<g
   ·have q1:decide (1<bb)=true:=by simpa using T.2 ag
    have au:=fun W u v h k=>EG p (g:Int) u v W h k B (by rw[dD];exact ah) (by omega);have av:=fun W u v h k=>EG o (g:Int) u v W h k z (by rw[dD];exact ah) (by omega);unfold EF at au av;have a1:Hid (((p.tdiv (g:Int):Int):Rat)/((o.tdiv (g:Int):Int):Rat)=q):=by
     unfold Hid;rw[<-r.out.1,<-r.out.2,aq3,<-Rat.mkRat_eq_div,byC]
    generalize p.tdiv (g:Int)=N at *;generalize o.tdiv (g:Int)=D at *;clear T;go_wp2_with fail;refine(au _ _ _ hn i).mono ?_;rintro e7 w7 ⟨v7,a4,rfl,F, -,L⟩;obtain⟨s7,A7,k7,c7,rfl⟩:=F.form;replace X:=X.be L;replace Y:=Y.be L;replace R:=R.be L;replace G:=G.be L;replace m:=aa X.g2 (aa Y.g2 (aa R.g4 G.k2));replace b:=KM.be L;replace hn:=hn.ke b;replace f:=f.ke b;replace i:=i.ke b;replace a:=aC a L;go_wp2_with fail;have ak:=X.lt;have al:=Y.lt;have aj:=R.lt;have az:=G.lt;have ay:=a.size;obtain⟨w8,ao,X,a,b,j⟩:=X.mut2 a (by omega) (.bool s7) (.slice A7 k7 c7) rfl rfl;replace Y:=j Y;replace R:=j R;replace G:=j G;replace f:=f.ke b;replace i:=i.ke b;replace F:=F.ke b;rw[ao];clear ao;replace m:=aa X.g2 (aa Y.g2 (aa R.g4 G.k2));refine(av _ _ _ f i).mono ?_;rintro e9 w9 ⟨v9,a5,rfl,h9, -,M⟩;obtain⟨s9,A9,k9,c9,rfl⟩:=h9.form;replace X:=X.be M;replace Y:=Y.be M;replace R:=R.be M;replace G:=G.be M;replace m:=aa X.g2 (aa Y.g2 (aa R.g4 G.k2));replace b:=KM.be M;replace f:=f.ke b;replace i:=i.ke b;replace F:=F.ke b;replace a:=aC a M;go_wp2_with fail;have ak:=X.lt;have al:=Y.lt;have aj:=R.lt;have az:=G.lt;have ay:=a.size;obtain⟨W6,x,Y,a,b,j⟩:=Y.mut2 a (by omega) (.bool s9) (.slice A9 k9 c9) rfl rfl;replace X:=j X;replace R:=j R;replace G:=j G;replace F:=F.ke b;replace h9:=h9.ke b;rw[x];clear x;replace m:=aa X.k2 (aa Y.k2 (aa R.k4 G.k2));go_meet;exact⟨N,D,_,_,_,_,_,_,_,_,ar,a1,(fun _=>r),ax,aw,X,Y,R,F,h9,a⟩
   ·have q1:decide (1<bb)=false:=by simpa using fun h=>ag (T.1 h)
    have hg:g=1:=by omega
    subst hg;have a0:Hid (q.num=p∧(q.den:Int)=o):=by have:=r.out;unfold Hid;simpa using this
    clear T ag;go_wp2;go_meet;exact⟨p,o,_,_,_,_,_,_,_,_,ad,H,(fun _=>a0),B,z,X,Y,R,hn,f,a⟩
  case rest=>
   clear X Y R hn f a m B z r H ad ar aw ax;obtain⟨N,D,P,I,O,J,s2,Z,k2,c2,ad, -,hP,B,z,X,Y,R,hn,f,a⟩:=hcut;have r:=hP rfl;clear hP;have m:=aa X.g2 (aa Y.g2 R.g4);go_wp2_with fail;refine(EI _ _ _ f z).mono ?_;rintro e6 a6 ⟨am,rfl, -,ac,V⟩;replace X:=X.be V;replace Y:=Y.be V;replace R:=R.be V;replace m:=aa X.g2 (aa Y.g2 R.g4);replace b:=KM.be V;replace hn:=hn.ke b;replace f:=f.ke b;replace a:=aC a V;by_cases ae:D=1
   ·have q1:(am==1)=true:=by simpa using ac.2 (by rw[ae];rfl)
    have af:Hid (bS q=0):=fV.2 (by have:=r.out.2;omega);clear ac ae;go_wp2_with fail;obtain⟨U0,Q,Y,a,b,j⟩:=Y.mut2 a (by omega) (.bool false) (.slice none 0 0) rfl rfl;replace X:=j X;replace R:=j R;replace hn:=hn.ke b;obtain⟨W6,x,R,a,b,j⟩:=R.mut4 a (by omega) (.bool P) (.slice I O J) (.bool false) (.slice none 0 0) rfl rfl;replace X:=j X;replace Y:=j Y;replace hn:=hn.ke b;rw[Q,x];clear Q x;replace m:=aa X.k2 (aa Y.k2 R.k4);exact aM (v:= .agg #[.bool P,.slice I O J,.bool false,.slice none 0 0]) (by simp[results,results81,go_sem,R.k4]) rfl ⟨_,rfl,NQ.of hn (NI.zero _) r.out.1 af.out,a⟩
   ·have q1:(am==1)=false:=by simpa using fun h=>ae (by have:=ac.1 h;omega)
    have af:Hid (bS q=D):=(mI (by have:=r.out.2;omega)).trans r.out.2;clear ac ae;go_wp2_with fail;obtain⟨W6,x,R,a,b,j⟩:=R.mut4 a (by omega) (.bool P) (.slice I O J) (.bool s2) (.slice Z k2 c2) rfl rfl;replace X:=j X;replace Y:=j Y;replace hn:=hn.ke b;replace f:=f.ke b;rw[x];clear x;replace m:=aa X.k2 (aa Y.k2 R.k4);exact aM (v:= .agg #[.bool P,.slice I O J,.bool s2,.slice Z k2 c2]) (by simp[results,results81,go_sem,R.k4]) rfl ⟨_,rfl,NQ.of hn f r.out.1 af.out,a⟩
def r8(q:Rat)(v:Value)(w:World)(hv:NQ w v q)(G:nl q.den<=549755813888):Calls prog 120 #[v] w (nN w (q.den:Int)):=by
 obtain⟨s,A,k,c,j,g,b,i,rfl⟩:=hv.form;obtain⟨e,C⟩:=hv.den.words.len;have z:nl (bS q).natAbs<=549755813888:=aH (mY q) G;by_cases f:q.den=1
 ·have y:b=0:=e.2 (by rw[fV.2 f];rfl);have H:((b:Int)==0)=true:=by rw[y];rfl
  have D:Hid ((q.den:Int)=1):=by unfold Hid;omega
  have F:∀W,Calls prog 73 #[.int .i64 1] W (nN W 1):=fun W=>EJ 1 W (by decide);clear e C y f z;obtain⟨W,t,a,B,R⟩:=eL w [.bool s,.slice A k c,.bool j,.slice g b i] 108 [.bool false,.slice none 0 0] 106;have r:=aa B.g4 R.g2;go_enter func120,ntmps120;go_wp2_with fail;(try rw[t]);clear t;refine(F _).mono ?_;rintro K I ⟨L,rfl,d,n⟩;obtain⟨p,l,o,m,rfl⟩:=d.form;replace B:=B.be n;replace R:=R.be n;replace r:=aa B.k4 R.g2;replace a:=aC a n;replace d:NI I (.agg #[.bool p,.slice l o m]) (q.den:Int):=by rw[D.out];exact d
  go_wp2_with fail;obtain⟨J,u,R,a,e,E⟩:=R.mut2 a (by omega) (.bool p) (.slice l o m) rfl rfl;replace B:=E B;replace d:=d.ke e;rw[u];clear u;replace r:=aa B.k4 R.k2;exact aM (v:= .agg #[.bool p,.slice l o m]) (by simp[results,results120,go_sem,R.k2]) rfl ⟨_,rfl,d,a⟩
 ·have H:((b:Int)==0)=false:=by
   have:b≠0:=fun h=>f (fV.1 (by have:=e.1 h;omega));simpa using this
  have x:=hv.den;rw[mI f] at x;have a:Below w.1.size w ((w.alloc (.cells #[.bool s,.slice A k c,.bool j,.slice g b i] 108)).alloc (.cells #[.bool j,.slice g b i] 106)):=((aG _ _).alloc aE _).alloc (by simp) _;clear e C f z;go_enter func120,ntmps120;go_wp2_with fail;exact aM (v:= .agg #[.bool j,.slice g b i]) (by simp[results,results120,go_sem]) rfl ⟨_,rfl,x.be a,a⟩
def oC(q:Rat)(v:Value)(w:World)(hv:NQ w v q)(h:nl q.num.natAbs<=1099511627776):Calls prog 85 #[v] w (eO w q.num.sign):=by
 obtain⟨s,A,k,c,i,d,g,e,rfl⟩:=hv.form;obtain⟨W,b,a,B⟩:=bI w [.bool s,.slice A k c,.bool i,.slice d g e] 108;have j:=B.g4;go_enter func85,ntmps85;go_wp2_with fail;(try rw[b]);clear b;refine(EK _ _ _ (hv.be a).num h).mono ?_;rintro l m ⟨rfl,f⟩;go_wp2;go_ret;exact⟨rfl,aC a f⟩
def yW(q:Rat)(v:Value)(w:World)(hv:NQ w v q)(x:nl q.num.natAbs<=1099511627776):Calls prog 126 #[v] w (eS w (-q)):=by
 obtain⟨s,A,k,c,j,e,i,f,rfl⟩:=hv.form;obtain⟨W,o,a,B,R⟩:=eL w [.bool s,.slice A k c,.bool j,.slice e i f] 108 [.bool false,.slice none 0 0,.bool false,.slice none 0 0] 108;have l:=aa B.g4 R.g4;go_enter func126,ntmps126;go_wp2_with fail;(try rw[o]);clear o;have hn:=(hv.be a).num;have b:=(hv.be a).den;replace hn:=hn.drew;replace b:=b.drew;replace B:=B.drew;replace R:=R.drew;replace a:=a.drew;replace l:=aa B.k4 R.g4;have y:w.1.size+1≠w.1.size:=by omega
 go_region_held3 (fun w'=>C4 w' w.1.size (.bool s) (.slice A k c) (.bool j) (.slice e i f))
  (first|(with_reducible exact B.k4)|((repeat (first|with_reducible exact B.k4|with_reducible refine kK y ?_))))
  (first
   |(go_at_call 131;refine(yY _ _ _ hn x).mono ?_;rintro C E ⟨D,rfl,g,h⟩;obtain⟨t,m,r,n,rfl⟩:=g.form;replace B:=B.be h;replace R:=R.be h;replace l:=aa B.k4 R.g4;replace d:=KM.be h;replace hn:=hn.ke d;replace b:=b.ke d;replace a:=aC a h))
 all_goals (
  go_wp2_with fail;obtain⟨z,p,R,a,d,u⟩:=R.mut4 a (by omega) (.bool t) (.slice m r n) (.bool j) (.slice e i f) rfl rfl;replace B:=u B;replace g:=g.ke d;replace b:=b.ke d;rw[p];clear p;replace l:=aa B.k4 R.k4;exact aM (v:= .agg #[.bool t,.slice m r n,.bool j,.slice e i f]) (by simp[results,results126,go_sem,R.k4]) rfl ⟨_,rfl,NQ.of g b rfl rfl,a⟩
 )
def oU(x:Rat):x=(x.num:Rat)/(x.den:Rat):=by rw[<-Rat.mkRat_eq_div,byC]
def yV(x y:Rat):((x.num*y.num:Int):Rat)/(((x.den:Int)*(y.den:Int):Int):Rat)=x*y:=by
 conv=>rhs;rw[oU x,oU y]
 rw[eJ,eJ,aq3,aq3];grind
def NQ.len(h:NQ w (.agg #[.bool s,u,.bool s',.slice A k c]) q):((k:Int)==0)=decide (q.den=1):=by
 have:=h.den.words.len.1;rw[Int.natAbs_eq_zero,fV] at this;by_cases a:q.den=1
 ·rw[this.2 a];simp[a]
 ·have:k≠0:=fun e=>a (this.1 e);simp[a,this]
def sL(x y:Rat)(vx vy:Value)(w:World)(g:NQ w vx x)(i:NQ w vy y)(K:Nat)(kx:RL K x)(ky:RL K y)(hK:2*K<=549755813888):Calls prog 83 #[vx,vy] w (eS w (x*y)):=by
 obtain⟨s,A,k,c,V,M,r,O,rfl⟩:=g.form;obtain⟨t,C,l,d,Z,N,z,P,rfl⟩:=i.form;obtain⟨S,k2⟩:=kx;obtain⟨k3,k4⟩:=ky;have T:=g.len;have U:=i.len;by_cases f:x.den=1∧y.den=1
 ·have r1:((r:Int)==0)=true:=by rw[T];simpa using f.1
  have r2:((z:Int)==0)=true:=by rw[U];simpa using f.2
  have B:Hid ((x*y).num=x.num*y.num∧(x*y).den=1):=by
   have e:x*y=((x.num*y.num:Int):Rat):=by
    rw[<-yV x y,f.1,f.2];simp;grind
   rw[e];exact⟨rfl,rfl⟩
  clear T U f;obtain⟨W,D,b,X,Y,R⟩:=gE w [.bool s,.slice A k c,.bool V,.slice M r O] 108 [.bool t,.slice C l d,.bool Z,.slice N z P] 108 [.bool false,.slice none 0 0,.bool false,.slice none 0 0] 108;have n:=aa X.g4 (aa Y.g4 R.g4);go_enter func83,ntmps83;go_wp2_with fail;(try rw[D]);clear D;refine(oV x.num y.num _ _ _ (g.be b).num (i.be b).num (by omega) (by omega)).mono ?_;rintro Q w1 ⟨v1,rfl,f,q⟩;obtain⟨s1,A1,S,c1,rfl⟩:=f.form;replace X:=X.be q;replace Y:=Y.be q;replace R:=R.be q;replace n:=aa X.k4 (aa Y.k4 R.g4);replace b:=aC b q;go_wp2_with fail;obtain⟨W6,E,R,b,a,F⟩:=R.mut4 b (by omega) (.bool s1) (.slice A1 S c1) (.bool false) (.slice none 0 0) rfl rfl;replace X:=F X;replace Y:=F Y;replace f:=f.ke a;rw[E];clear E;replace n:=aa X.k4 (aa Y.k4 R.k4);exact aM (v:= .agg #[.bool s1,.slice A1 S c1,.bool false,.slice none 0 0]) (by simp[results,results83,go_sem,R.k4]) rfl ⟨_,rfl,NQ.of f (NI.zero _) B.out.1 (fV.2 B.out.2),b⟩
 ·have B:=aB (yV x y);have lm:=fI x.num.natAbs y.num.natAbs;have ld:=fI x.den y.den;have ac:(x.den:Int)*(y.den:Int)≠0:=bxK (by have:=x.den_nz;omega) (by have:=y.den_nz;omega);have Q:nl (x.num*y.num).natAbs<=549755813888:=by rw[fL];omega
  have e2:nl ((x.den:Int)*(y.den:Int)).natAbs<=549755813888:=by rw[fL];exact aH ld (by omega)
  have ai:((r:Int)==0)=false∨((r:Int)==0)=true∧((z:Int)==0)=false:=by
   rw[T,U];by_cases j:x.den=1
   ·exact .inr ⟨by simpa using j,by simpa using fun h=>f ⟨j,h⟩⟩
   ·exact .inl (by simpa using j)
  have ad:=fun W u v h G=>vE (x.num*y.num) ((x.den:Int)*(y.den:Int)) u v W h G ac Q e2;rw[B.out] at ad;have ag:=fun W u v h G=>oV x.num y.num u v W h G (by omega) (by omega);have ah:=fun W u v h G=>oV (x.den:Int) (y.den:Int) u v W h G (by rw[dD];omega) (by rw[dD];omega);have ae:=fun W h=>r8 x (.agg #[.bool s,.slice A k c,.bool V,.slice M r O]) W h (by omega);have af:=fun W h=>r8 y (.agg #[.bool t,.slice C l d,.bool Z,.slice N z P]) W h (by omega);clear T U f B lm ld ac Q e2;rcases ai with r1|⟨r1,r2⟩
  all_goals (
   obtain⟨W,D,b,X,Y,R⟩:=gE w [.bool s,.slice A k c,.bool V,.slice M r O] 108 [.bool t,.slice C l d,.bool Z,.slice N z P] 108 [.bool false,.slice none 0 0,.bool false,.slice none 0 0] 108;have n:=aa X.g4 (aa Y.g4 R.g4);go_enter func83,ntmps83;go_wp2_with fail;(try rw[D]);clear D;replace g:=g.be b;replace i:=i.be b;replace g:=g.drew;replace i:=i.drew;replace X:=X.drew;replace Y:=Y.drew;replace R:=R.drew;replace b:=b.drew;replace n:=aa X.k4 (aa Y.k4 R.g4);have aj:w.1.size+1+1≠w.1.size:=by omega
   have ak:w.1.size+1+1≠w.1.size+1:=by omega
   go_region_held3 (fun w'=>C4 w' w.1.size (.bool s) (.slice A k c) (.bool V) (.slice M r O)∧C4 w' (w.1.size+1) (.bool t) (.slice C l d) (.bool Z) (.slice N z P))
    (first|(with_reducible exact⟨X.k4,Y.k4⟩)|(refine⟨?_,?_⟩<;>(repeat (first|with_reducible exact X.k4|with_reducible exact Y.k4|with_reducible refine kK aj ?_|with_reducible refine kK ak ?_))))
    (first
     |(go_at_call 77;(with_reducible refine(ag _ _ _ g.num i.num).mono ?_);rintro Q w1 ⟨v1,rfl,f,q⟩;obtain⟨s1,A1,S,c1,rfl⟩:=f.form;replace X:=X.be q;replace Y:=Y.be q;replace R:=R.be q;replace n:=aa X.k4 (aa Y.k4 R.g4);replace a:=KM.be q;replace g:=g.ke a;replace i:=i.ke a;(try replace j:=j.ke a);(try replace o:=o.ke a);(try replace p:=p.ke a);(try replace m:=m.ke a);replace b:=aC b q)
     |(go_at_call 120;(with_reducible refine(ae _ g).mono ?_);rintro e2 w2 ⟨v2,rfl,j,H⟩;obtain⟨s2,A2,k2,c2,rfl⟩:=j.form;replace X:=X.be H;replace Y:=Y.be H;replace R:=R.be H;replace n:=aa X.k4 (aa Y.k4 R.g4);replace a:=KM.be H;replace g:=g.ke a;replace i:=i.ke a;(try replace f:=f.ke a);(try replace o:=o.ke a);(try replace p:=p.ke a);(try replace m:=m.ke a);replace b:=aC b H)
     |(go_at_call 120;(with_reducible refine(af _ i).mono ?_);rintro e3 w3 ⟨v3,rfl,o,I⟩;obtain⟨s3,A3,k3,c3,rfl⟩:=o.form;replace X:=X.be I;replace Y:=Y.be I;replace R:=R.be I;replace n:=aa X.k4 (aa Y.k4 R.g4);replace a:=KM.be I;replace g:=g.ke a;replace i:=i.ke a;(try replace f:=f.ke a);(try replace j:=j.ke a);(try replace p:=p.ke a);(try replace m:=m.ke a);replace b:=aC b I)
     |(go_at_call 77;(with_reducible refine(ah _ _ _ j o).mono ?_);rintro e4 w4 ⟨v4,rfl,p,J⟩;obtain⟨s4,A4,k4,c4,rfl⟩:=p.form;replace X:=X.be J;replace Y:=Y.be J;replace R:=R.be J;replace n:=aa X.k4 (aa Y.k4 R.g4);replace a:=KM.be J;replace g:=g.ke a;replace i:=i.ke a;(try replace f:=f.ke a);(try replace j:=j.ke a);(try replace o:=o.ke a);(try replace m:=m.ke a);replace b:=aC b J)
     |(go_at_call 81;refine(ad _ _ _ f p).mono ?_;rintro e5 w5 ⟨v5,rfl,m,L⟩;obtain⟨s5,A5,k5,c5,s6,A6,k6,c6,rfl⟩:=m.form;replace X:=X.be L;replace Y:=Y.be L;replace R:=R.be L;replace n:=aa X.k4 (aa Y.k4 R.g4);replace a:=KM.be L;replace g:=g.ke a;replace i:=i.ke a;(try replace f:=f.ke a);(try replace j:=j.ke a);(try replace o:=o.ke a);(try replace p:=p.ke a);replace b:=aC b L))
   all_goals (
    go_wp2_with fail;obtain⟨W6,E,R,b,a,F⟩:=R.mut4 b (by omega) (.bool s5) (.slice A5 k5 c5) (.bool s6) (.slice A6 k6 c6) rfl rfl;replace X:=F X;replace Y:=F Y;replace m:=m.ke a;rw[E];clear E;replace n:=aa X.k4 (aa Y.k4 R.k4);exact aM (v:= .agg #[.bool s5,.slice A5 k5 c5,.bool s6,.slice A6 k6 c6]) (by simp[results,results83,go_sem,R.k4]) rfl ⟨_,rfl,m,b⟩;))
def ED(x y:Rat)(h:y≠0):((x.num*(y.den:Int):Int):Rat)/(((x.den:Int)*y.num:Int):Rat)=x/y:=by
 have c:(y.num:Rat)≠0:=fun e=>h (Rat.num_eq_zero.1 (Rat.intCast_inj.1 e));have a:(y.den:Rat)≠0:=fun e=>y.den_nz (by have:=Rat.intCast_inj.1 (show((y.den:Int):Rat)=((0:Int):Rat) from e);omega);have b:(x.den:Rat)≠0:=fun e=>x.den_nz (by have:=Rat.intCast_inj.1 (show((x.den:Int):Rat)=((0:Int):Rat) from e);omega);conv=>rhs;rw[oU x,oU y]
 rw[eJ,eJ,aq3,aq3];grind
def vD(x y:Rat)(vx vy:Value)(w:World)(g:NQ w vx x)(f:NQ w vy y)(K:Nat)(kx:RL K x)(ky:RL K y)(hK:2*K<=549755813888)(P:y≠0):Calls prog 80 #[vx,vy] w (eS w (x/y)):=by
 obtain⟨s,A,k,c,T,L,S,M,rfl⟩:=g.form;obtain⟨t,C,l,d,J,G,I,H,rfl⟩:=f.form;obtain⟨k1,k2⟩:=kx;obtain⟨k3,k4⟩:=ky;have Z:=aB (ED x y P);have lm:=fI x.num.natAbs y.den;have ld:=fI x.den y.num.natAbs;have Q:y.num≠0:=fun e=>P (Rat.num_eq_zero.1 e);have ad:(x.den:Int)*y.num≠0:=bxK (by have:=x.den_nz;omega) Q;have N:nl (x.num*(y.den:Int)).natAbs<=549755813888:=by rw[fL,dD];omega
 have O:nl ((x.den:Int)*y.num).natAbs<=549755813888:=by rw[fL,dD];omega
 have ae:=fun W u v h q=>vE (x.num*(y.den:Int)) ((x.den:Int)*y.num) u v W h q ad N O;rw[Z.out] at ae;have ah:=fun W u v h q=>oV x.num (y.den:Int) u v W h q (by omega) (by rw[dD];omega);have ai:=fun W u v h q=>oV (x.den:Int) y.num u v W h q (by rw[dD];omega) (by omega);have af:=fun W h=>r8 x (.agg #[.bool s,.slice A k c,.bool T,.slice L S M]) W h (by omega);have ag:=fun W h=>r8 y (.agg #[.bool t,.slice C l d,.bool J,.slice G I H]) W h (by omega);have aj:=fun W h=>oC y (.agg #[.bool t,.slice C l d,.bool J,.slice G I H]) W h (by omega);have q0:(y.num.sign==0)=false:=by rw[beq_eq_false_iff_ne];exact fun e=>Q (Int.sign_eq_zero_iff_zero.1 e)
 generalize y.num.sign=sg at *;clear Z lm ld ad N O Q P;obtain⟨W,eW,b,X,Y,R⟩:=gE w [.bool s,.slice A k c,.bool T,.slice L S M] 108 [.bool t,.slice C l d,.bool J,.slice G I H] 108 [.bool false,.slice none 0 0,.bool false,.slice none 0 0] 108;have p:=aa X.g4 (aa Y.g4 R.g4);go_enter func80,ntmps80;go_wp2_with fail;(try rw[eW]);clear eW;replace g:=g.be b;replace f:=f.be b;refine(aj _ f).mono ?_;rintro e0 w0 ⟨rfl,r⟩;replace X:=X.be r;replace Y:=Y.be r;replace R:=R.be r;replace p:=aa X.k4 (aa Y.k4 R.g4);replace a:=KM.be r;replace g:=g.ke a;replace f:=f.ke a;replace b:=aC b r;go_wp2_with fail;replace g:=g.drew;replace f:=f.drew;replace X:=X.drew;replace Y:=Y.drew;replace R:=R.drew;replace b:=b.drew;replace p:=aa X.k4 (aa Y.k4 R.g4);have ak:w.1.size+1+1≠w.1.size:=by omega
 have al:w.1.size+1+1≠w.1.size+1:=by omega
 go_region_held3 (fun w'=>C4 w' w.1.size (.bool s) (.slice A k c) (.bool T) (.slice L S M)∧C4 w' (w.1.size+1) (.bool t) (.slice C l d) (.bool J) (.slice G I H))
  (first|(with_reducible exact⟨X.k4,Y.k4⟩)|(refine⟨?_,?_⟩<;>(repeat (first|with_reducible exact X.k4|with_reducible exact Y.k4|with_reducible refine kK ak ?_|with_reducible refine kK al ?_))))
  (first
   |(go_at_call 77;(with_reducible refine(ah _ _ _ g.num n).mono ?_);rintro N w1 ⟨v1,rfl,j,z⟩;obtain⟨s1,A1,k1,c1,rfl⟩:=j.form;replace X:=X.be z;replace Y:=Y.be z;replace R:=R.be z;replace p:=aa X.k4 (aa Y.k4 R.g4);replace a:=KM.be z;replace g:=g.ke a;replace f:=f.ke a;(try replace m:=m.ke a);(try replace n:=n.ke a);(try replace o:=o.ke a);(try replace i:=i.ke a);replace b:=aC b z)
   |(go_at_call 120;(with_reducible refine(af _ g).mono ?_);rintro O w2 ⟨v2,rfl,m,B⟩;obtain⟨s2,A2,k2,c2,rfl⟩:=m.form;replace X:=X.be B;replace Y:=Y.be B;replace R:=R.be B;replace p:=aa X.k4 (aa Y.k4 R.g4);replace a:=KM.be B;replace g:=g.ke a;replace f:=f.ke a;(try replace j:=j.ke a);(try replace n:=n.ke a);(try replace o:=o.ke a);(try replace i:=i.ke a);replace b:=aC b B)
   |(go_at_call 120;(with_reducible refine(ag _ f).mono ?_);rintro e3 w3 ⟨v3,rfl,n,D⟩;obtain⟨s3,A3,k3,c3,rfl⟩:=n.form;replace X:=X.be D;replace Y:=Y.be D;replace R:=R.be D;replace p:=aa X.k4 (aa Y.k4 R.g4);replace a:=KM.be D;replace g:=g.ke a;replace f:=f.ke a;(try replace j:=j.ke a);(try replace m:=m.ke a);(try replace o:=o.ke a);(try replace i:=i.ke a);replace b:=aC b D)
   |(go_at_call 77;(with_reducible refine(ai _ _ _ m f.num).mono ?_);rintro e4 w4 ⟨v4,rfl,o,E⟩;obtain⟨s4,A4,k4,c4,rfl⟩:=o.form;replace X:=X.be E;replace Y:=Y.be E;replace R:=R.be E;replace p:=aa X.k4 (aa Y.k4 R.g4);replace a:=KM.be E;replace g:=g.ke a;replace f:=f.ke a;(try replace j:=j.ke a);(try replace m:=m.ke a);(try replace n:=n.ke a);(try replace i:=i.ke a);replace b:=aC b E)
   |(go_at_call 81;refine(ae _ _ _ j o).mono ?_;rintro e5 w5 ⟨v5,rfl,i,F⟩;obtain⟨s5,U,k5,c5,s6,V,k6,c6,rfl⟩:=i.form;replace X:=X.be F;replace Y:=Y.be F;replace R:=R.be F;replace p:=aa X.k4 (aa Y.k4 R.g4);replace a:=KM.be F;replace g:=g.ke a;replace f:=f.ke a;(try replace j:=j.ke a);(try replace m:=m.ke a);(try replace n:=n.ke a);(try replace o:=o.ke a);replace b:=aC b F))
 all_goals (
  go_wp2_with fail;obtain⟨W6,ac,R,b,a,ff⟩:=R.mut4 b (by omega) (.bool s5) (.slice U k5 c5) (.bool s6) (.slice V k6 c6) rfl rfl;replace X:=ff X;replace Y:=ff Y;replace i:=i.ke a;rw[ac];clear ac;replace p:=aa X.k4 (aa Y.k4 R.k4);exact aM (v:= .agg #[.bool s5,.slice U k5 c5,.bool s6,.slice V k6 c6]) (by simp[results,results80,go_sem,R.k4]) rfl ⟨_,rfl,i,b⟩;)
end Go.Proofs.YtfdaieaidpcdgaaGreatDoor
namespace Go.Proofs.YtfdaieaidpcdgaaGreatDoor
open Sos
variable{x y:Rat}
def BR(x y:Rat)(h:Nat.gcd x.den y.den=1):(x+y).num=x.num*y.den+y.num*x.den∧(x+y).den=x.den*y.den:=by
 show(Rat.add x y).num=_∧(Rat.add x y).den=_
 unfold Rat.add;simp[h]
def UB(x y:Rat)(g:Nat)(b:Nat.gcd x.den y.den=g)(a:g≠1)(n:Int)(hn:n=x.num*((y.den/g:Nat):Int)+y.num*((x.den/g:Nat):Int)):
  (x+y).num=n/((Nat.gcd n.natAbs g:Nat):Int)∧(x+y).den=x.den/g*y.den/Nat.gcd n.natAbs g:=by
 subst b;subst hn;show(Rat.add x y).num=_∧(Rat.add x y).den=_
 unfold Rat.add;simp[a]
def IU(a b:Nat):(a:Int).tdiv (b:Int)=((a/b:Nat):Int):=by
 rw[Int.tdiv_eq_ediv_of_nonneg (by omega)];exact(azR a b).symm
def BS(x y:Rat)(g r:Nat)(l t n:Int)(h:g=Nat.gcd x.den y.den)(b:l=(y.den:Int).tdiv g)(a:t=(x.den:Int).tdiv g)(hn:n=x.num*l+y.num*t)(f:r=Nat.gcd n.natAbs g):
  (x+y).num=n.tdiv r∧(((x+y).den:Nat):Int)=t*(y.den:Int).tdiv r:=by
 have p:=x.den_nz;have q:=y.den_nz;have k:r∣g:=f ▸ azU _ _;have i:g∣y.den:=h ▸ azU _ _;have m:(r:Int)∣n:=Int.ofNat_dvd_left.2 (f ▸ aqX _ _);have o:r∣y.den:=bzF k i;rw[IU] at b a;rw[IU];by_cases e:g=1
 ·obtain⟨c,d⟩:=BR x y (h ▸ e);have j:r=1:=by rw[f,e];simp
  rw[e] at b a;simp only[Nat.div_one] at b a;rw[c,d,j,hn,b,a];simp
 ·obtain⟨c,d⟩:=UB x y g h.symm e n (by rw[hn,b,a]);rw[<-f] at c d;rw[c,d,a,bzN m];refine⟨rfl,?_⟩;rw[Nat.mul_div_assoc _ o];simp
def UC{g:Nat}{l t n:Int}(b:g=Nat.gcd x.den y.den)(c:l=(y.den:Int).tdiv g)(d:t=(x.den:Int).tdiv g)(hn:n=x.num*l+y.num*t)(a:n=0):x+y=0:=by
 have:=(BS x y g _ l t n b c d hn rfl).1;rw[a] at this;exact Rat.num_eq_zero.1 (by rw[this];simp)
def BT(h:x.den=1):(x+y).num=x.num*y.den+y.num∧(x+y).den=y.den:=by
 obtain⟨a,b⟩:=BR x y (by rw[h];simp);rw[a,b,h];simp
def UD(h:y.den=1):(x+y).num=y.num*x.den+x.num∧(x+y).den=x.den:=by
 obtain⟨a,b⟩:=BR x y (by rw[h];simp);rw[a,b,h];simp;omega
def wW{K:Nat}(e:RL K x)(f:RL K y):RL (2*K+1) (x+y):=by
 obtain⟨c,d⟩:=BS x y _ _ _ _ _ rfl rfl rfl rfl rfl;obtain⟨j,k⟩:=e;obtain⟨l,b⟩:=f;have g:=jN (y.den:Int) (Nat.gcd x.den y.den:Int) K b;have a:=jN (x.den:Int) (Nat.gcd x.den y.den:Int) K k;have i:=wX _ _ _ (gT _ _ _ _ j g) (gT _ _ _ _ l a);refine⟨?_,?_⟩
 ·rw[c];exact jN _ _ _ (aH i (by omega))
 ·have h:nl (((x+y).den:Nat):Int).natAbs<=K+K:=by
   rw[d];exact gT _ _ _ _ a (jN _ _ _ b)
  exact aH h (by omega)
