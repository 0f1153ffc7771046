/- Laws. -/
import Derived.Test.YticcgnnefilhcaaGreatDoorT21
import Derived.Deep.DeepCutAuto
import Derived.Deep.LoopGhost
set_option linter.all false
set_option maxHeartbeats 8000000
set_option maxRecDepth 99999
namespace Go.Proofs.YticcgnnefilhcaaGreatDoor
open Go.RowKit Sos Tryz
variable{s s':Bool}{M c k t x:Nat}{w wr wx:World}{S b u:Value}{d n:Int}{As e vs:List Nat}{a:Act}{A:Option Addr}{q:Rat}
def EO(w:World)(a d:Nat)(e:Ending)(w':World):Prop:=∃v,e= .returned (.tuple #[v,.int .u32 ((a%d:Nat):Int)])∧Mg w' v (a/d)∧(∀g,v.ownBlock=some g->w.1.size<=g∧g<w'.1.size)∧Below w.1.size w w'
def EP(a d:Nat)(M:Value)(w:World)(Y:Mg w M a)(la:nl a<=1099511627776)(h:0<d)(ae:d<4294967296):
  Calls prog 138 #[M,.int .u32 (d:Int)] w (EO w a d):=by
 obtain⟨X,j,L,rfl⟩:=Y;have lX:=lJ L rfl;have W:=j.dg;obtain⟨A,c,rfl,hc⟩:=j.form;clear L;go_enter func138,ntmps138;go_wp2_with (at_make;refine jT rfl rfl 168 _ 1 4 underlying54 oX rfl (by decide) X.length rfl rfl rfl rfl (by omega) (by omega) ?_;intro w1 ad H E);have R:=Bx.zeros H;clear H ad;go_loopg [7,8] X.length (fun k s t wr=>∃(Q:List Nat) (r:Nat) (i:Int),Hid (i+1=k)∧s= .int .u64 (r:Int)∧t= .int .i64 i∧ -1<=i∧i<X.length∧r<d∧Hid (Q.length+k=X.length)∧Dg Q∧Hid (d*nv Q+r=nv (X.drop k))∧Bx wr w.1.size (U (List.replicate k 0++Q)) 168∧Below w.1.size w wr)
 case atStart=>exact⟨[],0,(X.length:Int)-1,by unfold Hid;omega,rfl,rfl,by omega,by omega,h,by unfold Hid;simp,(fun d b=>by cases b),by unfold Hid;rw[az5];rfl,by rw[fH];exact R,E⟩
 case round=>
  clear R E;obtain⟨Q,r,i,u,rfl,rfl,h1,h2,n,v,B,y,R,l⟩:=hrel;generalize wr=wx at *;cases gk with
  |zero=>
   have F:¬0<=i:=by have:=u.out;omega
   have G:Q.length=X.length:=v.out;rw[F8,iM] at R;have hv:d*nv Q+r=nv X:=y.out;have e:nv X%d=r:=by rw[<-hv,Nat.mul_add_mod,jJ n]
   have b:nv Q=nv X/d:=by rw[<-hv,aqO h,BA n,gQ]
   have K:=ES Q [] w.1.size _ X.length wx (by rw[fH];exact R) B b (by omega) (by omega);rw[G] at K;have O:=aB e;clear G hv e b;go_wp2_with fail;refine K.mono ?_;rintro C w2 ⟨k2,c2,rfl,e,rfl⟩;go_wp2;go_ret2;exact⟨_,by rw[O.out];rfl,e,fun g hg=>by have:=R.lt;simp[Value.ownBlock] at hg;omega,l⟩
  |succ k=>
   have F:i=(k:Int):=by have:=u.out;omega
   subst F;obtain⟨x,f⟩:∃x,X[k]? =some x:=⟨_,aR (by omega)⟩;obtain⟨bx,rfl,af,gx⟩:=(j.be l).at_ f;have N:=W.get f;unfold aD at N;have g0:=R.last;have f0:=R.free k;have ag:=dqJ r x (by omega) N;have V:=aB (zM f);clear f;have I:r*aD+x<d*4294967296:=by
    have:(r+1)*4294967296<=d*4294967296:=dK _ n;unfold aD;omega
   have ac:d*4294967296<=4294967295*4294967296:=dK _ (by omega);generalize D:r*aD+x=S at *;have P:=aB D;have Z:S/d<4294967296:=mU I;have ab:S%d<d:=dI _ h;have e1:((S:Int))/(d:Int)=((S/d:Nat):Int):=(dzK S d).symm;have C:((S:Int))%(d:Int)=((S%d:Nat):Int):=(Z9 S d).symm;have J:d*nv (S/d :: Q)+S%d=nv (X.drop k):=by
    rw[V.out,<-y.out];exact dxP (by rw[dN,iD,P.out])
   have T:=aB J;have ah:S<=18446744073709551615:=by omega
   clear J D I ac;generalize S/d=q at *;generalize S%d=m at *;go_wp2;go_roundg k
   case rel=>exact⟨q :: Q,m,(k:Int)-1,by unfold Hid;omega,by rw[C],by go_num,by omega,by omega,ab,by have:=v.out;unfold Hid;rw[eG];omega,(fun z o=>by
    rcases List.mem_cons.1 o with rfl|o
    ·exact Z
    ·exact B z o),T,R.prev rfl,l.setCell (p:=⟨w.1.size,k,none⟩) aE _⟩
   case measure=>omega
def MW{s z:Nat}(k:s<32)(e:x<4294967296)(g:z<2^s):∃V L H:Nat,IntKind.u64.wrap ((x:Int)*2^s)=V∧V<=18446744073709551615∧bits .or .u32 (z:Int) ((V:Int)%4294967296)=L∧(V:Int)/4294967296=H∧L<4294967296∧H<2^s∧H<4294967296∧L+aD*H=z+2^s*x:=by
 have c:x*2^s<4294967296*2^s:=az8 e (dyU (by decide));have h:2^s<=2^31:=cO (by decide) (by omega);have a:(4294967296:Nat)=2^s*2^(32-s):=by rw[<-eY,show s+(32-s)=32 by omega]
 have b:x*2^s%4294967296=2^s*(x%2^(32-s)):=by conv=>lhs;rw[a,dN x,Nat.mul_mod_mul_left]
 have f:x%2^(32-s)+1<=2^(32-s):=dI _ (dyU (by decide));have d:2^s*(x%2^(32-s)+1)<=4294967296:=by rw[a];exact eV _ f
 have j:=dI (x*2^s) (show 4294967296>0 by decide);have i:=azO (x*2^s) 4294967296;refine⟨x*2^s,z+x*2^s%4294967296,x*2^s/4294967296,?_,by omega,?_,(dzK _ _).symm,by rw[b];rw[iL] at d;omega,mU c,by omega,by unfold aD;rw[dN (2^s)];omega⟩
 ·rw[show((x:Int)*2^s)=((x*2^s:Nat):Int) by rw[dz5,O9];rfl];exact IntWalk.u64_in _ (by omega)
 ·rw[show((x*2^s:Nat):Int)%4294967296=((x*2^s%4294967296:Nat):Int) from(Z9 _ _).symm,u32_or _ _ (by omega) (by omega) (by omega) (by omega),j9,j9,b,Nat.or_comm,zO g,G5]
def MX{s y:Nat}(i:s<32)(e:x<4294967296)(j:y<4294967296):∃V L:Nat,IntKind.u64.wrap (32-(s:Int))=((32-s:Nat):Int)∧IntKind.u64.wrap ((y:Int)*2^(32-s))=V∧IntKind.u32.wrap (V:Int)=L∧bits .or .u32 ((x/2^s:Nat):Int) (L:Int)=((x/2^s+L:Nat):Int)∧L=2^(32-s)*(y%2^s)∧x/2^s+L<4294967296:=by
 have a:(4294967296:Nat)=2^(32-s)*2^s:=by rw[<-eY,show 32-s+s=32 by omega]
 have d:0<2^s:=dyU (by decide);have h:y*2^(32-s)<=4294967295*4294967296:=C5 (by omega) (cO (n:=2) (by decide) (show 32-s<=32 by omega));have c:y*2^(32-s)%4294967296=2^(32-s)*(y%2^s):=by conv=>lhs;rw[a,dN y,Nat.mul_mod_mul_left]
 have f:x/2^s<2^(32-s):=mU (by rw[dN,<-a];exact e);have g:y%2^s+1<=2^s:=dI _ d;have b:2^(32-s)*(y%2^s+1)<=4294967296:=by rw[a];exact eV _ g
 rw[iL,o9] at b;generalize x/2^s=k at *;refine⟨y*2^(32-s),2^(32-s)*(y%2^s),?_,?_,?_,?_,rfl,by omega⟩
 ·rw[show(32:Int)-s=((32-s:Nat):Int) by omega];exact IntWalk.u64_in _ (by omega)
 ·rw[show((y:Int)*2^(32-s))=((y*2^(32-s):Nat):Int) by rw[dz5,O9];rfl];exact IntWalk.u64_in _ (by omega)
 ·rw[IntKind.wrap_u32,<-c];exact(Z9 _ _).symm
 ·rw[u32_or _ _ (by omega) (by omega) (by omega) (by omega),j9,j9,Nat.or_comm,zO f,G5]
def MY(w:World)(X:List Nat)(s:Nat)(e:Ending)(w':World):Prop:=e= .returned (.slice (some ⟨w.1.size,0,none⟩) (X.length+1) (X.length+1))∧∃Z:List Nat,Bx w' w.1.size (U Z) 168∧Z.length=X.length+1∧Dg Z∧nv Z=2^s*nv X∧Below w.1.size w w'
def EQ(X:List Nat)(D:Value)(s:Nat)(w:World)(g:Ds w D X)(lX:X.length<=2199023255552)(N:s<32):
  Calls prog 197 #[D,.int .u64 (s:Int)] w (MY w X s):=by
 have I:=g.dg;obtain⟨A,c,rfl,hc⟩:=g.form;go_enter func197,ntmps197;go_wp2_with (at_make;refine jT rfl rfl 168 _ 1 4 underlying54 oX rfl (by decide) (X.length+1) rfl rfl rfl rfl (by omega) (by omega) ?_;intro w1 O C u);have R:=Bx.zeros C;clear C O;go_loopg [6] X.length (fun k t wr=>∃(P:List Nat) (z i:Nat),Hid (i+k=X.length)∧t= .int .i64 (i:Int)∧Hid (P.length=i)∧Dg P∧Hid (z<2^s)∧Hid (nv P+aD^i*z=2^s*nv (X.take i))∧Bx wr w.1.size (U (P++z :: List.replicate k 0)) 168∧Below w.1.size w wr)
 case atStart=>exact⟨[],0,0,by unfold Hid;omega,rfl,rfl,(fun d K=>by cases K),dyU (by decide),rfl,R,u⟩
 case round=>
  clear R u;obtain⟨P,z,i,f,rfl,a,o,n,l,R,h⟩:=hrel;generalize wr=wx at *;have ac:(0:Int)<=(i:Int):=by omega
  cases gk with
  |zero=>
   have M:i=X.length:=f.out;subst M;have v:¬(X.length:Int)<(X.length:Int):=by omega
   go_wp2;go_ret;refine⟨rfl,P++[z],R,by rw[jR a.out],o.snoc (aZ n.out (cO (by decide) (show s<=32 by omega))),?_,h⟩;rw[mE z a.out,l.out,iN aE]
  |succ k=>
   have v:i<X.length:=by have:=f.out;omega
   obtain⟨x,e⟩:∃x,X[i]? =some x:=⟨_,aR v⟩;obtain⟨Q,rfl,ab,Y⟩:=(g.be h).at_ e;have E:=I.get e;unfold aD at E;have m:=aB (iR X i);rw[gG e] at m;clear e;obtain⟨V,L,H,Z,h2,h3,h4,J,q,h7,r⟩:=MW N E n.out;have T:=R.mid a.out;have S:=fun j=>R.free j;have b:=R.next (y:=L) a.out rfl;rw[dzU] at b;have W:=b.mid (jR a.out);have B:=b.next (y:=H) (jR a.out) rfl;have hv:nv (P++[L])+aD^(i+1)*H=2^s*nv (X.take (i+1)):=by
    rw[m.out,mE _ a.out,dH,iW,az7,<-iL,r,iL,iL,<-l.out,Nat.mul_left_comm];omega
   have G:=aB hv;have F:=aB q;clear hv r q b;go_wp2;go_roundg k
   case rel=>exact⟨P++[L],H,i+1,by have:=f.out;unfold Hid;omega,by go_num,jR a.out,o.snoc J,F,G,(by rw[eK] at B;exact B),(h.setCell (p:=⟨w.1.size,i,none⟩) aE _).setCell (p:=⟨w.1.size,i+1,none⟩) aE _⟩
   case measure=>omega
def ER(a b:Nat)(va vb:Value)(w:World)(ha:Mg w va a)(ar:Mg w vb b)(la:nl a<=1099511627776)(lb:nl b<=1099511627776):
  Calls prog 147 #[va,vb] w (dqI w (a*b)):=by
 obtain⟨X,W,tX,rfl⟩:=ha;obtain⟨Y,hY,tY,rfl⟩:=ar;have lX:=lJ tX rfl;have lY:=lJ tY rfl;have dX:=W.dg;have dY:=hY.dg;obtain⟨A,c,rfl,hc⟩:=W.form;obtain⟨B,d,rfl,hd⟩:=hY.form;clear tX tY;by_cases G:X=[]
 ·subst G;rw[show nv []*nv Y=0 from GB _];go_enter func147,ntmps147;go_wp2;go_ret;exact⟨_,rfl,Mg.zero _ _ _,aG _ _⟩
 ·have qx:((X.length:Int)==0)=false:=by have:=List.length_pos_iff.2 G;simp;omega
  by_cases ac:Y=[]
  ·subst ac;rw[show nv X*nv []=0 from dzM _];clear G;go_enter func147,ntmps147;go_wp2;go_ret;exact⟨_,rfl,Mg.zero _ _ _,aG _ _⟩
  ·have qy:((Y.length:Int)==0)=false:=by have:=List.length_pos_iff.2 ac;simp;omega
   clear G ac;go_enter func147,ntmps147;go_wp2_with (at_make;refine jT rfl rfl 168 _ 1 4 underlying54 oX rfl (by decide) (X.length+Y.length) rfl rfl rfl rfl (by omega) (by omega) ?_;intro w1 au ag ad);have R:=Bx.zeros ag;rw[G5,<-bz1] at R;clear ag au;go_loopg [6] X.length (fun k t wr=>∃(P:List Nat) (i:Nat),Hid (i+k=X.length)∧t= .int .i64 (i:Int)∧Hid (P.length=i+Y.length)∧Dg P∧Hid (nv P=nv (X.take i)*nv Y)∧Bx wr w.1.size (U (P++List.replicate k 0)) 168∧Below w.1.size w wr)
   case atStart=>exact⟨_,0,by unfold Hid;omega,rfl,by unfold Hid;rw[dB];omega,Dg.zeros _,by unfold Hid;rw[NV,bxO];exact(GB _).symm,R,ad⟩
   case round=>
    clear R ad;obtain⟨P,i,J,rfl,l,S,HV,R,g⟩:=hrel;generalize wr=wx at *;have ay:(0:Int)<=(i:Int):=by omega
    cases gk with
    |zero=>
     have hi:i=X.length:=J.out;subst hi;have ae:¬(X.length:Int)<(X.length:Int):=by omega
     rw[F8,fH] at R;have ht:=oW P w.1.size (nv X*nv Y) (X.length+Y.length) wx R S (by rw[HV.out,iN aE]) (by rw[l.out];exact aE) (by rw[l.out];omega);rw[l.out] at ht;go_wp2_with fail;refine ht.mono ?_;rintro e2 w2 ⟨v,rfl,hm,rfl⟩;go_wp2;go_ret;exact⟨_,rfl,hm,g⟩
    |succ k=>
     have ae:i<X.length:=by have:=J.out;omega
     obtain⟨x,F⟩:∃x,X[i]? =some x:=⟨_,aR ae⟩;have aj:=dX.get F;have HX:=aB (iR X i);rw[gG F] at HX;have ao:=aB F;clear F;have af:(P.take i).length=i:=by rw[bK,l.out];omega
     have ai:(P.drop i).length=Y.length:=by rw[eX,l.out];omega
     have ap:=S.take i;have aq:=S.drop i;have ah:=N7 P i;rw[<-List.take_append_drop i P] at R;generalize P.take i=h at *;generalize P.drop i=f at *;have L:=aB af;have u:=aB ai;have am:=aB ah;clear af ai ah;go_wp2_with fail;go_loopg [7,8] Y.length (fun m s t wr=>∃(Z T:List Nat) (e j:Nat),Hid (j+m=Y.length)∧s= .int .u64 (e:Int)∧t= .int .i64 (j:Int)∧e<aD∧Hid (Z.length=j)∧Hid (f.drop j=T)∧Dg Z∧Hid (nv Z+aD^j*e=nv (f.take j)+x*nv (Y.take j))∧Bx wr w.1.size (U ((h++Z)++(T++List.replicate (k+1) 0))) 168∧Below w.1.size w wr)
     case atStart=>exact⟨[],f,0,0,by unfold Hid;omega,rfl,rfl,mV,rfl,rfl,(fun d hd=>by cases hd),by unfold Hid;rw[bxO,bxO];simp[nv],by rw[fH,<-eK];exact R,g⟩
     case round=>
      clear R g;obtain⟨Z,T,e,j,K,rfl,rfl,D,o,M,dZ,N,R,g⟩:=hrel;generalize wr=wy at *;have az:(0:Int)<=(j:Int):=by omega
      have r:Hid ((h++Z).length=i+j):=by unfold Hid;rw[bG,L.out,o.out]
      cases gk with
      |zero=>
       have hj:j=Y.length:=K.out;subst hj;have E:¬(Y.length:Int)<(Y.length:Int):=by omega
       have V:T=[]:=by rw[<-M.out,<-u.out];exact az5
       subst V;rw[iM,dzU] at R;have g0:=R.mid r.out;have f0:=fun n=>R.free n;have hn:=R.next (y:=e) r.out rfl;have hv:nv (h++(Z++[e]))=nv (X.take (i+1))*nv Y:=by
        rw[mF,mE e o.out,L.out,N.out,iN (by rw[u.out];exact aE),iN aE,HX.out,aq3,<-HV.out,am.out,iL,iW,az7]
       have an:=aB hv;clear hv;unfold aD at D;go_wp2;go_roundg k
       case rel=>exact⟨h++(Z++[e]),i+1,by have:=J.out;unfold Hid;omega,by go_num,by unfold Hid;rw[bG,jR o.out,L.out];omega,ap.app (dZ.snoc D),an,(by rw[<-eK];exact hn),g.setCell (p:=⟨w.1.size,i+Y.length,none⟩) aE _⟩
       case measure=>omega
      |succ m=>
       have E:j<Y.length:=by have:=K.out;omega
       obtain⟨y,H⟩:∃y,Y[j]? =some y:=⟨_,aR E⟩;obtain⟨z,I⟩:∃z,f[j]? =some z:=⟨_,aR (by rw[u.out];exact E)⟩;obtain⟨bx,rfl,aw,gx⟩:=(W.be g).at_ ao.out;obtain⟨av,rfl,ax,gy⟩:=(hY.be g).at_ H;have ak:=dY.get H;have al:=aq.get I;have V:T=z :: f.drop (j+1):=by rw[<-M.out];exact(j5 (by rw[u.out];exact E)).trans (by rw[(List.getElem?_eq_some_iff.1 I).2])
       subst V;have O:=aB (iR Y j);have Q:=aB (iR f j);rw[gG H] at O;rw[gG I] at Q;clear H I M;have g0:=R.mid r.out;have f0:=fun n=>R.free n;obtain⟨C,b2⟩:=N9 aj ak D al;have ab:=zI o.out N.out (show e+(x*y+z)=e+(x*y+z) from rfl);rw[show nv (f.take j)+x*nv (Y.take j)+aD^j*(x*y+z)=nv (f.take (j+1))+x*nv (Y.take (j+1)) by rw[O.out,Q.out];grind] at ab;have w1:IntKind.u64.wrap ((x:Int)*y)=((x*y:Nat):Int):=by rw[<-dz5];exact IntWalk.u64_in _ (by unfold aD at C;omega)
       generalize x*y=p at *;have w2:IntKind.u64.wrap ((p:Int)+z)=((p+z:Nat):Int):=by rw[<-Int.natCast_add];exact IntWalk.u64_in _ (by unfold aD at C;omega)
       generalize hq:p+z=q at *;have w3:IntKind.u64.wrap ((e:Int)+q)=((e+q:Nat):Int):=by rw[<-Int.natCast_add];exact IntWalk.u64_in _ (by unfold aD at C;omega)
       have a0:e+q<=18446744073709551615:=by unfold aD at C;omega
       generalize e+q=s at *;have HS:=aB ab;have w4:=IntWalk.i64_in ((i:Int)+j) (by omega);have w5:(0:Int)<=(i:Int)+j:=by omega
       have w6:((i:Int)+j).toNat=i+j:=by omega
       have w7:i+j<X.length+Y.length:=by omega
       clear ab hq N O Q;unfold aD at aj ak al D b2;go_wp2_with fail;go_quiet (fail);go_wp2;go_roundg m
       case rel=>exact⟨Z++[s%aD],f.drop (j+1),s/aD,j+1,by have:=K.out;unfold Hid;omega,vH (by unfold aD;omega),by go_num,b2,jR o.out,rfl,dZ.snoc (dI _ mV),HS,(by
        rw[<-eK h];exact(show Bx (wy.drewN _) _ (U ((h++Z)++z :: (f.drop (j+1)++List.replicate (k+1) 0))) _ from R).next r.out (pW (a:=(s:Int)%4294967296) (b:=s%aD) (by unfold aD;omega))),(eQ g _).setCell (p:=⟨w.1.size,i+j,none⟩) aE _⟩
       case measure=>omega
def pV:Code->List Code
 | .loop c=>[c]
 | .seq a b=>pV a++pV b
 | .block _ c=>pV c
 | .scope c=>pV c
 | .cond _ a b=>pV a++pV b
 |_=>[]
noncomputable def dvBody:Code:=((Tryz.f160.body.map pV).getD []).getD 1 .skip
def vF(S V U N Q:Value)(f:Nat->Value)(J:Value):Act:=⟨#[f 0,f 1,f 2,f 3,f 4,f 5,f 6,f 7,S,V,U,N,f 12,Q,J,f 15,f 16,f 17,f 18,f 19,f 20,f 21,f 22,f 23,f 24,f 25,f 26,f 27,f 28,f 29,f 30,f 31,f 32,f 33,f 34,f 35,f 36,f 37,f 38,f 39,f 40,f 41,f 42,f 43,f 44,f 45,f 46,f 47,f 48,f 49,f 50,f 51,f 52,f 53,f 54,f 55,f 56,f 57,f 58,f 59,f 60,f 61,f 62,f 63,f 64,f 65,f 66,f 67,f 68,f 69,f 70,f 71,f 72,f 73,f 74,f 75,f 76,f 77,f 78,f 79,f 80,f 81,f 82,f 83,f 84,f 85,f 86,f 87,f 88,f 89,f 90,f 91,f 92,f 93,f 94,f 95,f 96,f 97,f 98,f 99,f 100,f 101,f 102,f 103,f 104,f 105,f 106,f 107,f 108,f 109,f 110,f 111,f 112,f 113,f 114,f 115,f 116,f 117,f 118,f 119,f 120,f 121,f 122,f 123,f 124,f 125,f 126,f 127,f 128,f 129,f 130,f 131,f 132,f 133,f 134,f 135,f 136,f 137,f 138,f 139,f 140,f 141,f 142,f 143,f 144,f 145,f 146,f 147,f 148,f 149,f 150,f 151,f 152,f 153,f 154,f 155,f 156,f 157,f 158,f 159,f 160,f 161,f 162,f 163,f 164,f 165,f 166,f 167,f 168,f 169,f 170,f 171,f 172,f 173,f 174,f 175,f 176,f 177,f 178,f 179,f 180,f 181,f 182,f 183,f 184,f 185,f 186,f 187,f 188,f 189,f 190,f 191,f 192,f 193,f 194,f 195,f 196,f 197,f 198,f 199,f 200,f 201,f 202,f 203,f 204,f 205,f 206,f 207,f 208,f 209,f 210,f 211,f 212,f 213,f 214,f 215,f 216,f 217,f 218,f 219,f 220,f 221,f 222,f 223,f 224,f 225,f 226,f 227,f 228,f 229,f 230,f 231,f 232,f 233,f 234,f 235,f 236,f 237,f 238,f 239,f 240,f 241,f 242,f 243,f 244,f 245,f 246,f 247,f 248,f 249,f 250,f 251,f 252,f 253,f 254,f 255,f 256,f 257,f 258,f 259,f 260,f 261,f 262,f 263,f 264,f 265,f 266,f 267,f 268,f 269,f 270,f 271,f 272,f 273,f 274,f 275,f 276,f 277,f 278,f 279,f 280,f 281,f 282,f 283,f 284,f 285,f 286,f 287,f 288,f 289,f 290,f 291,f 292,f 293,f 294,f 295,f 296,f 297,f 298,f 299],[]⟩
def EN(w:World)(e d c n M:Nat)(vs b:List Nat)(k:Nat)(J:Value)(wr:World):Prop:=
 ∃(us a:List Nat) (j:Int) (z:Nat),Hid (j+1=k)∧J= .int .i64 j∧ -1<=j∧j<=M∧Hid (us.length=n+k)∧Hid (z+k=M+1)∧Dg us∧Dg a∧Hid (nv us<nv vs*aD^k)∧Hid (nv us+nv vs*aD^k*nv a=nv b)∧
  Bx wr e (U (vs++[0])) 168∧Bx wr d (U (us++List.replicate z 0)) 168∧Bx wr c (U (List.replicate k 0++a)) 168∧Hid (a.length=z)∧Below w.1.size w wr
def vG(S:Value)(d c b n M a e:Nat):(Nat->Value)->Value->Act:=vF S (.slice (some ⟨d,0,none⟩) n (e+1)) (.slice (some ⟨c,0,none⟩) (a+1) (a+1)) (.int .i64 (n:Int)) (.slice (some ⟨b,0,none⟩) (M+1) (M+1))
def DvI(w:World)(S:Value)(d c b n M:Nat)(vs f:List Nat)(e g:Nat)(k:Nat)(a:Act)(wr:World):Prop:=
 ∃l:List Value,a=⟨l.toArray,[]⟩∧l.length=300∧EN w d c b n M vs f k (l.getD 14 undef) wr∧l.getD 8 undef=S∧l.getD 9 undef= .slice (some ⟨d,0,none⟩) n (g+1)∧l.getD 10 undef= .slice (some ⟨c,0,none⟩) (e+1) (e+1)∧l.getD 11 undef= .int .i64 (n:Int)∧l.getD 13 undef= .slice (some ⟨b,0,none⟩) (M+1) (M+1)
def MU(f:Nat->Value):⟨((List.range 300).map f).toArray,[]⟩=vF (f 8) (f 9) (f 10) (f 11) (f 13) f (f 14):=rfl
def DvI.open_{d b n:Nat}{g j:Nat}(h:DvI w S d c b n M vs e g j k a wr):∃f J,EN w d c b n M vs e k J wr∧a=vG S d c b n M g j f J:=by
 obtain⟨l,rfl,t,u,r,s,o,p,q⟩:=h;refine⟨fun i=>l.getD i undef,_,u,?_⟩;unfold vG;rw[<-r,<-s,<-o,<-p,<-q,<-MU (fun i=>l.getD i undef)];congr 2;refine cz0 (by simp[t]) (fun i m v=> ?_);simp[m]
def MV{I A H n p:Nat}{lx ly:Nat}(HV:Hid (Dvs vs n p))(ce:w.1.size<=I)(cs:I<A)(cr:A<H)(bi:Hid (lx+1=n+(M+1)))(cm:lx<=2199023255552)(co:2<=n)(cl:n<=ly+1)(hM:M<=lx)(k:Nat)(hI:DvI w S I A H n M vs As lx ly (k+1) a wx)
  (JJ:Nat->Act->World->Prop)(K:Act->World->Prop)(Q0:Exit->Act->World->Prop)(hJ:∀k a' w',DvI w S I A H n M vs As lx ly k a' w'->JJ k a' w')(hK:∀a' w',Handed JJ (k+1) a' w'->K a' w'):dvBody.wp prog (Exit.then K Q0) a wx:=by
 obtain⟨f,J,⟨us,rs,j,z,HJ,rfl,cj,ck,bb,HZ,dA,dR,bf,bs,l,e,o,bg,u⟩,rfl⟩:=hI.open_;unfold vG vF;have b4:j=(k:Int):=by have:=HJ.out;omega
 subst b4;have af:=aB HV.out.len;have bh:=aB HV.out.lt;have dV:=HV.out.dg;obtain⟨G,Q,t,u1,u0,E,v0,qt,rt,X,ap,ax,a8,a9,bq,br,bp⟩:=NU HV.out bb.out dA bf.out;have gt:=e.cell (k+n) (kS (X.c2 _));have g1:=e.cell (k+n-1) (kS (X.c1 _));have g0:=e.cell (k+n-2) (kS (X.c0 _));have a6:=l.cell (n-1) (kS X.d1);have a5:=l.cell (n-2) (kS X.d0);obtain⟨w1,w2,w3,w4,w5,w6,w7,w8,w9,b9⟩:IntKind.i64.wrap ((k:Int)+n)=(k:Int)+n∧IntKind.i64.wrap ((k:Int)+n-1)=(k:Int)+n-1∧(0:Int)<=(k:Int)+n-1∧((k:Int)+n-1).toNat=k+n-1∧((k:Int)+n).toNat=k+n∧(0:Int)<=(k:Int)+n∧k+n<lx+1∧k+n-1<lx+1∧IntKind.u64.wrap ((t:Int)*4294967296)=(t:Int)*4294967296∧k+n-2<lx+1:=by
  have:=bi.out;unfold aD at ap;exact⟨IntWalk.i64_in _ (by omega),IntWalk.i64_in _ (by omega),by omega,by omega,by omega,by omega,by omega,by omega,IntWalk.u64_in _ (by omega),by omega⟩
 have aw:=dqJ t u1 ap ax;have B:=aB X;have e1:((t*aD+u1:Nat):Int)/(E:Int)=(((t*aD+u1)/E:Nat):Int):=(dzK _ _).symm;have V:((t*aD+u1:Nat):Int)%(E:Int)=(((t*aD+u1)%E:Nat):Int):=(Z9 _ _).symm;have au:=aB X.first;have ao:=X.first.hi;have ah:(t*aD+u1)%E<aD:=aq7 (dI _ br) a9;have W:t*aD+u1<=18446744073709551615:=by unfold aD at ap ax⊢;omega
 generalize (t*aD+u1)/E=h at *;generalize (t*aD+u1)%E=r at *;generalize t*aD+u1=T at *;unfold aD at ap ax a8 a9 bq bp ao ah;clear X bf bb HV;conv=>arg 2;whnf
 go_wp2_with fail;go_quiet (fail);go_upto_block 4 with fail;go_cut [16,17] from 115 to 150 (fun s cu v=>∃C:Nat,s= .int .u64 (C:Int)∧qt<=C∧C<=qt+1∧C<4294967296∧Bx v I (U (vs++[0])) 168∧Bx v A (U (us++List.replicate z 0)) 168∧Bx v H (U (List.replicate (k+1) 0++rs)) 168∧Below w.1.size w v)
 case first=>
  replace u:=eQ u nq;replace l:Bx (wx.drewN nq) _ _ _:=l;replace e:Bx (wx.drewN nq) _ _ _:=e;replace o:Bx (wx.drewN nq) _ _ _:=o;clear gt g1 g0 a6 a5;generalize wx.drewN nq=wx at *;obtain⟨x1,x2,x3,x4,x5,x6,x7,x8⟩:IntKind.i64.wrap ((n:Int)-2)=(n:Int)-2∧(0:Int)<=(n:Int)-2∧((n:Int)-2).toNat=n-2∧IntKind.i64.wrap ((k:Int)+n-2)=(k:Int)+n-2∧(0:Int)<=(k:Int)+n-2∧((k:Int)+n-2).toNat=k+n-2∧n-2<=n∧n-1<=n:=by
   have:=bi.out;exact⟨IntWalk.i64_in _ (by omega),by omega,by omega,IntWalk.i64_in _ (by omega),by omega,by omega,by omega,by omega⟩
  go_wp2_with fail;go_loopg [16,17] (h-qt) (fun g s t' v=>∃h r:Nat,Hid (h=qt+g)∧s= .int .u64 (h:Int)∧t'= .int .u64 (r:Int)∧Hid (Est t u1 E qt h r)∧r<4294967296∧h<=4294967297∧Bx v I (U (vs++[0])) 168∧Bx v A (U (us++List.replicate z 0)) 168∧Bx v H (U (List.replicate (k+1) 0++rs)) 168∧Below w.1.size w v)
  case atStart=>exact⟨h,r,by have:=au.out.lo;unfold Hid;omega,rfl,by rw[V],au,ah,ao,l,e,o,u⟩
  case round=>
   clear l e o u au ah ao e1 V;obtain⟨h,r,HG,rfl,rfl,HE,ah,ao,l,e,o,u⟩:=hrel;generalize wr=v at *;have g0:=e.cell (k+n-2) (kS (B.out.c0 _));have a6:=l.cell (n-1) (kS B.out.d1);have a5:=l.cell (n-2) (kS B.out.d0);rcases dE 4294967295 h with bz|bz
   ·have q0:decide ((4294967296:Int)<=(h:Int))=true:=by simp;omega
    obtain⟨hE,h1⟩:=B.out.more h r HE.out (.inl (by unfold aD;omega));have ac:=aB hE;clear hE;rcases dE 4294967295 (r+E) with an|an
    ·have q2:decide ((4294967296:Int)<=(r:Int)+E)=true:=by simp;omega
     have O:=B.out.fin _ _ ac.out (.inr (by unfold aD;omega));go_wp2_with fail;go_quiet (fail);go_wp2;go_meet;exact⟨h-1,by go_num,O.1,O.2.1,O.2.2,l,e,o,eQ u _⟩
    ·have q2:decide ((4294967296:Int)<=(r:Int)+E)=false:=by simp;omega
     have q3:r+E<4294967296:=by omega
     obtain⟨g,rfl⟩:∃g,gk=g+1:=⟨gk-1,by have:=HG.out;have:=ac.out.lo;omega⟩;clear an;go_wp2_with fail;go_quiet (fail);go_wp2;go_roundg g
     case rel=>exact⟨h-1,r+E,by have:=HG.out;unfold Hid;omega,by go_num,by go_num,ac,by omega,by omega,l,e,o,eQ u _⟩
     case measure=>omega
   ·have q0:decide ((4294967296:Int)<=(h:Int))=false:=by simp;omega
    have hP:h*v0<=4294967295*4294967295:=C5 (by omega) (by omega);have y1:IntKind.u64.wrap ((h:Int)*v0)=((h*v0:Nat):Int):=by rw[<-dz5];exact IntWalk.u64_in _ (by omega)
    have y2:=dqJ r u0 ah a8;have y3:=IntWalk.u64_in ((r:Int)*4294967296) (by omega);by_cases hc:r*aD+u0<h*v0
    ·have q1:decide (r*aD+u0<h*v0)=true:=by simp;omega
     obtain⟨hE,h1⟩:=B.out.more h r HE.out (.inr hc);have ac:=aB hE;clear hE hc hP;generalize r*aD+u0=R at *;generalize h*v0=P at *;rcases dE 4294967295 (r+E) with an|an
     ·have q2:decide ((4294967296:Int)<=(r:Int)+E)=true:=by simp;omega
      have O:=B.out.fin _ _ ac.out (.inr (by unfold aD;omega));go_wp2_with fail;go_quiet (fail);clear y1 y2 y3 w9 aw;go_wp2;go_meet;exact⟨h-1,by go_num,O.1,O.2.1,O.2.2,l,e,o,eQ u _⟩
     ·have q2:decide ((4294967296:Int)<=(r:Int)+E)=false:=by simp;omega
      have q3:r+E<4294967296:=by omega
      obtain⟨g,rfl⟩:∃g,gk=g+1:=⟨gk-1,by have:=HG.out;have:=ac.out.lo;omega⟩;clear an;go_wp2_with fail;go_quiet (fail);clear y1 y2 y3 w9 aw;go_wp2;go_roundg g
      case rel=>exact⟨h-1,r+E,by have:=HG.out;unfold Hid;omega,by go_num,by go_num,ac,by omega,by omega,l,e,o,eQ u _⟩
      case measure=>omega
    ·have q1:decide (r*aD+u0<h*v0)=false:=by simp;omega
     have O:=B.out.fin h r HE.out (.inl ⟨by unfold aD;omega,by omega⟩);clear hc hP;generalize r*aD+u0=R at *;generalize h*v0=P at *;go_wp2_with fail;go_quiet (fail);clear y1 y2 y3 w9 aw;go_wp2;go_meet;exact⟨h,rfl,O.1,O.2.1,O.2.2,l,e,o,eQ u _⟩
 case rest=>
  obtain⟨C,rfl,b7,b8,bx,l,e,o,u⟩:=hcut;clear au ao ah e1 V aw W w9 gt g1 g0 a6 a5 w1 w2 w3 w4 b9 ax a8 a9 bq br;generalize wx.drewN nq=cv at *;rw[B.out.us_,show G++(Q++[t])++List.replicate z 0=(G++[])++(Q++t :: List.replicate z 0) by simp] at e;have ab:=aB B.out.lo_;have al:=aB B.out.xs_;have bu:=B.out.dxs;go_wp2_with fail
  go_loopg [18,19,20] n (fun m s t' s' v=>∃(Z T:List Nat) (c b i:Nat),Hid (i+m=n)∧s= .int .u64 (c:Int)∧t'= .int .u64 (b:Int)∧s'= .int .i64 (i:Int)∧c<4294967296∧b<=1∧Hid (Z.length=i)∧Hid (Q.drop i=T)∧Dg Z∧Hid (nv (Q.take i)+aD^i*(c+b)=nv Z+C*nv (vs.take i))∧
   Bx v I (U (vs++[0])) 168∧Bx v A (U ((G++Z)++(T++t :: List.replicate z 0))) 168∧Bx v H (U (List.replicate (k+1) 0++rs)) 168∧Below w.1.size w v)
  case atStart=>exact⟨[],Q,0,0,0,by unfold Hid;omega,rfl,rfl,rfl,by omega,by omega,rfl,rfl,(fun d N=>by cases N),by unfold Hid;simp[nv],l,e,o,u⟩
  case round=>
   clear l e o u;obtain⟨Z,T,c,b,i,HI,rfl,rfl,rfl,hc,bn,L,HT,dZ,a1,l,e,o,u⟩:=hrel;generalize wr=v at *;have ch:(0:Int)<=(i:Int):=by omega
   cases gk with
   |succ m=>
    have ag:i<n:=by have:=HI.out;omega
    obtain⟨x,Y⟩:∃x,Q[i]? =some x:=⟨_,aR (by rw[al.out];exact ag)⟩;obtain⟨y,hy⟩:∃y,vs[i]? =some y:=⟨_,aR (by rw[af.out];exact ag)⟩;have ay:=bu.get Y;have ba:=dV.get hy;have HL:Hid ((G++Z).length=i+k):=by unfold Hid;rw[bG,ab.out,L.out];omega
    have W:T=x :: Q.drop (i+1):=by rw[<-HT.out];exact(j5 (by rw[al.out];exact ag)).trans (by rw[(List.getElem?_eq_some_iff.1 Y).2])
    subst W;have gx:=e.mid HL.out;have fx:=fun j=>e.free j;have gy:=l.cell i (kS (by rw[gA (by rw[af.out];exact ag)];exact hy));have ak:=aB (iR Q i);have aj:=aB (iR vs i);rw[gG Y] at ak;rw[gG hy] at aj;clear Y hy HT;unfold aD at ay ba;have hP:C*y<=4294967295*4294967295:=C5 (by omega) (by omega);have y1:IntKind.u64.wrap ((C:Int)*y)=((C*y:Nat):Int):=by rw[<-dz5];exact IntWalk.u64_in _ (by omega)
    have am:∃P,C*y=P:=⟨_,rfl⟩;obtain⟨P,am⟩:=am;rw[am] at y1 hP;have y2:(P:Int)+c=((P+c:Nat):Int):=rfl;have cp:P+c<=18446744073709551615:=by omega
    have b5:(P+c)%4294967296+4294967296*((P+c)/4294967296)=P+c:=azO _ _;have y3:((P+c:Nat):Int)/4294967296=(((P+c)/4294967296:Nat):Int):=(dzK _ _).symm;have y4:bits .and .u64 ((P+c:Nat):Int) 4294967295=(((P+c)%4294967296:Nat):Int):=by rw[bzH _ (by omega) (by unfold aA;omega)];exact(Z9 _ _).symm
    have b0:(P+c)/4294967296<4294967296:=mU (by omega);have cn:(P+c)%4294967296<4294967296:=dI _ (by decide);generalize (P+c)/4294967296=c' at *;generalize (P+c)%4294967296=pm at *;generalize b6:P+c=pp at *;obtain⟨D1,D,r',q',z1,z2,z3,z4,z5,z6,z7,z8,z9⟩:=zE (s:=pm) (t:=b) ay (by omega);have HS:=aB (zJ (x:=r') (p:=C*y) (c:=c'+q') L.out a1.out (show x+aD*(c'+q')=r'+C*y+(c+b) by rw[am];unfold aD at z9⊢;omega));clear z9 b5 am b6;go_wp2;go_roundg m
    case rel=>exact⟨Z++[r'],Q.drop (i+1),c',q',i+1,by have:=HI.out;unfold Hid;omega,rfl,rfl,by go_num,b0,z5,jR L.out,rfl,dZ.snoc (by unfold aD;exact z6),by unfold Hid;rw[ak.out,aj.out,iL C,Nat.mul_left_comm C];exact HS.out,l.far _ _ (by omega),by rw[<-eK G];exact e.next HL.out rfl,o.far _ _ (by omega),u.setCell (p:=⟨A,i+k,none⟩) (show w.1.size<=A by omega) _⟩
    case measure=>omega
   |zero=>
    have ag:i=n:=HI.out;subst ag;have b3:¬(i:Int)<(i:Int):=by omega
    have W:T=[]:=by rw[<-HT.out,<-al.out];exact az5
    subst W;rw[iM] at e;have HL:Hid ((G++Z).length=k+i):=by unfold Hid;rw[bG,ab.out,L.out]
    have a7:=a1.out;rw[iN (by rw[al.out];exact aE),iN (by rw[af.out];exact aE)] at a7;have hZ:nv Z<aD^i:=by have:=nO dZ;rwa [L.out] at this
    have b2:=ND (X:=nv Q) (t:=t) (h:=C) (k:=c+b) rfl B.out.u_.symm B.out.r_ bh.out b7 b8 a7 hZ;obtain⟨td,tD,k1,k2,k3,k4,k5⟩:=N5 (t:=t) (c:=c) (b:=b) ap (by omega) bn;have bw:=e.mid HL.out;have bv:=fun j=>e.free j;have bk:=o.last;have bj:=fun j=>o.free j;have a4:=B.out.dlo;have aq:Hid (∀R:List Nat,R.length=i->nv R=rt->nv (G++R)<nv vs*aD^k∧nv (G++R)+nv vs*aD^k*nv (qt :: rs)=nv As):=fun R cb bm=>⟨NF a4 ab.out (by rw[bm];exact B.out.r_),NE ab.out al.out B.out.u_ bm (by rw[<-B.out.us_];exact bs.out)⟩;clear a7 a1 HT;rcases b2 with ⟨e1,V,e3⟩|⟨e1,V,e3⟩
    ·have k6:IntKind.u64.wrap ((td:Int)-b)=0:=by rw[k2,k4 V];rfl
     have F:=aB (aq.out Z L.out e3);subst e1;clear k2 k4 k5 V e3 aq;go_wp2_with fail;refine Handed.intro k (OB k) (hJ _ _ _ ⟨_,rfl,rfl,⟨G++Z,C :: rs,(k:Int)-1,z+1,by unfold Hid;omega,rfl,by omega,by omega,by unfold Hid;rw[bG,ab.out,L.out];omega,by have:=HZ.out;unfold Hid;omega,a4.app dZ,?_,F.out.1,F.out.2,(l.far _ _ (show A≠I by omega)).far _ _ (show H≠I by omega),?_,(o.far _ _ (by omega)).prev rfl,by unfold Hid;rw[eG,bg.out],(u.setCell (p:=⟨A,k+i,none⟩) (show w.1.size<=A by omega) _).setCell (p:=⟨H,k,none⟩) (show w.1.size<=H by omega) _⟩,rfl,rfl,rfl,rfl,rfl⟩)
     ·intro d N;rcases List.mem_cons.1 N with rfl|N
      ·exact bx
      ·exact dR d N
     ·rw[dzU,<-List.singleton_append,<-eK];exact(e.next (y:=0) HL.out rfl).far _ _ (by omega)
    ·have k6:IntKind.u64.wrap ((td:Int)-b)=18446744073709551615:=by rw[k2,k5 V];rfl
     have bc:=aB e3;have cg:1<=C:=by omega
     have a2:=e.next (y:=4294967295) HL.out rfl;have ca:=aB hZ;have HQ:=aB e1;clear k2 k4 k5 e1 V e3 hZ bk bj;go_wp2_with fail;rw[show G++Z++[4294967295]++List.replicate z 0=(G++[])++(Z++4294967295 :: List.replicate z 0) by simp] at a2
     go_loopg [18,24] i (fun m s t' v=>∃(R T:List Nat) (c q:Nat),Hid (q+m=i)∧s= .int .u64 (c:Int)∧t'= .int .i64 (q:Int)∧c<=1∧Hid (R.length=q)∧Hid (Z.drop q=T)∧Dg R∧Hid (nv R+aD^q*c=nv (Z.take q)+nv (vs.take q))∧
      Bx v I (U (vs++[0])) 168∧Bx v A (U ((G++R)++(T++4294967295 :: List.replicate z 0))) 168∧Bx v H (U (List.replicate (k+1) 0++rs)) 168∧Below w.1.size w v)
     case atStart=>exact⟨[],Z,0,0,by unfold Hid;omega,rfl,rfl,by omega,rfl,rfl,(fun d N=>by cases N),by unfold Hid;simp[nv],l.far _ _ (by omega),a2,o.far _ _ (by omega),u.setCell (p:=⟨A,k+i,none⟩) (show w.1.size<=A by omega) _⟩
     case round=>
      clear l e a2 o u bw bv b3 k1 k3 k6 bn;obtain⟨R,T,c,q,a0,rfl,rfl,cc,ad,ar,a3,az,l,e,o,u⟩:=hrel;generalize wr=wz at *;have cq:(0:Int)<=(q:Int):=by omega
      cases gk with
      |succ m=>
       have ae:q<i:=by have:=a0.out;omega
       obtain⟨x,Y⟩:∃x,Z[q]? =some x:=⟨_,aR (by rw[L.out];exact ae)⟩;obtain⟨y,hy⟩:∃y,vs[q]? =some y:=⟨_,aR (by rw[af.out];exact ae)⟩;have ay:=dZ.get Y;have ba:=dV.get hy;have ai:Hid ((G++R).length=q+k):=by unfold Hid;rw[bG,ab.out,ad.out];omega
       have W:T=x :: Z.drop (q+1):=by rw[<-ar.out];exact(j5 (by rw[L.out];exact ae)).trans (by rw[(List.getElem?_eq_some_iff.1 Y).2])
       subst W;have gx:=e.mid ai.out;have fx:=fun j=>e.free j;have gy:=l.cell q (kS (by rw[gA (by rw[af.out];exact ae)];exact hy));have ak:=aB (iR Z q);have aj:=aB (iR vs q);rw[gG Y] at ak;rw[gG hy] at aj;have HS:=aB (zI ad.out az.out (show c+(x+y)=c+(x+y) from rfl));clear Y hy ar;unfold aD at ay ba;have y1:IntKind.u64.wrap ((x:Int)+y)=((x+y:Nat):Int):=IntWalk.u64_in _ (by omega);have ct:x+y<=8589934590:=by omega
       generalize hX:x+y=X at *;have y2:IntKind.u64.wrap ((c:Int)+X)=((c+X:Nat):Int):=IntWalk.u64_in _ (by omega);have cd:c+X<=8589934591:=by omega
       have bt:=aB hX;clear hX;generalize c+X=s at *;obtain⟨x1,x2,x3,x4⟩:IntKind.i64.wrap ((q:Int)+k)=(q:Int)+k∧(0:Int)<=(q:Int)+k∧((q:Int)+k).toNat=q+k∧q+k<lx+1:=⟨IntWalk.i64_in _ (by omega),by omega,by omega,by omega⟩;go_wp2_with fail;go_quiet (fail);clear y1 y2;go_wp2;go_roundg m
       case rel=>exact⟨R++[s%aD],Z.drop (q+1),s/aD,q+1,by have:=a0.out;unfold Hid;omega,vH (by unfold aD;omega),by go_num,by unfold aD;omega,jR ad.out,rfl,a3.snoc (dI _ mV),(by unfold Hid;rw[ak.out,aj.out,HS.out,<-bt.out,iL];omega),(show Bx (wz.drewN _) _ _ _ from l).far _ _ (by omega),by rw[<-eK G];exact(show Bx (wz.drewN _) _ (U ((G++R)++x :: (Z.drop (q+1)++4294967295 :: List.replicate z 0))) _ from e).next ai.out (pW (a:=(s:Int)%4294967296) (b:=s%aD) (by unfold aD;omega)),(show Bx (wz.drewN _) _ _ _ from o).far _ _ (by omega),(eQ u _).setCell (p:=⟨A,q+k,none⟩) (show w.1.size<=A by omega) _⟩
       case measure=>omega
      |zero=>
       have ae:q=i:=a0.out;subst ae;have ci:¬(q:Int)<(q:Int):=by omega
       have W:T=[]:=by rw[<-ar.out,<-L.out];exact az5
       subst W;rw[iM] at e;have ai:Hid ((G++R).length=k+q):=by unfold Hid;rw[bG,ab.out,ad.out]
       have av:=az.out;rw[iN (by rw[L.out];exact aE),iN (by rw[af.out];exact aE),bc.out] at av;have hR:nv R<aD^q:=by have:=nO a3;rwa [ad.out] at this
       have hr:=B.out.r_;have hV:=bh.out;obtain⟨b1,bo⟩:c=1∧nv R=rt:=by
        rcases(show c=0∨c=1 by omega) with rfl|rfl
        ·rw[dzM] at av;omega
        ·rw[o9] at av;omega
       subst b1;have F:=aB (aq.out R ad.out bo);have gx:=e.mid ai.out;have fx:=fun j=>e.free j;have bk:=o.last;have bj:=fun j=>o.free j;have hq:C-1=qt:=by have:=HQ.out;omega
       have ae:((C:Int)-1)=(qt:Int):=by omega
       clear av hR hr hV bo az ar aq bc;go_wp2_with fail;refine Handed.intro k (OB k) (hJ _ _ _ ⟨_,rfl,rfl,⟨G++R,qt :: rs,(k:Int)-1,z+1,by unfold Hid;omega,rfl,by omega,by omega,by unfold Hid;rw[bG,ab.out,ad.out];omega,by have:=HZ.out;unfold Hid;omega,a4.app a3,?_,F.out.1,F.out.2,(l.far _ _ (show A≠I by omega)).far _ _ (show H≠I by omega),?_,(o.far _ _ (by omega)).prev rfl,by unfold Hid;rw[eG,bg.out],(u.setCell (p:=⟨A,k+q,none⟩) (show w.1.size<=A by omega) _).setCell (p:=⟨H,k,none⟩) (show w.1.size<=H by omega) _⟩,rfl,rfl,rfl,rfl,rfl⟩)
       ·intro d N;rcases List.mem_cons.1 N with rfl|N
        ·exact bp
        ·exact dR d N
       ·rw[dzU,<-List.singleton_append,<-eK];exact(e.next (y:=0) ai.out rfl).far _ _ (by omega)
def yZ(w:World)(a b:Nat)(e:Ending)(w':World):Prop:=∃v u,e= .returned (.tuple #[v,u])∧Mg w' v (a/b)∧Mg w' u (a%b)∧Below w.1.size w w'
def EM(a b:Nat)(va vb:Value)(w:World)(ha:Mg w va a)(ax:Mg w vb b)(la:nl a<=1099511627776)(lb:nl b<=1099511627776)(h0:0<b):
  Calls prog 160 #[va,vb] w (yZ w a b):=by
 have ac:=EV a b va vb w ha ax la lb;by_cases ad:a<b
 ·rw[jL (by omega)] at ac;obtain⟨X,hX,tX,E⟩:=ha;have lX:=lJ tX E;have dX:=hX.dg;obtain⟨A,c,rfl,hc⟩:=hX.form;obtain⟨Y,R,tY,v⟩:=ax;obtain⟨B,d,rfl,hd⟩:=R.form;have HQ:Hid (a/b=0∧a%b=a):=⟨BA ad,jJ ad⟩;clear R tY v ad;go_enter func160,ntmps160;go_wp2_with fail;refine ac.mono ?_;rintro e1 u ⟨rfl,g⟩;have G:Below u.1.size u (u.alloc (.cells #[] 168)):=(aG _ _).alloc aE _;have b8:=((hX.be g).be G).src;have b6:=bzF u 168 1;have bx:=aC g G;go_wp2_with (at_builtin;refine gM rfl rfl 168 _ 1 4 underlying54 oX rfl (by decide) u.1.size (.slice (some ⟨u.1.size,0,none⟩) 0 0) 0 [] rfl b6 (U X) rfl (by rw[MZ,o9]) b8 (N4 _) (by omega) (by omega) (by simp) ?_;intro v2 I bk bz ch);rw[iM] at bk;have hm:=Ds.row bk (bA _).symm dX;go_ret2;exact⟨_,_,rfl,by rw[HQ.out.1];exact Mg.zero _ _ _,by rw[HQ.out.2];exact⟨X,hm,tX,E⟩,bx.grown bz (by have:=g.size;simp;omega) (by simp[Value.ownBlock];exact g.size)⟩
 ·obtain⟨c0,ci,HC⟩:∃c0,¬c0<0∧bZ a b=c0:=⟨_,by rcases kJ (a:Int) b with ⟨h,_⟩|⟨_,e⟩|⟨_,e⟩<;>omega,rfl⟩;rw[HC] at ac;clear HC;obtain⟨Y,R,tY,v⟩:=id ax;have lY:=lJ tY v;obtain⟨B,d,rfl,hd⟩:=R.form;by_cases o:Y.length=1
  ·have q1:((Y.length:Int)==1)=true:=by rw[o];rfl
   obtain⟨y,rfl⟩:∃y,Y=[y]:=List.length_eq_one_iff.1 o;have cb:y=b:=by rw[<-v];simp[nv]
   subst cb;have ab:y<aD:=R.dg y (List.mem_singleton.2 rfl);unfold aD at ab;obtain⟨A,_,_,rfl⟩:=ha.form;simp only[iJ] at ac;clear ad o v tY;obtain⟨gy,rfl,ay,af⟩:=R.at_ (i:=0) (d:=y) rfl;have ah:=fun (W:World) (D:Below w.1.size w W)=>(D.cell (p:=⟨gy,0,none⟩) ay).trans af;go_enter func160,ntmps160;go_wp2_with fail;refine ac.mono ?_;rintro e1 u ⟨rfl,g⟩;have au:=ah u g;clear af ah;go_wp2_with fail;refine(EP a y _ u (ha.be g) la h0 ab).mono ?_;rintro e2 I ⟨v2,rfl,a0, -,ag⟩;have hr:a%y<aD:=by have:=dI a h0;unfold aD;omega
   have G:Below I.1.size I (I.alloc (.cells #[.int .u32 ((a%y:Nat):Int)] 168)):=(aG _ _).alloc aE _;have hB:Bx (I.alloc (.cells #[.int .u32 ((a%y:Nat):Int)] 168)) I.1.size (U [a%y]) 168:=Bx.new _ _ _;replace a0:=a0.be G;have D:=(aC g ag).trans (G.mono (aC g ag).size);have O:=oW [a%y] I.1.size (a%y) 1 _ hB (fun z hz=>by rw[List.mem_singleton.1 hz];exact hr) (by simp[nv]) aE (by simp);simp only[iJ] at O;clear hr;generalize hr:a%y=r at *;generalize hq:a/y=q at *;have HR:=aB (And.intro hq hr);clear hr hq;go_wp2_with fail;refine O.mono ?_;rintro e3 w3 ⟨v3,rfl,b4,rfl⟩;go_wp2;go_ret2;exact⟨_,_,rfl,by rw[HR.out.1];exact a0,by rw[HR.out.2];exact b4,D⟩
  ·have q1:((Y.length:Int)==1)=false:=by simp;omega
   obtain⟨X,hX,tX,E⟩:=ha;have lX:=lJ tX E;have dY:=R.dg;obtain⟨A,c,rfl,hc⟩:=hX.form;obtain⟨p,n,hp,hn,HN⟩:∃p n,Y.length=p+1+1∧2<=n∧Hid (n=p+1+1):=by
    have:Y.length≠0:=fun e=>by
     rw[bX e] at v;have:nv []=0:=rfl;omega
    exact⟨Y.length-2,Y.length,by omega,by omega,(show Y.length=_ by omega)⟩
   have cg:Y.length<=X.length:=by
    rcases dE X.length Y.length with h|h
    ·have:=vI hX.dg tY h;omega
    ·exact h
   obtain⟨y,aj⟩:∃y,Y[p+1]? =some y:=⟨_,aR (by omega)⟩;have ca:y≠0:=tY y (by rw[aqN,hp];exact aj);have ab:=dY.get aj;obtain⟨S,cc,s1,s2⟩:=NP ca ab;have HY:=aB (fun Z (dZ:Dg Z) (H:Z.length=p+1+2) (hv:nv Z=2^S*nv Y)=>NL dY dZ hp H (gG aj) s1 s2 cc hv);obtain⟨gy,rfl,ay,af⟩:=R.at_ aj;have ah:=fun (W:World) (D:Below w.1.size w W)=>(D.cell (p:=⟨gy,p+1,none⟩) ay).trans af;have HS:=aB (And.intro s1 s2);have HP:=aB hp;have aq:=aB (And.intro E v);have cd:=aB ad;unfold aD at ab;have cp:p+1<Y.length:=by omega
   clear aj af s1 s2 hp E v ad o;go_enter func160,ntmps160;go_wp2_with fail;refine ac.mono ?_;rintro e1 u ⟨rfl,g⟩;have au:=ah u g;clear ah;go_wp2_with fail;go_loopg [8] S (fun k t wr=>∃s,Hid (s+k=S)∧t= .int .u64 (s:Int)∧u=wr)
   case atStart=>exact⟨0,by unfold Hid;omega,rfl,rfl⟩
   case round=>
    obtain⟨s,HJ,rfl,rfl⟩:=hrel;have ai:s<32:=by have:=HJ.out;omega
    have b3:y*2^s<=y*2^S:=eV _ (cO (by decide) (by have:=HJ.out;omega));have hw:IntKind.u32.wrap ((y:Int)*2^s)=((y*2^s:Nat):Int):=by
     have:=HS.out.2;rw[show((y:Int)*2^s)=((y*2^s:Nat):Int) by rw[dz5,O9];rfl];exact IntWalk.u32_in _ (by omega)
    have b2:((Y.length:Int)-1)=((p+1:Nat):Int):=by have:=HP.out;omega
    cases gk with
    |zero=>
     have b7:s=S:=HJ.out;subst b7;have q2:¬((y*2^s:Nat):Int)<2147483648:=by have:=HS.out.1;omega
     generalize y*2^s=yy at *;clear b3;go_wp2_with fail;refine(EQ Y _ s u (R.be g) (by omega) ai).mono ?_;rintro e2 I ⟨rfl,Z,H,aw,dZ,bi,ag⟩;obtain⟨vs,bg,bh,an,dV,bf,a2,bc⟩:=HY.out Z dZ (by rw[aw,HP.out]) bi;have O:=zA Z _ (Y.length+1) I (Ds.own (es:=[]) (by rw[fH];exact H) dZ _ (by omega)) (by omega);rw[aw,bh,an,<-HN.out] at O;rw[bg] at H;have ap:=aB bf;have b0:=g.size;have cs:=H.lt;replace g:=aC g ag;clear aw dZ bi bg bh bf HY au;go_wp2_with fail;refine O.mono ?_;rintro e3 w3 ⟨rfl,rfl⟩;go_wp2_with fail;refine(EQ X _ s I (hX.be g) (by omega) ai).mono ?_;rintro e4 w4 ⟨rfl,As,G,ba,dA,av,al⟩;replace H:=H.be al;have cj:=al.size;have cr:=G.lt;replace g:=aC g al;obtain⟨M,hM⟩:∃M,X.length=M+Y.length:=⟨X.length-Y.length,by omega⟩;have ce:((X.length:Int)+1)-(n:Int)=(M:Int)+1:=by have:=HP.out;have:=HN.out;omega
     have HM:=aB hM;have bw:M<=X.length:=by omega
     clear hM;clear O;go_wp2_with (at_make;refine jT rfl rfl 168 _ 1 4 underlying54 oX rfl (by decide) (M+1) rfl rfl rfl rfl (by omega) (by omega) ?_;intro w5 cu bm am);have Q:=Bx.zeros bm;replace G:=G.be am;replace H:=H.be am;replace g:=aC g am;have ae:=exQ (M:=M) hX.dg an (by rw[HM.out,HP.out]) a2 ai;rw[<-av] at ae;have bu:=aB ae;have bs:=aB av;have bb:As.length=n+(M+1):=by rw[ba,HM.out,HP.out,HN.out];omega
     have br:=aB bb;have HV:Hid (Dvs vs n p):=⟨HN.out,by rw[an,HN.out],dV,a2,by rw[HN.out];exact bc⟩;have a8:Hid (X.length+1=n+(M+1)):=by unfold Hid;rw[HM.out,HP.out,HN.out];omega
     have b5:n<=Y.length+1:=by have:=HP.out;have:=HN.out;omega
     have cq:Hid (2^s*nv Y=nv vs):=ap.out.symm;clear bm am al ag ae av ba bb an a2 bc ac b2;generalize u.1.size=gv at *;generalize I.1.size=C at *;generalize w4.1.size=gq at *;go_wp2_with fail;refine wp_loop_ghost_k (DvI w (.int .u64 (s:Int)) gv C gq n M vs As X.length Y.length) (M+1) ⟨_,rfl,rfl,⟨As,[],(M:Int),0,by unfold Hid;omega,rfl,by omega,by omega,br.out,by unfold Hid;omega,dA,(fun d hd=>by cases hd),bu.out,by unfold Hid;rw[rB,dzM,gQ],H,by rw[F8,fH];exact G,by rw[fH];exact Q,rfl,g⟩,rfl,rfl,rfl,rfl,rfl⟩ ?_;intro gk a' wr hI JJ K hJ hK;clear H G Q g dA;cases gk with
     |succ k=>exact MV HV b0 (by omega) (by omega) a8 (by omega) hn b5 bw k hI JJ K _ hJ hK
     |zero=>
      clear hJ hK;obtain⟨f,J,⟨us,rs,j,z,a4,rfl,cm,cn,a6,HZ,dU,dR,a5,a3,VX,N,QX,ao,D⟩,rfl⟩:=hI.open_;unfold vG vF;have cl:¬0<=j:=by have:=a4.out;omega
      have hz:z=M+1:=HZ.out;subst hz;have bn:us.length=n:=a6.out
      obtain⟨hq,hr⟩:nv rs=a/b∧nv us=2^s*(a%b):=NT h0 (by
       have o:=a3.out;rw[dzT,o9,ap.out,bs.out,aq.out.1,aq.out.2] at o;exact o) (by
       have o:=a5.out;rw[dzT,o9,ap.out,aq.out.2] at o;exact o)
      have co:n<=X.length+1:=by have:=a8.out;omega
      have O:=zA us _ (X.length+1) wr (Ds.own N dU _ (by omega)) (by omega);rw[bn] at O;obtain⟨tl,bo, -, -⟩:=pZ aV us;have a9:=dU.trim;have a1:=EZ us;rw[hr] at a1;have bv:=oY aV us;rw[bn] at bv;generalize aW aV us=m at *;rw[bo,eK] at N;generalize tl++List.replicate (M+1) 0=bp at *;have HQ:=aB hq;have bt:=aB a1;clear hq hr bo a1 a3 a5 a6 a4 HZ dU;go_wp2_with fail;refine O.mono ?_;rintro e6 w6 ⟨rfl,rfl⟩;clear O;go_wp2_with fail
      go_loopg [26] m.length (fun k t wy=>∃(P T:List Nat) (i:Nat),Hid (i+k=m.length)∧t= .int .i64 (i:Int)∧Hid (P.length=i)∧Hid (m.drop i=T)∧Dg P∧Hid (2^s*nv P+cB m 0%2^s=nv (m.take i)+aD^i*(cB m i%2^s))∧
       Bx wy C (U (P++(T++bp))) 168∧Bx wy gq (U (List.replicate 0 0++rs)) 168∧Below w.1.size w wy)
      case atStart=>exact⟨[],m,0,by unfold Hid;omega,rfl,rfl,rfl,(fun d hd=>by cases hd),by unfold Hid;rw[bxO,rB,dzM,dzT,bxT],N,QX,D⟩
      case round=>
       clear N VX QX D;obtain⟨P,T,i,HI,rfl,F,HT,dP,a7,N,QX,D⟩:=hrel;generalize wr=wy at *;have ck:(0:Int)<=(i:Int):=by omega
       cases gk with
       |zero=>
        have hi:i=m.length:=HI.out;subst hi;have az:¬(m.length:Int)<(m.length:Int):=by omega
        have hT:T=[]:=by rw[<-HT.out];exact az5
        subst hT;rw[iM] at N;rw[F8,iM] at QX
        have hv:nv P=a%b:=NS (r:=cB m 0) (by
         have o:=a7.out;rw[iN aE,rA aE,Nat.zero_mod,dzM,gQ] at o;exact o) bt.out
        have t1:=oW rs gq (a/b) (M+1) wy QX dR HQ.out (by rw[ao.out];exact aE) (by rw[ao.out];omega);have t2:=ET P bp C (a%b) (X.length+1) wy N dP hv (by rw[F.out];omega) (by rw[F.out];omega);rw[ao.out] at t1;rw[F.out] at t2;go_wp2_with fail;refine t1.mono ?_;rintro e7 w7 ⟨v7,rfl,m7,rfl⟩;go_wp2_with fail;refine t2.mono ?_;rintro e8 w8 ⟨v8,rfl,m8,rfl⟩;go_wp2;go_ret2;exact⟨_,_,rfl,m7,m8,D⟩
       |succ k=>
        have az:i<m.length:=by have:=HI.out;omega
        obtain⟨x,E⟩:∃x,m[i]? =some x:=⟨_,aR az⟩;have bq:=a9.get E;have hT:T=x :: m.drop (i+1):=by rw[<-HT.out];exact(j5 az).trans (by rw[(List.getElem?_eq_some_iff.1 E).2])
        subst hT;have b9:2^s*nv P+cB m 0%2^s=nv (m.take i)+aD^i*(x%2^s):=by have:=a7.out;rw[gG E] at this;exact this
        have ae:=fun y=>aB (NR (y:=y) ai F.out b9);have HX:=aB (iR m i);rw[gG E] at HX;clear E HT;have gx:=N.mid F.out;have fx:=fun j=>N.free j;have U1:=N.next (y:=x/2^s) F.out rfl;have y1:(x:Int)/2^s=((x/2^s:Nat):Int):=by rw[dzK,O9];rfl
        have ct:x/2^s<=x:=pQ _ _;unfold aD at bq;by_cases bj:i+1<m.length
        ·obtain⟨y,v⟩:∃y,m[i+1]? =some y:=⟨_,aR bj⟩;have ab:=a9.get v;have hT:m.drop (i+1)=y :: m.drop (i+2):=(j5 bj).trans (by rw[(List.getElem?_eq_some_iff.1 v).2]);have HT:=aB hT;rw[hT] at U1;have gz:=U1.cell i (kS (by rw[eK];exact zH F.out));have au:=U1.mid (jR F.out);have fz:=fun j=>U1.free j;unfold aD at ab;have ar:cB m (i+1)=y:=gG v;have b1:(i:Int)+1<(m.length:Int):=by omega
         replace ar:=aB ar;obtain⟨V,L,k1,k2,k3,k4,k5,k6⟩:=MX ai bq ab;have ak:=ae y;rw[<-k5] at ak;have k7:=IntWalk.i64_in ((i:Int)+1) (by omega);have k8:(0:Int)<=(i:Int)+1:=by omega
         have k9:((i:Int)+1).toNat=i+1:=by omega
         have U2:=U1;rw[eK] at U2;have U3:=U2.next (y:=x/2^s+L) F.out rfl;clear v hT k5;generalize x/2^s=xq at *;go_wp2_with fail;go_region
         all_goals (
          go_wp2;go_roundg k
          case rel=>exact⟨P++[xq+L],m.drop (i+1),i+1,by have:=HI.out;unfold Hid;omega,by go_num,jR F.out,rfl,dP.snoc (by unfold aD;omega),(by
           unfold Hid;rw[HX.out,ar.out];exact ak.out),(by rw[HT.out];exact U3),(QX.far _ _ (show C≠gq by omega)).far _ _ (show C≠gq by omega),((D.setCell (p:=⟨C,i,none⟩) (show w.1.size<=C by omega) _).setCell (p:=⟨C,i,none⟩) (show w.1.size<=C by omega) _).drew⟩
          case measure=>omega)
        ·have b1:¬(i:Int)+1<(m.length:Int):=by omega
         have ak:=ae 0;generalize x/2^s=xq at *;go_wp2;go_roundg k
         case rel=>exact⟨P++[xq],m.drop (i+1),i+1,by have:=HI.out;unfold Hid;omega,by go_num,jR F.out,rfl,dP.snoc (by unfold aD;omega),by
          unfold Hid;rw[HX.out,rA (l:=m) (i:=i+1) (by omega)];have:=ak.out;rw[Nat.zero_mod,dzM,gQ,dzM,gQ] at this;rw[Nat.zero_mod,dzM,gQ];exact this,U1,QX.far _ _ (show C≠gq by omega),D.setCell (p:=⟨C,i,none⟩) (show w.1.size<=C by omega) _⟩
         case measure=>omega
    |succ k=>
     have q2:((y*2^s:Nat):Int)<2147483648:=by
      have o:=HS.out.2;have h2:y*2^(s+1)<=y*2^S:=eV _ (cO (by decide) (by have:=HJ.out;omega));rw[dH] at h2;have h3:y*(2^s*2)=y*2^s*2:=by rw[iW]
      omega
     generalize y*2^s=yy at *;go_wp2;go_roundg k
     case rel=>exact⟨s+1,by have:=HJ.out;unfold Hid;omega,by go_num,rfl⟩
     case measure=>omega
def NI(w:World)(v:Value)(n:Int):Prop:=∃u,v= .agg #[.bool (decide (n<0)),u]∧Mg w u n.natAbs
def nN(w:World)(n:Int)(e:Ending)(w':World):Prop:=∃v,e= .returned v∧NI w' v n∧Below w.1.size w w'
section
variable {w w':World}{v u:Value}{n:Int}{s:Bool}
def NI.be(h:NI w v n)(a:Below w.1.size w w'):NI w' v n:=by
 obtain⟨u,e,h⟩:=h;exact⟨u,e,h.be a⟩
def NI.ke(h:NI w v n)(a:KM w w'):NI w' v n:=by
 obtain⟨u,e,h⟩:=h;exact⟨u,e,h.ke a⟩
def NI.drew(h:NI w v n):NI w.drew v n:=h.be (aG _ _).drew
def NI.form(h:NI w v n):∃s A k c,v= .agg #[.bool s,.slice A k c]:=by
 obtain⟨u,rfl,h⟩:=h;obtain⟨A,k,c,rfl⟩:=h.form;exact⟨_,A,k,c,rfl⟩
def NI.words(h:NI w (.agg #[.bool s,u]) n):Mg w u n.natAbs:=by
 obtain⟨u,e,h⟩:=h;simp at e;rw[e.2];exact h
def NI.neg(h:NI w (.agg #[.bool s,u]) n):s=decide (n<0):=by
 obtain⟨u,e,h⟩:=h;simp at e;exact e.1
def NI.zero(w:World):NI w (.agg #[.bool false,.slice none 0 0]) 0:=⟨_,rfl,Mg.zero _ _ _⟩
def Mg.len{m:Nat}(h:Mg w (.slice A k c) m):(k=0↔m=0)∧k<=2*nl m:=by
 obtain⟨i,d,b,a⟩:=h;obtain⟨f,g,e,_⟩:=d.form;simp only[Value.slice.injEq] at e;obtain⟨_,rfl,_⟩:=e;refine⟨⟨fun h=> ?_,fun h=> ?_⟩,lJ b a⟩
 ·rw[bX h] at a;exact a.symm
 ·rw[NX b (a.trans h)];rfl
end
def pU(s:Bool)(u:Value)(m:Nat)(n:Int)(w:World)(g:Mg w u m)(q:nl m<=1099511627776)(hn:n.natAbs=m)(f:(s=true∧m≠0)↔n<0):
  Calls prog 146 #[.bool s,u] w (nN w n):=by
 obtain⟨A,k,c,rfl⟩:=g.form;obtain⟨o,p⟩:=g.len;have a:Below w.1.size w (w.alloc (.cells #[.bool (decide (n<0)),.slice A k c] 56)):=(aG _ _).alloc aE _;have h:=aB hn;clear hn;by_cases d:s=true∧m≠0
 ·have b:decide (n<0)=true:=by simpa using f.1 d
  have e:NI (w.alloc (.cells #[.bool (decide (n<0)),.slice A k c] 56)) (.agg #[.bool (decide (n<0)),.slice A k c]) n:=⟨_,rfl,by rw[h.out];exact g.be a⟩;rw[b] at e a;obtain⟨rfl,l⟩:=d;have j:decide (0<k)=true:=by simp;omega
  clear f b;go_enter func146,ntmps146;go_wp2_with fail;exact aM (v:= .agg #[.bool true,.slice A k c]) (by simp[results,results146,go_sem]) rfl ⟨_,rfl,e,a⟩
 ·have b:decide (n<0)=false:=by rw[jA,<-f];exact d
  have e:NI (w.alloc (.cells #[.bool (decide (n<0)),.slice A k c] 56)) (.agg #[.bool (decide (n<0)),.slice A k c]) n:=⟨_,rfl,by rw[h.out];exact g.be a⟩;rw[b] at e a;have i:s=false∨s=true∧decide (0<k)=false:=by
   cases s with
   |false=>exact .inl rfl
   |true=>exact .inr ⟨rfl,by have:m=0:=by simpa using d
                             simp;omega⟩
  clear f b d;rcases i with rfl|⟨rfl,j⟩
  all_goals (
   go_enter func146,ntmps146;go_wp2_with fail;exact aM (v:= .agg #[.bool false,.slice A k c]) (by simp[results,results146,go_sem]) rfl ⟨_,rfl,e,a⟩)
def EJ(n:Nat)(w:World)(hn:n<=1000000):
  Calls prog 116 #[.int .i64 (n:Int)] w (nN w n):=by
 have D:¬((n:Int)<0):=by omega
 have E:(n:Int)/4294967296=0:=by omega
 have F:(n:Int)%4294967296=n:=by omega
 obtain⟨W,h,a,R⟩:=bI w [.bool false,.slice none 0 0] 56;have c:=R.g2;go_enter func116,ntmps116;go_wp2_with fail;(try rw[h]);clear h;obtain⟨x,g,j,B⟩:=bI W [.int .u32 (n:Int),.int .u32 0] 168;rw[g];clear g;have l:=oW [n,0] W.1.size n 2 x B (fun d q=>by simp at q;unfold aD;omega) (by simp[nv]) aE (by simp);simp only[eG,byZ] at l;refine l.mono ?_;rintro z H ⟨v,rfl,t,rfl⟩;replace R:=R.be j;replace c:=R.g2;replace a:=aC a j;go_wp2_with fail;refine(pU false v n n _ t (aH (cJ (m:=1) (by unfold BN;omega)) (by decide)) rfl (by simp)).mono ?_;rintro A I ⟨G,rfl,b,k⟩;obtain⟨p,e,o,f,rfl⟩:=b.form;replace R:=R.be k;replace c:=R.g2;replace a:=aC a k;go_wp2_with fail;obtain⟨y,i,R,a,r,C⟩:=R.mut2 a (by omega) (.bool p) (.slice e o f) rfl rfl;replace b:=b.ke r;rw[i];clear i;replace c:=R.k2;exact aM (v:= .agg #[.bool p,.slice e o f]) (by simp[results,results116,go_sem,R.k2]) rfl ⟨_,rfl,b,a⟩
def EK(n:Int)(v:Value)(w:World)(hv:NI w v n)(i:nl n.natAbs<=1099511627776):
  Calls prog 144 #[v] w (eO w n.sign):=by
 obtain⟨s,A,k,c,rfl⟩:=hv.form;have a:=hv.neg;obtain⟨d,j⟩:=hv.words.len;have f:Below w.1.size w (w.alloc (.cells #[.bool s,.slice A k c] 56)):=(aG _ _).alloc aE _;rcases Y7 n 0 with h|h|h
 ·have b:s=true:=by rw[a];simpa using h
  subst b;have e:Hid (n.sign= -1):=bxD h;clear a h d;go_enter func144,ntmps144;go_wp2;go_ret;exact⟨by rw[e.out];rfl,f⟩
 ·subst h;have b:s=false:=by rw[a];rfl
  subst b;have g:k=0:=d.2 rfl;subst g;clear a d;go_enter func144,ntmps144;go_wp2;go_ret;exact⟨rfl,f⟩
 ·have b:s=false:=by rw[a];simp;omega
  subst b;have g:((k:Int)==0)=false:=by simp;omega
  have e:Hid (n.sign=1):=azZ h;clear a h d;go_enter func144,ntmps144;go_wp2;go_ret;exact⟨by rw[e.out];rfl,f⟩
def yY(n:Int)(v:Value)(w:World)(hv:NI w v n)(q:nl n.natAbs<=1099511627776):
  Calls prog 91 #[v] w (nN w (-n)):=by
 obtain⟨s,A,k,c,rfl⟩:=hv.form;have r:=fun W h=>pU (!s) (.slice A k c) n.natAbs (-n) W h q (by omega) (by rw[hv.neg];simp;omega);obtain⟨W,i,a,B,R⟩:=D8 w [.bool s,.slice A k c] 56 [.bool false,.slice none 0 0] 56;have g:=aa B.g2 R.g2;go_enter func91,ntmps91;go_wp2_with fail;(try rw[i]);clear i;refine(r _ (hv.be a).words).mono ?_;rintro x z ⟨y,rfl,b,d⟩;obtain⟨m,e,l,f,rfl⟩:=b.form;replace B:=B.be d;replace R:=R.be d;replace g:=aa B.k2 R.g2;replace a:=aC a d;go_wp2_with fail;obtain⟨t,j,R,a,p,o⟩:=R.mut2 a (by omega) (.bool m) (.slice e l f) rfl rfl;replace B:=o B (by omega);replace b:=b.ke p;rw[j];clear j;replace g:=aa B.k2 R.k2;exact aM (v:= .agg #[.bool m,.slice e l f]) (by simp[results,results91,go_sem,R.k2]) rfl ⟨_,rfl,b,a⟩
def EL(x y:Int)(vx vy:Value)(w:World)(f:NI w vx x)(g:NI w vy y)(lx:nl x.natAbs<=549755813888)(ly:nl y.natAbs<=549755813888):
  Calls prog 199 #[vx,vy] w (nN w (x+y)):=by
 obtain⟨s,A,k,c,rfl⟩:=f.form;obtain⟨t,C,l,d,rfl⟩:=g.form;have J:=f.neg;have N:=g.neg;have Z:nl (x+y).natAbs<=1099511627776:=by
  have p:nl (x+y).natAbs<=nl (x.natAbs+y.natAbs):=cK (by omega);have:=rK x.natAbs y.natAbs;omega
 have O:=fun W u v p r=>EV x.natAbs y.natAbs u v W p r (by omega) (by omega);by_cases z:s=t
 ·have B:(x+y).natAbs=x.natAbs+y.natAbs:=by rw[J,N] at z;by_cases p:x<0<;>by_cases r:y<0<;>simp[p,r] at z<;>omega
  have K:(s=true∧x.natAbs+y.natAbs≠0)↔x+y<0:=by rw[J,N] at z;rw[J];by_cases p:x<0<;>by_cases r:y<0<;>simp[p,r] at z⊢<;>omega
  have P:=fun W u h=>pU s u (x.natAbs+y.natAbs) (x+y) W h (by rw[<-B];exact Z) B K;clear J N B K O;subst z;obtain⟨W,G,a,X,Y,R⟩:=gE w [.bool s,.slice A k c] 56 [.bool s,.slice C l d] 56 [.bool false,.slice none 0 0] 56;have o:=aa X.g2 (aa Y.g2 R.g2);go_enter func199,ntmps199;go_wp2_with fail;(try rw[G]);clear G;replace f:=f.be a;replace g:=g.be a;replace f:=f.drew;replace g:=g.drew;replace X:=X.drew;replace Y:=Y.drew;replace R:=R.drew;replace a:=a.drew;replace o:=aa X.k2 (aa Y.k2 R.g2);have Q:w.1.size+1+1≠w.1.size:=by omega
  have S:w.1.size+1+1≠w.1.size+1:=by omega
  go_region_held3 (fun w'=>C2 w' w.1.size (.bool s) (.slice A k c)∧C2 w' (w.1.size+1) (.bool s) (.slice C l d))
   (first|(with_reducible exact⟨X.k2,Y.k2⟩)|(refine⟨?_,?_⟩<;>(repeat (first|with_reducible exact X.k2|with_reducible exact Y.k2|with_reducible refine fQ Q ?_|with_reducible refine fQ S ?_))))
   (first
    |(go_at_call 218;refine(EU _ _ _ _ _ f.words g.words (by omega) (by omega)).mono ?_;rintro e4 w4 ⟨v4,rfl,q,j⟩;obtain⟨A4,k4,c4,rfl⟩:=q.form;replace X:=X.be j;replace Y:=Y.be j;replace R:=R.be j;replace o:=aa X.k2 (aa Y.k2 R.g2);replace b:=KM.be j;replace f:=f.ke b;replace g:=g.ke b;(try replace i:=i.ke b);replace a:=aC a j)
    |(go_at_call 146;refine(P _ _ q).mono ?_;rintro e5 w5 ⟨v5,rfl,i,m⟩;obtain⟨M,E,L,F,rfl⟩:=i.form;replace X:=X.be m;replace Y:=Y.be m;replace R:=R.be m;replace o:=aa X.k2 (aa Y.k2 R.g2);replace b:=KM.be m;replace f:=f.ke b;replace g:=g.ke b;(try replace q:=q.ke b);replace a:=aC a m))
  go_wp2_with fail;obtain⟨W6,H,R,a,b,I⟩:=R.mut2 a (by omega) (.bool M) (.slice E L F) rfl rfl;replace X:=I X (by omega);replace Y:=I Y (by omega);replace i:=i.ke b;rw[H];clear H;replace o:=aa X.k2 (aa Y.k2 R.k2);exact aM (v:= .agg #[.bool M,.slice E L F]) (by simp[results,results199,go_sem,R.k2]) rfl ⟨_,rfl,i,a⟩
 ·have q0:(s==t)=false:=by simpa using z
  rw[J,N] at z;rcases dE x.natAbs y.natAbs with U|U
  ·have B:(x+y).natAbs=y.natAbs-x.natAbs:=by by_cases p:x<0<;>by_cases r:y<0<;>simp[p,r] at z<;>omega
   have K:(t=true∧y.natAbs-x.natAbs≠0)↔x+y<0:=by rw[N];by_cases p:x<0<;>by_cases r:y<0<;>simp[p,r] at z⊢<;>omega
   have P:=fun W u h=>pU t u (y.natAbs-x.natAbs) (x+y) W h (by rw[<-B];exact Z) B K;have V:x.natAbs<=y.natAbs:=by omega
   rw[jL (by omega)] at O;clear J N B K z U;obtain⟨W,G,a,X,Y,R⟩:=gE w [.bool s,.slice A k c] 56 [.bool t,.slice C l d] 56 [.bool false,.slice none 0 0] 56;have o:=aa X.g2 (aa Y.g2 R.g2);go_enter func199,ntmps199;go_wp2_with fail;(try rw[G]);clear G;replace f:=f.be a;replace g:=g.be a;refine(O _ _ _ f.words g.words).mono ?_;rintro e1 w1 ⟨rfl,D⟩;replace X:=X.be D;replace Y:=Y.be D;replace R:=R.be D;replace o:=aa X.k2 (aa Y.k2 R.g2);replace b:=KM.be D;replace f:=f.ke b;replace g:=g.ke b;replace a:=aC a D;go_wp2_with fail;replace f:=f.drew;replace g:=g.drew;replace X:=X.drew;replace Y:=Y.drew;replace R:=R.drew;replace a:=a.drew;replace o:=aa X.k2 (aa Y.k2 R.g2);have Q:w.1.size+1+1≠w.1.size:=by omega
   have S:w.1.size+1+1≠w.1.size+1:=by omega
   go_region_held3 (fun w'=>C2 w' w.1.size (.bool s) (.slice A k c)∧C2 w' (w.1.size+1) (.bool t) (.slice C l d))
    (first|(with_reducible exact⟨X.k2,Y.k2⟩)|(refine⟨?_,?_⟩<;>(repeat (first|with_reducible exact X.k2|with_reducible exact Y.k2|with_reducible refine fQ Q ?_|with_reducible refine fQ S ?_))))
    (first
     |(go_at_call 221;refine(EW _ _ _ _ _ g.words f.words (by omega) (by omega) V).mono ?_;rintro e4 w4 ⟨v4,rfl,q,j⟩;obtain⟨A4,k4,c4,rfl⟩:=q.form;replace X:=X.be j;replace Y:=Y.be j;replace R:=R.be j;replace o:=aa X.k2 (aa Y.k2 R.g2);replace b:=KM.be j;replace f:=f.ke b;replace g:=g.ke b;(try replace i:=i.ke b);replace a:=aC a j)
     |(go_at_call 146;refine(P _ _ q).mono ?_;rintro e5 w5 ⟨v5,rfl,i,m⟩;obtain⟨M,E,L,F,rfl⟩:=i.form;replace X:=X.be m;replace Y:=Y.be m;replace R:=R.be m;replace o:=aa X.k2 (aa Y.k2 R.g2);replace b:=KM.be m;replace f:=f.ke b;replace g:=g.ke b;(try replace q:=q.ke b);replace a:=aC a m))
   go_wp2_with fail;obtain⟨W6,H,R,a,b,I⟩:=R.mut2 a (by omega) (.bool M) (.slice E L F) rfl rfl;replace X:=I X (by omega);replace Y:=I Y (by omega);replace i:=i.ke b;rw[H];clear H;replace o:=aa X.k2 (aa Y.k2 R.k2);exact aM (v:= .agg #[.bool M,.slice E L F]) (by simp[results,results199,go_sem,R.k2]) rfl ⟨_,rfl,i,a⟩
  ·have B:(x+y).natAbs=x.natAbs-y.natAbs:=by by_cases p:x<0<;>by_cases r:y<0<;>simp[p,r] at z<;>omega
   have K:(s=true∧x.natAbs-y.natAbs≠0)↔x+y<0:=by rw[J];by_cases p:x<0<;>by_cases r:y<0<;>simp[p,r] at z⊢<;>omega
   have P:=fun W u h=>pU s u (x.natAbs-y.natAbs) (x+y) W h (by rw[<-B];exact Z) B K;have V:y.natAbs<=x.natAbs:=by omega
   obtain⟨T,ab,ac⟩:∃T,bZ x.natAbs y.natAbs=T∧¬T<0:=⟨_,rfl,by rcases kJ (x.natAbs:Int) y.natAbs with ⟨h,_⟩|⟨_,e⟩|⟨_,e⟩<;>omega⟩;rw[ab] at O;clear J N B K z U ab;obtain⟨W,G,a,X,Y,R⟩:=gE w [.bool s,.slice A k c] 56 [.bool t,.slice C l d] 56 [.bool false,.slice none 0 0] 56;have o:=aa X.g2 (aa Y.g2 R.g2);go_enter func199,ntmps199;go_wp2_with fail;(try rw[G]);clear G;replace f:=f.be a;replace g:=g.be a;refine(O _ _ _ f.words g.words).mono ?_;rintro e1 w1 ⟨rfl,D⟩;replace X:=X.be D;replace Y:=Y.be D;replace R:=R.be D;replace o:=aa X.k2 (aa Y.k2 R.g2);replace b:=KM.be D;replace f:=f.ke b;replace g:=g.ke b;replace a:=aC a D;go_wp2_with fail;replace f:=f.drew;replace g:=g.drew;replace X:=X.drew;replace Y:=Y.drew;replace R:=R.drew;replace a:=a.drew;replace o:=aa X.k2 (aa Y.k2 R.g2);have Q:w.1.size+1+1≠w.1.size:=by omega
   have S:w.1.size+1+1≠w.1.size+1:=by omega
   go_region_held3 (fun w'=>C2 w' w.1.size (.bool s) (.slice A k c)∧C2 w' (w.1.size+1) (.bool t) (.slice C l d))
    (first|(with_reducible exact⟨X.k2,Y.k2⟩)|(refine⟨?_,?_⟩<;>(repeat (first|with_reducible exact X.k2|with_reducible exact Y.k2|with_reducible refine fQ Q ?_|with_reducible refine fQ S ?_))))
    (first
     |(go_at_call 221;refine(EW _ _ _ _ _ f.words g.words (by omega) (by omega) V).mono ?_;rintro e4 w4 ⟨v4,rfl,q,j⟩;obtain⟨A4,k4,c4,rfl⟩:=q.form;replace X:=X.be j;replace Y:=Y.be j;replace R:=R.be j;replace o:=aa X.k2 (aa Y.k2 R.g2);replace b:=KM.be j;replace f:=f.ke b;replace g:=g.ke b;(try replace i:=i.ke b);replace a:=aC a j)
     |(go_at_call 146;refine(P _ _ q).mono ?_;rintro e5 w5 ⟨v5,rfl,i,m⟩;obtain⟨M,E,L,F,rfl⟩:=i.form;replace X:=X.be m;replace Y:=Y.be m;replace R:=R.be m;replace o:=aa X.k2 (aa Y.k2 R.g2);replace b:=KM.be m;replace f:=f.ke b;replace g:=g.ke b;(try replace q:=q.ke b);replace a:=aC a m))
   go_wp2_with fail;obtain⟨W6,H,R,a,b,I⟩:=R.mut2 a (by omega) (.bool M) (.slice E L F) rfl rfl;replace X:=I X (by omega);replace Y:=I Y (by omega);replace i:=i.ke b;rw[H];clear H;replace o:=aa X.k2 (aa Y.k2 R.k2);exact aM (v:= .agg #[.bool M,.slice E L F]) (by simp[results,results199,go_sem,R.k2]) rfl ⟨_,rfl,i,a⟩
def r9(s:Bool)(u:Value)(m:Nat)(n:Int)(w:World)(a:Mg w u m)(b:nl m<=1099511627776)(hn:n=if s then -(m:Int) else m):
  Calls prog 146 #[.bool s,u] w (nN w n):=by
 exact pU s u m n w a b (by cases s<;>simp at hn<;>omega) (by cases s<;>simp at hn⊢<;>omega)
def oV(x y:Int)(D E:Value)(w:World)(b:NI w D x)(e:NI w E y)(Q:nl x.natAbs<=549755813888)(S:nl y.natAbs<=549755813888):
  Calls prog 87 #[D,E] w (nN w (x*y)):=by
 obtain⟨s,A,k,c,rfl⟩:=b.form;obtain⟨t,C,l,d,rfl⟩:=e.form;have n:=AC x y;rw[<-b.neg,<-e.neg] at n;have G:=aB n;have O:=fI x.natAbs y.natAbs;clear n;obtain⟨W,q,a,X,Y,R⟩:=gE w [.bool s,.slice A k c] 56 [.bool t,.slice C l d] 56 [.bool false,.slice none 0 0] 56;have j:=aa X.g2 (aa Y.g2 R.g2);go_enter func87,ntmps87;go_wp2_with fail;(try rw[q]);clear q;replace b:=b.be a;replace e:=e.be a;replace b:=b.drew;replace e:=e.drew;replace X:=X.drew;replace Y:=Y.drew;replace R:=R.drew;replace a:=a.drew;replace j:=aa X.k2 (aa Y.k2 R.g2);have H:w.1.size+1+1≠w.1.size:=by omega
 have I:w.1.size+1+1≠w.1.size+1:=by omega
 go_region_held3 (fun F=>C2 F w.1.size (.bool s) (.slice A k c)∧C2 F (w.1.size+1) (.bool t) (.slice C l d))
  (first|(with_reducible exact⟨X.k2,Y.k2⟩)|(refine⟨?_,?_⟩<;>(repeat (first|with_reducible exact X.k2|with_reducible exact Y.k2|with_reducible refine fQ H ?_|with_reducible refine fQ I ?_))))
  (first
   |(go_at_call 147;refine(ER _ _ _ _ _ b.words e.words (by omega) (by omega)).mono ?_;rintro M V ⟨T,rfl,m,h⟩;obtain⟨J,P,L,rfl⟩:=m.form;replace X:=X.be h;replace Y:=Y.be h;replace R:=R.be h;replace j:=aa X.k2 (aa Y.k2 R.g2);replace f:=KM.be h;replace b:=b.ke f;replace e:=e.ke f;(try replace g:=g.ke f);replace a:=aC a h)
   |(go_at_call 146;refine(r9 _ _ _ (x*y) _ m (by omega) G.out).mono ?_;rintro N Z ⟨U,rfl,g,i⟩;obtain⟨B,o,z,p,rfl⟩:=g.form;replace X:=X.be i;replace Y:=Y.be i;replace R:=R.be i;replace j:=aa X.k2 (aa Y.k2 R.g2);replace f:=KM.be i;replace b:=b.ke f;replace e:=e.ke f;(try replace m:=m.ke f);replace a:=aC a i))
 go_wp2_with fail;obtain⟨K,r,R,a,f,u⟩:=R.mut2 a (by omega) (.bool B) (.slice o z p) rfl rfl;replace X:=u X (by omega);replace Y:=u Y (by omega);replace g:=g.ke f;rw[r];clear r;replace j:=aa X.k2 (aa Y.k2 R.k2);exact aM (v:= .agg #[.bool B,.slice o z p]) (by simp[results,results87,go_sem,R.k2]) rfl ⟨_,rfl,g,a⟩
def EF(w:World)(m n:Int)(e:Ending)(w':World):Prop:=∃u v,e= .returned (.tuple #[u,v])∧NI w' u m∧NI w' v n∧Below w.1.size w w'
def EG(x y:Int)(T U:Value)(w:World)(n:NI w T x)(o:NI w U y)(lx:nl x.natAbs<=549755813888)(ly:nl y.natAbs<=549755813888)(ah:y≠0):
  Calls prog 119 #[T,U] w (EF w (x.tdiv y) (x.tmod y)):=by
 obtain⟨s,A,k,c,rfl⟩:=n.form;obtain⟨t,C,l,d,rfl⟩:=o.form;have B:=FA x y;have E:=FC x y;rw[<-n.neg] at B E;rw[<-o.neg] at B;have Z:=aB B;have HR:=aB E;have af:nl (x.natAbs/y.natAbs)<=nl x.natAbs:=cK (pQ _ _);have ag:nl (x.natAbs%y.natAbs)<=nl x.natAbs:=cK (azP _ _);have D:=fun W u v h1 h2=>EM x.natAbs y.natAbs u v W h1 h2 (by omega) (by omega) (by omega);unfold yZ at D;generalize x.natAbs/y.natAbs=q at *;generalize x.natAbs%y.natAbs=r at *;generalize x.tdiv y=Q at *;generalize x.tmod y=R' at *;clear B E;obtain⟨W,K,a,X,Y,R,S⟩:=BL w [.bool s,.slice A k c] 56 [.bool t,.slice C l d] 56 [.bool false,.slice none 0 0] 56 [.bool false,.slice none 0 0] 56;have p:=aa X.g2 (aa Y.g2 (aa R.g2 S.g2));go_enter func119,ntmps119;go_wp2_with fail;(try rw[K]);clear K;replace n:=n.be a;replace o:=o.be a;refine(D _ _ _ n.words o.words).mono ?_;rintro e3 w3 ⟨v3,u3,rfl,e,h,z⟩;obtain⟨A3,l3,c3,rfl⟩:=e.form;obtain⟨D3,m3,d3,rfl⟩:=h.form;replace e:Mg w3 _ _:=e;replace X:=X.be z;replace Y:=Y.be z;replace R:=R.be z;replace S:=S.be z;replace p:=aa X.k2 (aa Y.k2 (aa R.g2 S.g2));replace a:=aC a z;clear D n o;have H3:=e;go_wp2_with fail;replace e:=e.drew;replace h:=h.drew;replace X:=X.drew;replace Y:=Y.drew;replace R:=R.drew;replace S:=S.drew;replace a:=a.drew;replace p:=aa X.k2 (aa Y.k2 (aa R.g2 S.g2));have ab:w.1.size+1+1≠w.1.size:=by omega
 have ac:w.1.size+1+1≠w.1.size+1:=by omega
 have ad:w.1.size+1+1+1≠w.1.size:=by omega
 have ae:w.1.size+1+1+1≠w.1.size+1:=by omega
 go_region_held3 (fun V=>C2 V w.1.size (.bool s) (.slice A k c)∧C2 V (w.1.size+1) (.bool t) (.slice C l d))
  (first|(with_reducible exact⟨X.k2,Y.k2⟩)|(refine⟨?_,?_⟩<;>(repeat (first|with_reducible exact X.k2|with_reducible exact Y.k2|with_reducible refine fQ ab ?_|with_reducible refine fQ ac ?_|with_reducible refine fQ ad ?_|with_reducible refine fQ ae ?_))))
  (first
   |(go_at_call 146;(with_reducible refine(r9 _ _ q Q _ e (by omega) Z.out).mono ?_);rintro e4 w4 ⟨v4,rfl,f,j⟩;obtain⟨O,F,M,H,rfl⟩:=f.form;replace X:=X.be j;replace Y:=Y.be j;replace R:=R.be j;replace S:=S.be j;replace p:=aa X.k2 (aa Y.k2 (aa R.g2 S.g2));replace b:=KM.be j;replace e:=e.ke b;replace h:=h.ke b;(try replace g:=g.ke b);replace a:=aC a j)
   |(go_at_call 146;(with_reducible refine(r9 _ _ r R' _ h (by omega) HR.out).mono ?_);rintro e5 w5 ⟨v5,rfl,g,m⟩;obtain⟨P,G,N,I,rfl⟩:=g.form;replace X:=X.be m;replace Y:=Y.be m;replace R:=R.be m;replace S:=S.be m;replace p:=aa X.k2 (aa Y.k2 (aa R.g2 S.g2));replace b:=KM.be m;replace e:=e.ke b;replace h:=h.ke b;(try replace f:=f.ke b);replace a:=aC a m))
 go_wp2_with fail;obtain⟨U0,J,R,a,b,i⟩:=R.mut2 a (by omega) (.bool O) (.slice F M H) rfl rfl;replace X:=i X (by omega);replace Y:=i Y (by omega);replace S:=i S (by omega);replace f:=f.ke b;replace g:=g.ke b;obtain⟨W6,L,S,a,b,i⟩:=S.mut2 a (by omega) (.bool P) (.slice G N I) rfl rfl;replace X:=i X (by omega);replace Y:=i Y (by omega);replace R:=i R (by omega);replace f:=f.ke b;replace g:=g.ke b;rw[J,L];clear J L;replace p:=aa X.k2 (aa Y.k2 (aa R.k2 S.k2));exact aM (v:= .tuple #[.agg #[.bool O,.slice F M H],.agg #[.bool P,.slice G N I]]) (by simp[results,results119,go_sem,R.k2,S.k2]) rfl ⟨_,_,rfl,f,g,a⟩
def MR(x y:Int)(S T:Value)(w:World)(h:NI w S x)(f:NI w T y)(lx:nl x.natAbs<=549755813888)(ly:nl y.natAbs<=549755813888):
  Calls prog 117 #[S,T] w (nN w ((Nat.gcd x.natAbs y.natAbs:Nat):Int)):=by
 obtain⟨s,A,k,c,rfl⟩:=h.form;obtain⟨t,C,l,d,rfl⟩:=f.form;obtain⟨W,L,e,X,Y,R⟩:=gE w [.bool s,.slice A k c] 56 [.bool t,.slice C l d] 56 [.bool false,.slice none 0 0] 56;have D:=aa X.g2 (aa Y.g2 R.g2);go_enter func117,ntmps117;go_wp2_with fail;(try rw[L]);clear L;replace h:=(h.be e).words;replace f:=(f.be e).words;go_quiet (fail);go_wp2_with fail;generalize x.natAbs=n at *;generalize y.natAbs=j at *;clear D X Y;go_loopg [5,6] j (fun g p q wr=>∃(a b:Nat) (A:Option Addr) (k c:Nat) (B:Option Addr) (l d:Nat),Hid (b<=g)∧p= .slice A k c∧q= .slice B l d∧Mg wr p a∧Mg wr q b∧nl a<=549755813888∧nl b<=549755813888∧Hid (Nat.gcd a b=Nat.gcd n j)∧Bx wr (w.1.size+1+1) [.bool false,.slice none 0 0] 56∧Below w.1.size w wr)
 case atStart=>exact⟨n,j,A,k,c,C,l,d,aE,rfl,rfl,h,f,lx,ly,rfl,R,eQ e _⟩
 case round=>
  clear h f R e;obtain⟨a,b,A,k,c,B,l,d,F,rfl,rfl,h,f,la,lb,z,R,e⟩:=hrel;generalize wr=wx at *;have o:=f.len;by_cases H:b=0
  ·have O:l=0:=o.1.2 H;subst O;have P:Nat.gcd n j=a:=by rw[<-z.out,H];exact OA _
   have HR:=aB P;have D:=R.g2;clear z P H o F;go_wp2_with fail;refine(r9 false _ a (a:Int) _ h (by omega) rfl).mono ?_;rintro e3 U ⟨v3,rfl,i,m⟩;obtain⟨K,E,J,G,rfl⟩:=i.form;replace R:=R.be m;replace D:=R.g2;replace e:=aC e m;replace i:NI U (.agg #[.bool K,.slice E J G]) ((Nat.gcd n j:Nat):Int):=by rw[HR.out];exact i
   go_wp2_with fail;obtain⟨W6,M,R,e,o,ff⟩:=R.mut2 e (by omega) (.bool K) (.slice E J G) rfl rfl;replace i:=i.ke o;rw[M];clear M;replace D:=R.k2;exact aM (v:= .agg #[.bool K,.slice E J G]) (by simp[results,results117,go_sem,R.k2]) rfl ⟨_,rfl,i,e⟩
  ·have O:decide (0<l)=true:=by simp;omega
   have hm:a%b<b:=dI _ (by omega);have N:Nat.gcd b (a%b)=Nat.gcd n j:=by rw[<-z.out,dz6 a b,Nat.gcd_rec b a,dz6]
   have ab:nl (a%b)<=nl b:=cK (by omega);have Z:=aB N;have I:=fun W u v h1 h2=>EM a b u v W h1 h2 (by omega) (by omega) (by omega);unfold yZ at I;clear z N o;obtain⟨g,rfl⟩:∃g,gk=g+1:=⟨gk-1,by have:=F.out;omega⟩;generalize a%b=r at *;generalize a/b=qq at *;go_wp2_with fail;refine(I _ _ _ h f).mono ?_;rintro e3 U ⟨v3,u3,rfl,i,Q,m⟩;obtain⟨V,m3,d3,rfl⟩:=Q.form;clear I;go_wp2;go_roundg g
   case rel=>exact⟨b,r,B,l,d,V,m3,d3,by have:=F.out;unfold Hid;omega,rfl,rfl,f.be m,Q,lb,by omega,Z,R.be m,aC e m⟩
   case measure=>omega
def bl(t:Nat):Nat:=if t=0 then 0 else t.log2+1
def yX(h:t≠0):bl t=bl (t/2)+1:=by
 unfold bl;rw[if_neg h,Nat.log2_def];by_cases a:2<=t
 ·rw[if_pos a,if_neg (by omega)]
 ·rw[if_neg a,if_pos (by omega)]
def MS(k t:Nat)(h:t<2^k):bl t<=k:=by
 induction k generalizing t with
 |zero=>rw[show t=0 by simpa using h];exact aE
 |succ k b=>
  by_cases a:t=0
  ·rw[a];exact dC _
  ·rw[yX a];have:=b (t/2) (by rw[dH] at h;omega);omega
def EH(h:t≠0):1<=bl t∧(bl t=1↔t=1):=by
 rw[yX h];refine⟨by omega,?_⟩;unfold bl;split<;>omega
def dxO(w:World)(m:Nat)(e:Ending)(w':World):Prop:=∃b:Int,e= .returned (.int .i64 b)∧(1<b↔1<m)∧(b=1↔m=1)∧Below w.1.size w w'
def EI(x:Int)(J:Value)(w:World)(q:NI w J x)(lx:nl x.natAbs<=549755813888):
  Calls prog 145 #[J] w (dxO w x.natAbs):=by
 obtain⟨s,A,k,c,rfl⟩:=q.form;obtain⟨o,Q⟩:=q.words.len;have d:Below w.1.size w (w.alloc (.cells #[.bool s,.slice A k c] 56)):=(aG _ _).alloc aE _;obtain⟨X,i,C,hv⟩:=(q.words).be d;obtain⟨V,Y,e,P⟩:=i.form;simp only[Value.slice.injEq] at e;obtain⟨rfl,rfl,rfl⟩:=e;by_cases a:x.natAbs=0
 ·have z:X.length=0:=o.2 a;rw[z] at q d;rw[z];have D:=aB a;clear hv o a C i P Q z;go_enter func145,ntmps145;go_wp2;go_ret;exact⟨0,rfl,by have:=D.out;omega,by have:=D.out;omega,d⟩
 ·have H:X.length≠0:=fun h=>a (o.1 h);have q0:((X.length:Int)==0)=false:=by simpa using H
  obtain⟨p,B⟩:∃p,X.length=p+1:=⟨X.length-1,by omega⟩;obtain⟨y,j⟩:∃y,X[p]? =some y:=⟨_,aR (by omega)⟩;have I:y≠0:=C y (by rw[aqN,B];exact j);have K:=i.dg y (dG j);obtain⟨b,rfl,ab,Z⟩:=i.at_ j;obtain⟨N,O⟩:=EH I;have G:(1<32*p+bl y↔1<x.natAbs)∧(32*p+bl y=1↔x.natAbs=1):=by
   have l:=iR X p;rw[iN (by omega),gG j,hv] at l;rcases iB p with h|h
   ·subst h;have m:x.natAbs=y:=by rw[l];simp[nv]
    rw[m];omega
   ·have m:aD^1<=aD^p:=cO mV h;have F:aD^p*1<=aD^p*y:=eV _ (by omega);unfold aD at l m F;omega
  have E:=aB G;have W:=aB B;have ac:((X.length:Int)-1)=(p:Int):=by omega
  have ad:p<X.length:=by omega
  unfold aD at K;clear hv o a C i G B j I N O H;go_enter func145,ntmps145;go_wp2_with fail;go_loopg [3,4] y (fun g T U wr=>∃(n t:Nat),Hid (t<=g)∧T= .int .i64 (n:Int)∧U= .int .u32 (t:Int)∧t<4294967296∧n<=35184372088832∧Hid (n+bl t=32*p+bl y)∧Below w.1.size w wr)
  case atStart=>exact⟨32*p,y,aE,by go_num,rfl,K,by omega,rfl,d⟩
  case round=>
   clear d;obtain⟨n,t,r,rfl,rfl,ht,hn,f,d⟩:=hrel;generalize wr=wx at *;by_cases a:t=0
   ·subst a;have v:=E.out;have u:=f.out;rw[show bl 0=0 from rfl,gQ] at u;rw[<-u] at v;have L:=aB v;clear f E v u r;go_wp2;go_ret;have:=L.out;exact⟨n,rfl,by omega,by omega,d⟩
   ·have hd:decide (0<t)=true:=by simp;omega
    have S:=yX a;obtain⟨g,rfl⟩:∃g,gk=g+1:=⟨gk-1,by have:=r.out;omega⟩;have M:Hid (n+1+bl (t/2)=32*p+bl y):=by have:=f.out;unfold Hid;omega
    have R:n+1<=35184372088832:=by have l:=EH a;have m:=f.out;have F:=MS 32 y (by omega);omega
    clear S f;go_wp2;go_roundg g
    case rel=>exact⟨n+1,t/2,by have:=r.out;unfold Hid;omega,by go_num,pW (by omega),by omega,R,M,d⟩
    case measure=>omega
def NQ(w:World)(v:Value)(q:Rat):Prop:=∃s u s' a,v= .agg #[.bool s,u,.bool s',a]∧NI w (.agg #[.bool s,u]) q.num∧NI w (.agg #[.bool s',a]) (bS q)
def eS(w:World)(q:Rat)(e:Ending)(w':World):Prop:=∃v,e= .returned v∧NQ w' v q∧Below w.1.size w w'
section
variable {w w':World}{v:Value}{q:Rat}
def NQ.be(h:NQ w v q)(a:Below w.1.size w w'):NQ w' v q:=by
 obtain⟨s,u,d,f,e,b,c⟩:=h;exact⟨s,u,d,f,e,b.be a,c.be a⟩
def NQ.ke(h:NQ w v q)(a:KM w w'):NQ w' v q:=by
 obtain⟨s,u,d,f,e,b,c⟩:=h;exact⟨s,u,d,f,e,b.ke a,c.ke a⟩
def NQ.drew(h:NQ w v q):NQ w.drew v q:=h.be (aG _ _).drew
def NQ.form(h:NQ w v q):∃s A k c s' a d c',v= .agg #[.bool s,.slice A k c,.bool s',.slice a d c']:=by
 obtain⟨s,u,s',i,rfl,f,g⟩:=h;obtain⟨_,A,k,c,e⟩:=f.form;obtain⟨_,a,d,c',b⟩:=g.form;simp at e b;rw[e.2,b.2];exact⟨_,_,_,_,_,_,_,_,rfl⟩
def NQ.num(h:NQ w (.agg #[.bool s,u,.bool s',b]) q):NI w (.agg #[.bool s,u]) q.num:=by
 obtain⟨_,_,_,_,e,a,c⟩:=h;simp at e;rw[e.1,e.2.1];exact a
def NQ.den{a:Value}(h:NQ w (.agg #[.bool s,u,.bool s',a]) q):NI w (.agg #[.bool s',a]) (bS q):=by
 obtain⟨_,_,_,_,e,c,b⟩:=h;simp at e;rw[e.2.2.1,e.2.2.2];exact b
def NQ.of{a:Value}(e:NI w (.agg #[.bool s,u]) n)(f:NI w (.agg #[.bool s',a]) d)(b:q.num=n)(c:bS q=d):NQ w (.agg #[.bool s,u,.bool s',a]) q:=
 ⟨s,u,s',a,rfl,by rw[b];exact e,by rw[c];exact f⟩
def NQ.zero(w:World):NQ w (.agg #[.bool false,.slice none 0 0,.bool false,.slice none 0 0]) 0:=NQ.of (NI.zero w) (NI.zero w) rfl rfl
end
def MQ(a:0<d)(b:q=(n:Rat)/d):q.num=n.tdiv (Nat.gcd n.natAbs d.natAbs:Nat)∧((q.den:Nat):Int)=d.tdiv (Nat.gcd n.natAbs d.natAbs:Nat):=by rw[b];exact F4 a
def EE(w:World)(q:Rat)(b:Bool)(a:World):Prop:=∃(n d:Int) (s:Bool) (A:Option Addr) (k c:Nat) (t:Bool) (C:Option Addr) (l e:Nat),0<d∧Hid ((n:Rat)/d=q)∧(b=true->Hid (q.num=n∧(q.den:Int)=d))∧nl n.natAbs<=549755813888∧nl d.natAbs<=549755813888∧
 Bx a w.1.size [.bool s,.slice A k c] 56∧Bx a (w.1.size+1) [.bool t,.slice C l e] 56∧Bx a (w.1.size+1+1) [.bool false,.slice none 0 0,.bool false,.slice none 0 0] 58∧NI a (.agg #[.bool s,.slice A k c]) n∧NI a (.agg #[.bool t,.slice C l e]) d∧Below w.1.size w a
def dxN(n d:Int)(vn vd:Value)(w:World)(hn:NI w vn n)(f:NI w vd d)(h0:d≠0)(B:nl n.natAbs<=549755813888)(z:nl d.natAbs<=549755813888):
  Calls prog 86 #[vn,vd] w (eS w ((n:Rat)/d)):=by
 obtain⟨s,A,k,c,rfl⟩:=hn.form;obtain⟨t,C,l,e,rfl⟩:=f.form;have hT:=f.neg;generalize hq:(n:Rat)/d=q;obtain⟨W,eW,a,X,Y,R⟩:=gE w [.bool s,.slice A k c] 56 [.bool t,.slice C l e] 56 [.bool false,.slice none 0 0,.bool false,.slice none 0 0] 58;replace hn:=hn.be a;replace f:=f.be a;have m:=aa X.g2 (aa Y.g2 R.g4);have H:=aB hq;have HT:=aB hT;clear hq hT;go_enter func86,ntmps86;go_upto_if 7 with fail;(try rw[eW]);clear eW;go_cut [] (fun wx=>EE w q false wx)
 case first=>
  cases t with
  |false=>
   go_wp2;go_meet;exact⟨n,d,_,_,_,_,_,_,_,_,by have:=HT.out;simp at this;omega,H,(fun h=>by cases h),B,z,X,Y,R,hn,f,a⟩
  |true=>
   go_wp2_with fail;replace hn:=hn.drew;replace f:=f.drew;replace X:=X.drew;replace Y:=Y.drew;replace R:=R.drew;replace a:=a.drew
   go_region_with (first
     |(go_at_call 91;(with_reducible refine(yY n _ _ hn (by omega)).mono ?_);rintro e4 w4 ⟨v4,rfl,i,y⟩;obtain⟨s4,A4,k4,c4,rfl⟩:=i.form;replace X:=X.be y;replace Y:=Y.be y;replace R:=R.be y;replace m:=aa X.g2 (aa Y.g2 R.g4);replace b:=KM.be y;replace hn:=hn.ke b;replace f:=f.ke b;(try replace E:=E.ke b);replace a:=aC a y)
     |(go_at_call 91;(with_reducible refine(yY d _ _ f (by omega)).mono ?_);rintro e5 w5 ⟨v5,rfl,E,U⟩;obtain⟨s5,A5,k5,c5,rfl⟩:=E.form;replace X:=X.be U;replace Y:=Y.be U;replace R:=R.be U;replace m:=aa X.g2 (aa Y.g2 R.g4);replace b:=KM.be U;replace hn:=hn.ke b;replace f:=f.ke b;(try replace i:=i.ke b);replace a:=aC a U))
   all_goals (
    go_wp2_with fail;obtain⟨U0,Q,X,a,b,j⟩:=X.mut2 a (by omega) (.bool s4) (.slice A4 k4 c4) rfl rfl;replace Y:=j Y (by omega);replace R:=j R (by omega);replace i:=i.ke b;replace E:=E.ke b;obtain⟨W6,x,Y,a,b,j⟩:=Y.mut2 a (by omega) (.bool s5) (.slice A5 k5 c5) rfl rfl;replace X:=j X (by omega);replace R:=j R (by omega);replace i:=i.ke b;replace E:=E.ke b;rw[Q,x];clear Q x;replace m:=aa X.k2 (aa Y.k2 R.k4);go_meet;exact⟨-n, -d,_,_,_,_,_,_,_,_,by have:=HT.out;simp at this;omega,by unfold Hid;rw[F5];exact H.out,(fun h=>by cases h),by rw[B4];exact B,by rw[B4];exact z,X,Y,R,i,E,a⟩)
 case rest=>
  clear X Y R hn f a m B z h0 HT H;obtain⟨p,o,P,I,O,J,s2,Z,k2,c2,ac,H, -,B,z,X,Y,R,hn,f,a⟩:=hcut;have m:=aa X.g2 (aa Y.g2 R.g4);obtain⟨ap,ah⟩:=MQ ac H.out.symm;have a1:Nat.gcd p.natAbs o.natAbs≠0:=fun h=>by have:=Nat.eq_zero_of_gcd_eq_zero_right h;omega
  have a2:nl (Nat.gcd p.natAbs o.natAbs)<=nl o.natAbs:=cK (aq6 (by omega) (dzS _ _));have aw:=jN p (Nat.gcd p.natAbs o.natAbs:Nat) _ B;have av:=jN o (Nat.gcd p.natAbs o.natAbs:Nat) _ z;have aq:0<o.tdiv (Nat.gcd p.natAbs o.natAbs:Nat):=by rw[<-ah];have:=q.den_nz;omega
  have ao:=fun W h1 h2=>MR p o (.agg #[.bool P,.slice I O J]) (.agg #[.bool s2,.slice Z k2 c2]) W h1 h2 B z;have r:=aB (And.intro ap ah);clear ap ah;generalize Nat.gcd p.natAbs o.natAbs=g at *;go_wp2_with fail;refine(ao _ hn f).mono ?_;rintro e4 w4 ⟨v4,rfl,i,y⟩;obtain⟨s4,A4,k4,c4,rfl⟩:=i.form;replace X:=X.be y;replace Y:=Y.be y;replace R:=R.be y;replace m:=aa X.g2 (aa Y.g2 R.g4);replace b:=KM.be y;replace hn:=hn.ke b;replace f:=f.ke b;replace a:=aC a y;clear ao;go_wp2_with fail;have aj:=X.lt;have ak:=Y.lt;have ai:=R.lt;have ax:=a.size;obtain⟨w5,am,S,G⟩:=bI w4 [.bool s4,.slice A4 k4 c4] 56;replace X:=X.be S;replace Y:=Y.be S;replace R:=R.be S;replace b:=KM.be S;replace a:=aC a S;replace hn:=hn.ke b;replace f:=f.ke b;replace i:=i.ke b;rw[am];clear am;replace m:=aa X.g2 (aa Y.g2 (aa R.g4 G.k2));have ag:nl g<=549755813888:=by omega
  refine(EI _ _ _ i (by rw[dD];exact ag)).mono ?_;rintro e6 w6 ⟨bb,rfl,T, -,K⟩;rw[dD] at T;replace X:=X.be K;replace Y:=Y.be K;replace R:=R.be K;replace G:=G.be K;replace m:=aa X.g2 (aa Y.g2 (aa R.g4 G.k2));replace b:=KM.be K;replace hn:=hn.ke b;replace f:=f.ke b;replace i:=i.ke b;replace a:=aC a K;go_upto_if 17 with fail;go_cut [] (fun wx=>EE w q true wx)
  case first=>
   by_cases af:1<g
   ·have q1:decide (1<bb)=true:=by simpa using T.2 af
    have ar:=fun W u v h k=>EG p (g:Int) u v W h k B (by rw[dD];exact ag) (by omega);have au:=fun W u v h k=>EG o (g:Int) u v W h k z (by rw[dD];exact ag) (by omega);unfold EF at ar au;have a0:Hid (((p.tdiv (g:Int):Int):Rat)/((o.tdiv (g:Int):Int):Rat)=q):=by
     unfold Hid;rw[<-r.out.1,<-r.out.2,dzN,<-Rat.mkRat_eq_div,aq8]
    generalize p.tdiv (g:Int)=N at *;generalize o.tdiv (g:Int)=D at *;clear T;go_wp2_with fail;refine(ar _ _ _ hn i).mono ?_;rintro e7 w7 ⟨v7,a3,rfl,F, -,L⟩;obtain⟨s7,A7,k7,c7,rfl⟩:=F.form;replace X:=X.be L;replace Y:=Y.be L;replace R:=R.be L;replace G:=G.be L;replace m:=aa X.g2 (aa Y.g2 (aa R.g4 G.k2));replace b:=KM.be L;replace hn:=hn.ke b;replace f:=f.ke b;replace i:=i.ke b;replace a:=aC a L;go_wp2_with fail;have aj:=X.lt;have ak:=Y.lt;have ai:=R.lt;have ay:=G.lt;have ax:=a.size;obtain⟨w8,an,X,a,b,j⟩:=X.mut2 a (by omega) (.bool s7) (.slice A7 k7 c7) rfl rfl;replace Y:=j Y (by omega);replace R:=j R (by omega);replace G:=j G (by omega);replace f:=f.ke b;replace i:=i.ke b;replace F:=F.ke b;rw[an];clear an;replace m:=aa X.g2 (aa Y.g2 (aa R.g4 G.k2));refine(au _ _ _ f i).mono ?_;rintro e9 w9 ⟨v9,a4,rfl,h9, -,M⟩;obtain⟨s9,A9,k9,c9,rfl⟩:=h9.form;replace X:=X.be M;replace Y:=Y.be M;replace R:=R.be M;replace G:=G.be M;replace m:=aa X.g2 (aa Y.g2 (aa R.g4 G.k2));replace b:=KM.be M;replace f:=f.ke b;replace i:=i.ke b;replace F:=F.ke b;replace a:=aC a M;go_wp2_with fail;have aj:=X.lt;have ak:=Y.lt;have ai:=R.lt;have ay:=G.lt;have ax:=a.size;obtain⟨W6,x,Y,a,b,j⟩:=Y.mut2 a (by omega) (.bool s9) (.slice A9 k9 c9) rfl rfl;replace X:=j X (by omega);replace R:=j R (by omega);replace G:=j G (by omega);replace F:=F.ke b;replace h9:=h9.ke b;rw[x];clear x;replace m:=aa X.k2 (aa Y.k2 (aa R.k4 G.k2));go_meet;exact⟨N,D,_,_,_,_,_,_,_,_,aq,a0,(fun _=>r),aw,av,X,Y,R,F,h9,a⟩
   ·have q1:decide (1<bb)=false:=by simpa using fun h=>af (T.1 h)
    have hg:g=1:=by omega
    subst hg;have az:Hid (q.num=p∧(q.den:Int)=o):=by have:=r.out;unfold Hid;simpa using this
    clear T af;go_wp2;go_meet;exact⟨p,o,_,_,_,_,_,_,_,_,ac,H,(fun _=>az),B,z,X,Y,R,hn,f,a⟩
  case rest=>
   clear X Y R hn f a m B z r H ac aq av aw;obtain⟨N,D,P,I,O,J,s2,Z,k2,c2,ac, -,hP,B,z,X,Y,R,hn,f,a⟩:=hcut;have r:=hP rfl;clear hP;have m:=aa X.g2 (aa Y.g2 R.g4);go_wp2_with fail;refine(EI _ _ _ f z).mono ?_;rintro e6 a5 ⟨al,rfl, -,ab,V⟩;replace X:=X.be V;replace Y:=Y.be V;replace R:=R.be V;replace m:=aa X.g2 (aa Y.g2 R.g4);replace b:=KM.be V;replace hn:=hn.ke b;replace f:=f.ke b;replace a:=aC a V;by_cases ad:D=1
   ·have q1:(al==1)=true:=by simpa using ab.2 (by rw[ad];rfl)
    have ae:Hid (bS q=0):=fV.2 (by have:=r.out.2;omega);clear ab ad;go_wp2_with fail;obtain⟨U0,Q,Y,a,b,j⟩:=Y.mut2 a (by omega) (.bool false) (.slice none 0 0) rfl rfl;replace X:=j X (by omega);replace R:=j R (by omega);replace hn:=hn.ke b;obtain⟨W6,x,R,a,b,j⟩:=R.mut4 a (by omega) (.bool P) (.slice I O J) (.bool false) (.slice none 0 0) rfl rfl;replace X:=j X (by omega);replace Y:=j Y (by omega);replace hn:=hn.ke b;rw[Q,x];clear Q x;replace m:=aa X.k2 (aa Y.k2 R.k4);exact aM (v:= .agg #[.bool P,.slice I O J,.bool false,.slice none 0 0]) (by simp[results,results86,go_sem,R.k4]) rfl ⟨_,rfl,NQ.of hn (NI.zero _) r.out.1 ae.out,a⟩
   ·have q1:(al==1)=false:=by simpa using fun h=>ad (by have:=ab.1 h;omega)
    have ae:Hid (bS q=D):=(mI (by have:=r.out.2;omega)).trans r.out.2;clear ab ad;go_wp2_with fail;obtain⟨W6,x,R,a,b,j⟩:=R.mut4 a (by omega) (.bool P) (.slice I O J) (.bool s2) (.slice Z k2 c2) rfl rfl;replace X:=j X (by omega);replace Y:=j Y (by omega);replace hn:=hn.ke b;replace f:=f.ke b;rw[x];clear x;replace m:=aa X.k2 (aa Y.k2 R.k4);exact aM (v:= .agg #[.bool P,.slice I O J,.bool s2,.slice Z k2 c2]) (by simp[results,results86,go_sem,R.k4]) rfl ⟨_,rfl,NQ.of hn f r.out.1 ae.out,a⟩
def r8(q:Rat)(v:Value)(w:World)(hv:NQ w v q)(G:nl q.den<=549755813888):Calls prog 88 #[v] w (nN w (q.den:Int)):=by
 obtain⟨s,A,k,c,j,g,b,i,rfl⟩:=hv.form;obtain⟨e,C⟩:=hv.den.words.len;have z:nl (bS q).natAbs<=549755813888:=aH (mY q) G;by_cases f:q.den=1
 ·have y:b=0:=e.2 (by rw[fV.2 f];rfl);have H:((b:Int)==0)=true:=by rw[y];rfl
  have D:Hid ((q.den:Int)=1):=by unfold Hid;omega
  have F:∀W,Calls prog 116 #[.int .i64 1] W (nN W 1):=fun W=>EJ 1 W (by decide);clear e C y f z;obtain⟨W,t,a,B,R⟩:=D8 w [.bool s,.slice A k c,.bool j,.slice g b i] 58 [.bool false,.slice none 0 0] 56;have r:=aa B.g4 R.g2;go_enter func88,ntmps88;go_wp2_with fail;(try rw[t]);clear t;refine(F _).mono ?_;rintro K I ⟨L,rfl,d,n⟩;obtain⟨p,l,o,m,rfl⟩:=d.form;replace B:=B.be n;replace R:=R.be n;replace r:=aa B.k4 R.g2;replace a:=aC a n;replace d:NI I (.agg #[.bool p,.slice l o m]) (q.den:Int):=by rw[D.out];exact d
  go_wp2_with fail;obtain⟨J,u,R,a,e,E⟩:=R.mut2 a (by omega) (.bool p) (.slice l o m) rfl rfl;replace B:=E B (by omega);replace d:=d.ke e;rw[u];clear u;replace r:=aa B.k4 R.k2;exact aM (v:= .agg #[.bool p,.slice l o m]) (by simp[results,results88,go_sem,R.k2]) rfl ⟨_,rfl,d,a⟩
 ·have H:((b:Int)==0)=false:=by
   have:b≠0:=fun h=>f (fV.1 (by have:=e.1 h;omega));simpa using this
  have x:=hv.den;rw[mI f] at x;have a:Below w.1.size w ((w.alloc (.cells #[.bool s,.slice A k c,.bool j,.slice g b i] 58)).alloc (.cells #[.bool j,.slice g b i] 56)):=((aG _ _).alloc aE _).alloc (by simp) _;clear e C f z;go_enter func88,ntmps88;go_wp2_with fail;exact aM (v:= .agg #[.bool j,.slice g b i]) (by simp[results,results88,go_sem]) rfl ⟨_,rfl,x.be a,a⟩
def oC(q:Rat)(v:Value)(w:World)(hv:NQ w v q)(h:nl q.num.natAbs<=1099511627776):Calls prog 85 #[v] w (eO w q.num.sign):=by
 obtain⟨s,A,k,c,i,d,g,e,rfl⟩:=hv.form;obtain⟨W,b,a,B⟩:=bI w [.bool s,.slice A k c,.bool i,.slice d g e] 58;have j:=B.g4;go_enter func85,ntmps85;go_wp2_with fail;(try rw[b]);clear b;refine(EK _ _ _ (hv.be a).num h).mono ?_;rintro l m ⟨rfl,f⟩;go_wp2;go_ret;exact⟨rfl,aC a f⟩
def yW(q:Rat)(v:Value)(w:World)(hv:NQ w v q)(x:nl q.num.natAbs<=1099511627776):Calls prog 34 #[v] w (eS w (-q)):=by
 obtain⟨s,A,k,c,j,e,i,f,rfl⟩:=hv.form;obtain⟨W,o,a,B,R⟩:=D8 w [.bool s,.slice A k c,.bool j,.slice e i f] 58 [.bool false,.slice none 0 0,.bool false,.slice none 0 0] 58;have l:=aa B.g4 R.g4;go_enter func34,ntmps34;go_wp2_with fail;(try rw[o]);clear o;have hn:=(hv.be a).num;have b:=(hv.be a).den;replace hn:=hn.drew;replace b:=b.drew;replace B:=B.drew;replace R:=R.drew;replace a:=a.drew;replace l:=aa B.k4 R.g4;have y:w.1.size+1≠w.1.size:=by omega
 go_region_held3 (fun w'=>C4 w' w.1.size (.bool s) (.slice A k c) (.bool j) (.slice e i f))
  (first|(with_reducible exact B.k4)|((repeat (first|with_reducible exact B.k4|with_reducible refine kK y ?_))))
  (first
   |(go_at_call 91;refine(yY _ _ _ hn x).mono ?_;rintro C E ⟨D,rfl,g,h⟩;obtain⟨t,m,r,n,rfl⟩:=g.form;replace B:=B.be h;replace R:=R.be h;replace l:=aa B.k4 R.g4;replace d:=KM.be h;replace hn:=hn.ke d;replace b:=b.ke d;replace a:=aC a h))
 all_goals (
  go_wp2_with fail;obtain⟨z,p,R,a,d,u⟩:=R.mut4 a (by omega) (.bool t) (.slice m r n) (.bool j) (.slice e i f) rfl rfl;replace B:=u B (by omega);replace g:=g.ke d;replace b:=b.ke d;rw[p];clear p;replace l:=aa B.k4 R.k4;exact aM (v:= .agg #[.bool t,.slice m r n,.bool j,.slice e i f]) (by simp[results,results34,go_sem,R.k4]) rfl ⟨_,rfl,NQ.of g b rfl rfl,a⟩
 )
def oU(x:Rat):x=(x.num:Rat)/(x.den:Rat):=by rw[<-Rat.mkRat_eq_div,aq8]
def yV(x y:Rat):((x.num*y.num:Int):Rat)/(((x.den:Int)*(y.den:Int):Int):Rat)=x*y:=by
 conv=>rhs;rw[oU x,oU y]
 rw[eJ,eJ,dzN,dzN];grind
def NQ.len(h:NQ w (.agg #[.bool s,u,.bool s',.slice A k c]) q):((k:Int)==0)=decide (q.den=1):=by
 have:=h.den.words.len.1;rw[Int.natAbs_eq_zero,fV] at this;by_cases a:q.den=1
 ·rw[this.2 a];simp[a]
 ·have:k≠0:=fun e=>a (this.1 e);simp[a,this]
def dqH(x y:Rat)(vx vy:Value)(w:World)(g:NQ w vx x)(i:NQ w vy y)(K:Nat)(kx:RL K x)(ky:RL K y)(hK:2*K<=549755813888):Calls prog 89 #[vx,vy] w (eS w (x*y)):=by
 obtain⟨s,A,k,c,V,M,r,O,rfl⟩:=g.form;obtain⟨t,C,l,d,Z,N,z,P,rfl⟩:=i.form;obtain⟨S,k2⟩:=kx;obtain⟨k3,k4⟩:=ky;have T:=g.len;have U:=i.len;by_cases f:x.den=1∧y.den=1
 ·have r1:((r:Int)==0)=true:=by rw[T];simpa using f.1
  have r2:((z:Int)==0)=true:=by rw[U];simpa using f.2
  have B:Hid ((x*y).num=x.num*y.num∧(x*y).den=1):=by
   have e:x*y=((x.num*y.num:Int):Rat):=by
    rw[<-yV x y,f.1,f.2];simp;grind
   rw[e];exact⟨rfl,rfl⟩
  clear T U f;obtain⟨W,D,b,X,Y,R⟩:=gE w [.bool s,.slice A k c,.bool V,.slice M r O] 58 [.bool t,.slice C l d,.bool Z,.slice N z P] 58 [.bool false,.slice none 0 0,.bool false,.slice none 0 0] 58;have n:=aa X.g4 (aa Y.g4 R.g4);go_enter func89,ntmps89;go_wp2_with fail;(try rw[D]);clear D;refine(oV x.num y.num _ _ _ (g.be b).num (i.be b).num (by omega) (by omega)).mono ?_;rintro Q w1 ⟨v1,rfl,f,q⟩;obtain⟨s1,A1,S,c1,rfl⟩:=f.form;replace X:=X.be q;replace Y:=Y.be q;replace R:=R.be q;replace n:=aa X.k4 (aa Y.k4 R.g4);replace b:=aC b q;go_wp2_with fail;obtain⟨W6,E,R,b,a,F⟩:=R.mut4 b (by omega) (.bool s1) (.slice A1 S c1) (.bool false) (.slice none 0 0) rfl rfl;replace X:=F X (by omega);replace Y:=F Y (by omega);replace f:=f.ke a;rw[E];clear E;replace n:=aa X.k4 (aa Y.k4 R.k4);exact aM (v:= .agg #[.bool s1,.slice A1 S c1,.bool false,.slice none 0 0]) (by simp[results,results89,go_sem,R.k4]) rfl ⟨_,rfl,NQ.of f (NI.zero _) B.out.1 (fV.2 B.out.2),b⟩
 ·have B:=aB (yV x y);have lm:=fI x.num.natAbs y.num.natAbs;have ld:=fI x.den y.den;have ab:(x.den:Int)*(y.den:Int)≠0:=byU (by have:=x.den_nz;omega) (by have:=y.den_nz;omega);have Q:nl (x.num*y.num).natAbs<=549755813888:=by rw[fL];omega
  have e2:nl ((x.den:Int)*(y.den:Int)).natAbs<=549755813888:=by rw[fL];exact aH ld (by omega)
  have ah:((r:Int)==0)=false∨((r:Int)==0)=true∧((z:Int)==0)=false:=by
   rw[T,U];by_cases j:x.den=1
   ·exact .inr ⟨by simpa using j,by simpa using fun h=>f ⟨j,h⟩⟩
   ·exact .inl (by simpa using j)
  have ac:=fun W u v h G=>dxN (x.num*y.num) ((x.den:Int)*(y.den:Int)) u v W h G ab Q e2;rw[B.out] at ac;have af:=fun W u v h G=>oV x.num y.num u v W h G (by omega) (by omega);have ag:=fun W u v h G=>oV (x.den:Int) (y.den:Int) u v W h G (by rw[dD];omega) (by rw[dD];omega);have ad:=fun W h=>r8 x (.agg #[.bool s,.slice A k c,.bool V,.slice M r O]) W h (by omega);have ae:=fun W h=>r8 y (.agg #[.bool t,.slice C l d,.bool Z,.slice N z P]) W h (by omega);clear T U f B lm ld ab Q e2;rcases ah with r1|⟨r1,r2⟩
  all_goals (
   obtain⟨W,D,b,X,Y,R⟩:=gE w [.bool s,.slice A k c,.bool V,.slice M r O] 58 [.bool t,.slice C l d,.bool Z,.slice N z P] 58 [.bool false,.slice none 0 0,.bool false,.slice none 0 0] 58;have n:=aa X.g4 (aa Y.g4 R.g4);go_enter func89,ntmps89;go_wp2_with fail;(try rw[D]);clear D;replace g:=g.be b;replace i:=i.be b;replace g:=g.drew;replace i:=i.drew;replace X:=X.drew;replace Y:=Y.drew;replace R:=R.drew;replace b:=b.drew;replace n:=aa X.k4 (aa Y.k4 R.g4);have ai:w.1.size+1+1≠w.1.size:=by omega
   have aj:w.1.size+1+1≠w.1.size+1:=by omega
   go_region_held3 (fun w'=>C4 w' w.1.size (.bool s) (.slice A k c) (.bool V) (.slice M r O)∧C4 w' (w.1.size+1) (.bool t) (.slice C l d) (.bool Z) (.slice N z P))
    (first|(with_reducible exact⟨X.k4,Y.k4⟩)|(refine⟨?_,?_⟩<;>(repeat (first|with_reducible exact X.k4|with_reducible exact Y.k4|with_reducible refine kK ai ?_|with_reducible refine kK aj ?_))))
    (first
     |(go_at_call 87;(with_reducible refine(af _ _ _ g.num i.num).mono ?_);rintro Q w1 ⟨v1,rfl,f,q⟩;obtain⟨s1,A1,S,c1,rfl⟩:=f.form;replace X:=X.be q;replace Y:=Y.be q;replace R:=R.be q;replace n:=aa X.k4 (aa Y.k4 R.g4);replace a:=KM.be q;replace g:=g.ke a;replace i:=i.ke a;(try replace j:=j.ke a);(try replace o:=o.ke a);(try replace p:=p.ke a);(try replace m:=m.ke a);replace b:=aC b q)
     |(go_at_call 88;(with_reducible refine(ad _ g).mono ?_);rintro e2 w2 ⟨v2,rfl,j,H⟩;obtain⟨s2,A2,k2,c2,rfl⟩:=j.form;replace X:=X.be H;replace Y:=Y.be H;replace R:=R.be H;replace n:=aa X.k4 (aa Y.k4 R.g4);replace a:=KM.be H;replace g:=g.ke a;replace i:=i.ke a;(try replace f:=f.ke a);(try replace o:=o.ke a);(try replace p:=p.ke a);(try replace m:=m.ke a);replace b:=aC b H)
     |(go_at_call 88;(with_reducible refine(ae _ i).mono ?_);rintro e3 w3 ⟨v3,rfl,o,I⟩;obtain⟨s3,A3,k3,c3,rfl⟩:=o.form;replace X:=X.be I;replace Y:=Y.be I;replace R:=R.be I;replace n:=aa X.k4 (aa Y.k4 R.g4);replace a:=KM.be I;replace g:=g.ke a;replace i:=i.ke a;(try replace f:=f.ke a);(try replace j:=j.ke a);(try replace p:=p.ke a);(try replace m:=m.ke a);replace b:=aC b I)
     |(go_at_call 87;(with_reducible refine(ag _ _ _ j o).mono ?_);rintro e4 w4 ⟨v4,rfl,p,J⟩;obtain⟨s4,A4,k4,c4,rfl⟩:=p.form;replace X:=X.be J;replace Y:=Y.be J;replace R:=R.be J;replace n:=aa X.k4 (aa Y.k4 R.g4);replace a:=KM.be J;replace g:=g.ke a;replace i:=i.ke a;(try replace f:=f.ke a);(try replace j:=j.ke a);(try replace o:=o.ke a);(try replace m:=m.ke a);replace b:=aC b J)
     |(go_at_call 86;refine(ac _ _ _ f p).mono ?_;rintro e5 w5 ⟨v5,rfl,m,L⟩;obtain⟨s5,A5,k5,c5,s6,A6,k6,c6,rfl⟩:=m.form;replace X:=X.be L;replace Y:=Y.be L;replace R:=R.be L;replace n:=aa X.k4 (aa Y.k4 R.g4);replace a:=KM.be L;replace g:=g.ke a;replace i:=i.ke a;(try replace f:=f.ke a);(try replace j:=j.ke a);(try replace o:=o.ke a);(try replace p:=p.ke a);replace b:=aC b L))
   all_goals (
    go_wp2_with fail;obtain⟨W6,E,R,b,a,F⟩:=R.mut4 b (by omega) (.bool s5) (.slice A5 k5 c5) (.bool s6) (.slice A6 k6 c6) rfl rfl;replace X:=F X (by omega);replace Y:=F Y (by omega);replace m:=m.ke a;rw[E];clear E;replace n:=aa X.k4 (aa Y.k4 R.k4);exact aM (v:= .agg #[.bool s5,.slice A5 k5 c5,.bool s6,.slice A6 k6 c6]) (by simp[results,results89,go_sem,R.k4]) rfl ⟨_,rfl,m,b⟩;))
def ED(x y:Rat)(h:y≠0):((x.num*(y.den:Int):Int):Rat)/(((x.den:Int)*y.num:Int):Rat)=x/y:=by
 have c:(y.num:Rat)≠0:=fun e=>h (Rat.num_eq_zero.1 (Rat.intCast_inj.1 e));have a:(y.den:Rat)≠0:=fun e=>y.den_nz (by have:=Rat.intCast_inj.1 (show((y.den:Int):Rat)=((0:Int):Rat) from e);omega);have b:(x.den:Rat)≠0:=fun e=>x.den_nz (by have:=Rat.intCast_inj.1 (show((x.den:Int):Rat)=((0:Int):Rat) from e);omega);conv=>rhs;rw[oU x,oU y]
 rw[eJ,eJ,dzN,dzN];grind
def vD(x y:Rat)(vx vy:Value)(w:World)(g:NQ w vx x)(f:NQ w vy y)(K:Nat)(kx:RL K x)(ky:RL K y)(hK:2*K<=549755813888)(P:y≠0):Calls prog 32 #[vx,vy] w (eS w (x/y)):=by
 obtain⟨s,A,k,c,T,L,S,M,rfl⟩:=g.form;obtain⟨t,C,l,d,J,G,I,H,rfl⟩:=f.form;obtain⟨k1,k2⟩:=kx;obtain⟨k3,k4⟩:=ky;have Z:=aB (ED x y P);have lm:=fI x.num.natAbs y.den;have ld:=fI x.den y.num.natAbs;have Q:y.num≠0:=fun e=>P (Rat.num_eq_zero.1 e);have ac:(x.den:Int)*y.num≠0:=byU (by have:=x.den_nz;omega) Q;have N:nl (x.num*(y.den:Int)).natAbs<=549755813888:=by rw[fL,dD];omega
 have O:nl ((x.den:Int)*y.num).natAbs<=549755813888:=by rw[fL,dD];omega
 have ad:=fun W u v h q=>dxN (x.num*(y.den:Int)) ((x.den:Int)*y.num) u v W h q ac N O;rw[Z.out] at ad;have ag:=fun W u v h q=>oV x.num (y.den:Int) u v W h q (by omega) (by rw[dD];omega);have ah:=fun W u v h q=>oV (x.den:Int) y.num u v W h q (by rw[dD];omega) (by omega);have ae:=fun W h=>r8 x (.agg #[.bool s,.slice A k c,.bool T,.slice L S M]) W h (by omega);have af:=fun W h=>r8 y (.agg #[.bool t,.slice C l d,.bool J,.slice G I H]) W h (by omega);have ai:=fun W h=>oC y (.agg #[.bool t,.slice C l d,.bool J,.slice G I H]) W h (by omega);have q0:(y.num.sign==0)=false:=by rw[beq_eq_false_iff_ne];exact fun e=>Q (Int.sign_eq_zero_iff_zero.1 e)
 generalize y.num.sign=sg at *;clear Z lm ld ac N O Q P;obtain⟨W,eW,b,X,Y,R⟩:=gE w [.bool s,.slice A k c,.bool T,.slice L S M] 58 [.bool t,.slice C l d,.bool J,.slice G I H] 58 [.bool false,.slice none 0 0,.bool false,.slice none 0 0] 58;have p:=aa X.g4 (aa Y.g4 R.g4);go_enter func32,ntmps32;go_wp2_with fail;(try rw[eW]);clear eW;replace g:=g.be b;replace f:=f.be b;refine(ai _ f).mono ?_;rintro e0 w0 ⟨rfl,r⟩;replace X:=X.be r;replace Y:=Y.be r;replace R:=R.be r;replace p:=aa X.k4 (aa Y.k4 R.g4);replace a:=KM.be r;replace g:=g.ke a;replace f:=f.ke a;replace b:=aC b r;go_wp2_with fail;replace g:=g.drew;replace f:=f.drew;replace X:=X.drew;replace Y:=Y.drew;replace R:=R.drew;replace b:=b.drew;replace p:=aa X.k4 (aa Y.k4 R.g4);have aj:w.1.size+1+1≠w.1.size:=by omega
 have ak:w.1.size+1+1≠w.1.size+1:=by omega
 go_region_held3 (fun w'=>C4 w' w.1.size (.bool s) (.slice A k c) (.bool T) (.slice L S M)∧C4 w' (w.1.size+1) (.bool t) (.slice C l d) (.bool J) (.slice G I H))
  (first|(with_reducible exact⟨X.k4,Y.k4⟩)|(refine⟨?_,?_⟩<;>(repeat (first|with_reducible exact X.k4|with_reducible exact Y.k4|with_reducible refine kK aj ?_|with_reducible refine kK ak ?_))))
  (first
   |(go_at_call 87;(with_reducible refine(ag _ _ _ g.num n).mono ?_);rintro N w1 ⟨v1,rfl,j,z⟩;obtain⟨s1,A1,k1,c1,rfl⟩:=j.form;replace X:=X.be z;replace Y:=Y.be z;replace R:=R.be z;replace p:=aa X.k4 (aa Y.k4 R.g4);replace a:=KM.be z;replace g:=g.ke a;replace f:=f.ke a;(try replace m:=m.ke a);(try replace n:=n.ke a);(try replace o:=o.ke a);(try replace i:=i.ke a);replace b:=aC b z)
   |(go_at_call 88;(with_reducible refine(ae _ g).mono ?_);rintro O w2 ⟨v2,rfl,m,B⟩;obtain⟨s2,A2,k2,c2,rfl⟩:=m.form;replace X:=X.be B;replace Y:=Y.be B;replace R:=R.be B;replace p:=aa X.k4 (aa Y.k4 R.g4);replace a:=KM.be B;replace g:=g.ke a;replace f:=f.ke a;(try replace j:=j.ke a);(try replace n:=n.ke a);(try replace o:=o.ke a);(try replace i:=i.ke a);replace b:=aC b B)
   |(go_at_call 88;(with_reducible refine(af _ f).mono ?_);rintro e3 w3 ⟨v3,rfl,n,D⟩;obtain⟨s3,A3,k3,c3,rfl⟩:=n.form;replace X:=X.be D;replace Y:=Y.be D;replace R:=R.be D;replace p:=aa X.k4 (aa Y.k4 R.g4);replace a:=KM.be D;replace g:=g.ke a;replace f:=f.ke a;(try replace j:=j.ke a);(try replace m:=m.ke a);(try replace o:=o.ke a);(try replace i:=i.ke a);replace b:=aC b D)
   |(go_at_call 87;(with_reducible refine(ah _ _ _ m f.num).mono ?_);rintro e4 w4 ⟨v4,rfl,o,E⟩;obtain⟨s4,A4,k4,c4,rfl⟩:=o.form;replace X:=X.be E;replace Y:=Y.be E;replace R:=R.be E;replace p:=aa X.k4 (aa Y.k4 R.g4);replace a:=KM.be E;replace g:=g.ke a;replace f:=f.ke a;(try replace j:=j.ke a);(try replace m:=m.ke a);(try replace n:=n.ke a);(try replace i:=i.ke a);replace b:=aC b E)
   |(go_at_call 86;refine(ad _ _ _ j o).mono ?_;rintro e5 w5 ⟨v5,rfl,i,F⟩;obtain⟨s5,U,k5,c5,s6,V,k6,c6,rfl⟩:=i.form;replace X:=X.be F;replace Y:=Y.be F;replace R:=R.be F;replace p:=aa X.k4 (aa Y.k4 R.g4);replace a:=KM.be F;replace g:=g.ke a;replace f:=f.ke a;(try replace j:=j.ke a);(try replace m:=m.ke a);(try replace n:=n.ke a);(try replace o:=o.ke a);replace b:=aC b F))
 all_goals (
  go_wp2_with fail;obtain⟨W6,ab,R,b,a,ff⟩:=R.mut4 b (by omega) (.bool s5) (.slice U k5 c5) (.bool s6) (.slice V k6 c6) rfl rfl;replace X:=ff X (by omega);replace Y:=ff Y (by omega);replace i:=i.ke a;rw[ab];clear ab;replace p:=aa X.k4 (aa Y.k4 R.k4);exact aM (v:= .agg #[.bool s5,.slice U k5 c5,.bool s6,.slice V k6 c6]) (by simp[results,results32,go_sem,R.k4]) rfl ⟨_,rfl,i,b⟩;)
