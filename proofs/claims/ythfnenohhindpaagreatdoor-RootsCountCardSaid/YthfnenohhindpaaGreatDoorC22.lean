/-
  Contracts, laws: NumD, NumE, NumF, NumG.
-/
import Derived.Test.YthfnenohhindpaaGreatDoorC21
import Derived.Deep.DeepCutAuto
import Derived.Deep.LoopGhost
set_option linter.all false
set_option maxHeartbeats 8000000
set_option maxRecDepth 100000
namespace Go.Proofs.YthfnenohhindpaaGreatDoor
open Go.RowKit Sos
def n6:Code->List Code
 | .loop c=>[c]
 | .seq a b=>n6 a++n6 b
 | .block _ c=>n6 c
 | .scope c=>n6 c
 | .cond _ a b=>n6 a++n6 b
 |_=>[]
noncomputable def dvBody:Code:=((Tryz.f183.body.map n6).getD []).getD 1 .skip
def rN (S V U N Q:Value) (f:Nat->Value) (J:Value):Act:=⟨#[f 0,f 1,f 2,f 3,f 4,f 5,f 6,f 7,S,V,U,N,f 12,Q,J,f 15,f 16,f 17,f 18,f 19,f 20,f 21,f 22,f 23,f 24,f 25,f 26,f 27,f 28,f 29,f 30,f 31,f 32,f 33,f 34,f 35,f 36,f 37,f 38,f 39,f 40,f 41,f 42,f 43,f 44,f 45,f 46,f 47,f 48,f 49,f 50,f 51,f 52,f 53,f 54,f 55,f 56,f 57,f 58,f 59,f 60,f 61,f 62,f 63,f 64,f 65,f 66,f 67,f 68,f 69,f 70,f 71,f 72,f 73,f 74,f 75,f 76,f 77,f 78,f 79,f 80,f 81,f 82,f 83,f 84,f 85,f 86,f 87,f 88,f 89,f 90,f 91,f 92,f 93,f 94,f 95,f 96,f 97,f 98,f 99,f 100,f 101,f 102,f 103,f 104,f 105,f 106,f 107,f 108,f 109,f 110,f 111,f 112,f 113,f 114,f 115,f 116,f 117,f 118,f 119,f 120,f 121,f 122,f 123,f 124,f 125,f 126,f 127,f 128,f 129,f 130,f 131,f 132,f 133,f 134,f 135,f 136,f 137,f 138,f 139,f 140,f 141,f 142,f 143,f 144,f 145,f 146,f 147,f 148,f 149,f 150,f 151,f 152,f 153,f 154,f 155,f 156,f 157,f 158,f 159,f 160,f 161,f 162,f 163,f 164,f 165,f 166,f 167,f 168,f 169,f 170,f 171,f 172,f 173,f 174,f 175,f 176,f 177,f 178,f 179,f 180,f 181,f 182,f 183,f 184,f 185,f 186,f 187,f 188,f 189,f 190,f 191,f 192,f 193,f 194,f 195,f 196,f 197,f 198,f 199,f 200,f 201,f 202,f 203,f 204,f 205,f 206,f 207,f 208,f 209,f 210,f 211,f 212,f 213,f 214,f 215,f 216,f 217,f 218,f 219,f 220,f 221,f 222,f 223,f 224,f 225,f 226,f 227,f 228,f 229,f 230,f 231,f 232,f 233,f 234,f 235,f 236,f 237,f 238,f 239,f 240,f 241,f 242,f 243,f 244,f 245,f 246,f 247,f 248,f 249,f 250,f 251,f 252,f 253,f 254,f 255,f 256,f 257,f 258,f 259,f 260,f 261,f 262,f 263,f 264,f 265,f 266,f 267,f 268,f 269,f 270,f 271,f 272,f 273,f 274,f 275,f 276,f 277,f 278,f 279,f 280,f 281,f 282,f 283,f 284,f 285,f 286,f 287,f 288,f 289,f 290,f 291,f 292,f 293,f 294,f 295,f 296,f 297,f 298,f 299],[]⟩
def AM (w:World) (f e d n M:Nat) (b c:List Nat) (k:Nat) (J:Value) (wr:World):Prop:=
 ∃(us a:List Nat) (j:Int) (z:Nat),Hid (j+1=k)∧J= .int .i64 j∧ -1<=j∧j<=M∧Hid (us.length=n+k)∧Hid (z+k=M+1)∧Dg us∧Dg a∧Hid (nv us<nv b*aD^k)∧Hid (nv us+nv b*aD^k*nv a=nv c)∧
  Bx wr f (U (b++[0])) 211∧Bx wr e (U (us++List.replicate z 0)) 211∧Bx wr d (U (List.replicate k 0++a)) 211∧Hid (a.length=z)∧Below w.heap.size w wr
def rO (S:Value) (d c b n M a e:Nat):(Nat->Value)->Value->Act:=rN S (.slice (some ⟨d,0,none⟩) n (e+1)) (.slice (some ⟨c,0,none⟩) (a+1) (a+1)) (.int .i64 (n:Int)) (.slice (some ⟨b,0,none⟩) (M+1) (M+1))
def DvI (w:World) (S:Value) (d c b n M:Nat) (h f:List Nat) (e g:Nat) (k:Nat) (a:Act) (wr:World):Prop:=
 ∃l:List Value,a=⟨l.toArray,[]⟩∧l.length=300∧AM w d c b n M h f k (l.getD 14 undef) wr∧l.getD 8 undef=S∧l.getD 9 undef= .slice (some ⟨d,0,none⟩) n (g+1)∧l.getD 10 undef= .slice (some ⟨c,0,none⟩) (e+1) (e+1)∧l.getD 11 undef= .int .i64 (n:Int)∧l.getD 13 undef= .slice (some ⟨b,0,none⟩) (M+1) (M+1)
theorem IN (f:Nat->Value):⟨((List.range 300).map f).toArray,[]⟩=rN (f 8) (f 9) (f 10) (f 11) (f 13) f (f 14):=rfl
theorem DvI.open_ {w:World} {S:Value} {d c b n M:Nat} {m e:List Nat} {g j k:Nat} {a:Act} {wr:World} (h:DvI w S d c b n M m e g j k a wr):∃f J,AM w d c b n M m e k J wr∧a=rO S d c b n M g j f J:=by
 obtain⟨l,rfl,u,v,s,t,p,q,r⟩:=h;refine⟨fun i=>l.getD i undef,_,v,?_⟩;unfold rO;rw[<-s,<-t,<-p,<-q,<-r,<-IN (fun i=>l.getD i undef)];congr 2;refine List.ext_getElem (by simp[u]) (fun i o x=> ?_);simp[o]
theorem IP {w:World} {S:Value} {L A I n p M:Nat} {H As:List Nat} {lx ly:Nat} (HV:Hid (Dvs H n p)) (ce:w.heap.size<=L) (cs:L<A) (cr:A<I) (bi:Hid (lx+1=n+(M+1))) (cm:lx<=2199023255552) (co:2<=n) (cl:n<=ly+1) (hM:M<=lx) (k:Nat) {a:Act} {wx:World} (hI:DvI w S L A I n M H As lx ly (k+1) a wx)
  (JJ:Nat->Act->World->Prop) (K:Act->World->Prop) (Q0:Exit->Act->World->Prop) (hJ:∀k a' w',DvI w S L A I n M H As lx ly k a' w'->JJ k a' w') (hK:∀a' w',Handed JJ (k+1) a' w'->K a' w'):dvBody.wp Tryz.prog (Exit.then K Q0) a wx:=by
 obtain⟨f,J,⟨us,rs,j,z,HJ,rfl,cj,ck,bb,HZ,dA,dR,bf,bs,l,e,o,bg,u⟩,rfl⟩:=hI.open_;unfold rO rN;have b4:j=(k:Int):=by have:=HJ.out;omega
 subst b4;have af:=aB HV.out.len;have bh:=aB HV.out.lt;have dV:=HV.out.dg;obtain⟨G,V,t,u1,u0,E,v0,qt,rt,X,ap,ax,a8,a9,bq,br,bp⟩:=JI HV.out bb.out dA bf.out;have gt:=e.cell (k+n) (iL (X.c2 _));have g1:=e.cell (k+n-1) (iL (X.c1 _));have g0:=e.cell (k+n-2) (iL (X.c0 _));have a6:=l.cell (n-1) (iL X.d1);have a5:=l.cell (n-2) (iL X.d0);obtain⟨w1,w2,w3,w4,w5,w6,w7,w8,w9,b9⟩:IntKind.i64.wrap ((k:Int)+n)=(k:Int)+n∧IntKind.i64.wrap ((k:Int)+n-1)=(k:Int)+n-1∧(0:Int)<=(k:Int)+n-1∧((k:Int)+n-1).toNat=k+n-1∧((k:Int)+n).toNat=k+n∧(0:Int)<=(k:Int)+n∧k+n<lx+1∧k+n-1<lx+1∧IntKind.u64.wrap ((t:Int)*4294967296)=(t:Int)*4294967296∧k+n-2<lx+1:=by
  have:=bi.out;unfold aD at ap;exact⟨IntWalk.i64_in _ (by omega),IntWalk.i64_in _ (by omega),by omega,by omega,by omega,by omega,by omega,by omega,IntWalk.u64_in _ (by omega),by omega⟩
 have aw:=vC t u1 ap ax;have B:=aB X;have e1:((t*aD+u1:Nat):Int)/(E:Int)=(((t*aD+u1)/E:Nat):Int):=(Int.natCast_ediv _ _).symm;have W:((t*aD+u1:Nat):Int)%(E:Int)=(((t*aD+u1)%E:Nat):Int):=(Int.natCast_emod _ _).symm;have au:=aB X.first;have ao:=X.first.hi;have ah:(t*aD+u1)%E<aD:=Nat.lt_trans (Nat.mod_lt _ br) a9;have Y:t*aD+u1<=18446744073709551615:=by unfold aD at ap ax⊢;omega
 generalize (t*aD+u1)/E=h at *;generalize (t*aD+u1)%E=r at *;generalize t*aD+u1=T at *;unfold aD at ap ax a8 a9 bq bp ao ah;clear X bf bb HV;conv=>arg 2;whnf
 go_wp2_with fail;go_quiet (fail);go_upto_block 4 with fail;go_cut [16,17] from 115 to 150 (fun s cu v=>∃C:Nat,s= .int .u64 (C:Int)∧qt<=C∧C<=qt+1∧C<4294967296∧Bx v L (U (H++[0])) 211∧Bx v A (U (us++List.replicate z 0)) 211∧Bx v I (U (List.replicate (k+1) 0++rs)) 211∧Below w.heap.size w v)
 case first=>
  replace u:=dH u nq;replace l:Bx (wx.drewN nq) _ _ _:=l;replace e:Bx (wx.drewN nq) _ _ _:=e;replace o:Bx (wx.drewN nq) _ _ _:=o;clear gt g1 g0 a6 a5;generalize wx.drewN nq=wx at *;obtain⟨x1,x2,x3,x4,x5,x6,x7,x8⟩:IntKind.i64.wrap ((n:Int)-2)=(n:Int)-2∧(0:Int)<=(n:Int)-2∧((n:Int)-2).toNat=n-2∧IntKind.i64.wrap ((k:Int)+n-2)=(k:Int)+n-2∧(0:Int)<=(k:Int)+n-2∧((k:Int)+n-2).toNat=k+n-2∧n-2<=n∧n-1<=n:=by
   have:=bi.out;exact⟨IntWalk.i64_in _ (by omega),by omega,by omega,IntWalk.i64_in _ (by omega),by omega,by omega,by omega,by omega⟩
  go_wp2_with fail;go_loopg [16,17] (h-qt) (fun g s t' v=>∃h r:Nat,Hid (h=qt+g)∧s= .int .u64 (h:Int)∧t'= .int .u64 (r:Int)∧Hid (Est t u1 E qt h r)∧r<4294967296∧h<=4294967297∧Bx v L (U (H++[0])) 211∧Bx v A (U (us++List.replicate z 0)) 211∧Bx v I (U (List.replicate (k+1) 0++rs)) 211∧Below w.heap.size w v)
  case atStart=>exact⟨h,r,by have:=au.out.lo;unfold Hid;omega,rfl,by rw[W],au,ah,ao,l,e,o,u⟩
  case round=>
   clear l e o u au ah ao e1 W;obtain⟨h,r,HG,rfl,rfl,HE,ah,ao,l,e,o,u⟩:=hrel;generalize wr=v at *;have g0:=e.cell (k+n-2) (iL (B.out.c0 _));have a6:=l.cell (n-1) (iL B.out.d1);have a5:=l.cell (n-2) (iL B.out.d0);rcases Nat.lt_or_ge 4294967295 h with bz|bz
   ·have q0:decide ((4294967296:Int)<=(h:Int))=true:=by simp;omega
    obtain⟨hE,h1⟩:=B.out.more h r HE.out (.inl (by unfold aD;omega));have ac:=aB hE;clear hE;rcases Nat.lt_or_ge 4294967295 (r+E) with an|an
    ·have q2:decide ((4294967296:Int)<=(r:Int)+E)=true:=by simp;omega
     have Q:=B.out.fin _ _ ac.out (.inr (by unfold aD;omega));go_wp2_with fail;go_quiet (fail);go_wp2_with fail;go_meet;exact⟨h-1,by go_num,Q.1,Q.2.1,Q.2.2,l,e,o,dH u _⟩
    ·have q2:decide ((4294967296:Int)<=(r:Int)+E)=false:=by simp;omega
     have q3:r+E<4294967296:=by omega
     obtain⟨g,rfl⟩:∃g,gk=g+1:=⟨gk-1,by have:=HG.out;have:=ac.out.lo;omega⟩;clear an;go_wp2_with fail;go_quiet (fail);go_wp2_with fail;go_roundg g
     case rel=>exact⟨h-1,r+E,by have:=HG.out;unfold Hid;omega,by go_num,by go_num,ac,by omega,by omega,l,e,o,dH u _⟩
     case measure=>omega
   ·have q0:decide ((4294967296:Int)<=(h:Int))=false:=by simp;omega
    have hP:h*v0<=4294967295*4294967295:=Nat.mul_le_mul (by omega) (by omega);have y1:IntKind.u64.wrap ((h:Int)*v0)=((h*v0:Nat):Int):=by rw[<-Int.natCast_mul];exact IntWalk.u64_in _ (by omega)
    have y2:=vC r u0 ah a8;have y3:=IntWalk.u64_in ((r:Int)*4294967296) (by omega);by_cases hc:r*aD+u0<h*v0
    ·have q1:decide (r*aD+u0<h*v0)=true:=by simp;omega
     obtain⟨hE,h1⟩:=B.out.more h r HE.out (.inr hc);have ac:=aB hE;clear hE hc hP;generalize r*aD+u0=R at *;generalize h*v0=P at *;rcases Nat.lt_or_ge 4294967295 (r+E) with an|an
     ·have q2:decide ((4294967296:Int)<=(r:Int)+E)=true:=by simp;omega
      have Q:=B.out.fin _ _ ac.out (.inr (by unfold aD;omega));go_wp2_with fail;go_quiet (fail);clear y1 y2 y3 w9 aw;go_wp2_with fail;go_meet;exact⟨h-1,by go_num,Q.1,Q.2.1,Q.2.2,l,e,o,dH u _⟩
     ·have q2:decide ((4294967296:Int)<=(r:Int)+E)=false:=by simp;omega
      have q3:r+E<4294967296:=by omega
      obtain⟨g,rfl⟩:∃g,gk=g+1:=⟨gk-1,by have:=HG.out;have:=ac.out.lo;omega⟩;clear an;go_wp2_with fail;go_quiet (fail);clear y1 y2 y3 w9 aw;go_wp2_with fail;go_roundg g
      case rel=>exact⟨h-1,r+E,by have:=HG.out;unfold Hid;omega,by go_num,by go_num,ac,by omega,by omega,l,e,o,dH u _⟩
      case measure=>omega
    ·have q1:decide (r*aD+u0<h*v0)=false:=by simp;omega
     have Q:=B.out.fin h r HE.out (.inl ⟨by unfold aD;omega,by omega⟩);clear hc hP;generalize r*aD+u0=R at *;generalize h*v0=P at *;go_wp2_with fail;go_quiet (fail);clear y1 y2 y3 w9 aw;go_wp2_with fail;go_meet;exact⟨h,rfl,Q.1,Q.2.1,Q.2.2,l,e,o,dH u _⟩
 case rest=>
  obtain⟨C,rfl,b7,b8,bx,l,e,o,u⟩:=hcut;clear au ao ah e1 W aw Y w9 gt g1 g0 a6 a5 w1 w2 w3 w4 b9 ax a8 a9 bq br;generalize wx.drewN nq=cv at *;rw[B.out.us_,show G++(V++[t])++List.replicate z 0=(G++[])++(V++t :: List.replicate z 0) by simp] at e;have ab:=aB B.out.lo_;have al:=aB B.out.xs_;have bu:=B.out.dxs;go_wp2_with fail
  go_loopg [18,19,20] n (fun m s t' s' v=>∃(Z T:List Nat) (c b i:Nat),Hid (i+m=n)∧s= .int .u64 (c:Int)∧t'= .int .u64 (b:Int)∧s'= .int .i64 (i:Int)∧c<4294967296∧b<=1∧Hid (Z.length=i)∧Hid (V.drop i=T)∧Dg Z∧Hid (nv (V.take i)+aD^i*(c+b)=nv Z+C*nv (H.take i))∧
   Bx v L (U (H++[0])) 211∧Bx v A (U ((G++Z)++(T++t :: List.replicate z 0))) 211∧Bx v I (U (List.replicate (k+1) 0++rs)) 211∧Below w.heap.size w v)
  case atStart=>exact⟨[],V,0,0,0,by unfold Hid;omega,rfl,rfl,rfl,by omega,by omega,rfl,rfl,(fun d O=>by cases O),by unfold Hid;simp[nv],l,e,o,u⟩
  case round=>
   clear l e o u;obtain⟨Z,T,c,b,i,HI,rfl,rfl,rfl,hc,bn,N,HT,dZ,a1,l,e,o,u⟩:=hrel;generalize wr=v at *;have ch:(0:Int)<=(i:Int):=by omega
   cases gk with
   |succ m=>
    have ag:i<n:=by have:=HI.out;omega
    obtain⟨x,hx⟩:∃x,V[i]? =some x:=⟨_,aL (by rw[al.out];exact ag)⟩;obtain⟨y,hy⟩:∃y,H[i]? =some y:=⟨_,aL (by rw[af.out];exact ag)⟩;have ay:=bu.get hx;have ba:=dV.get hy;have HL:Hid ((G++Z).length=i+k):=by unfold Hid;rw[aY,ab.out,N.out];omega
    have Y:T=x :: V.drop (i+1):=by rw[<-HT.out];exact(List.drop_eq_getElem_cons (by rw[al.out];exact ag)).trans (by rw[(List.getElem?_eq_some_iff.1 hx).2])
    subst Y;have gx:=e.mid HL.out;have fx:=fun j=>e.free j;have gy:=l.cell i (iL (by rw[f8 (by rw[af.out];exact ag)];exact hy));have ak:=aB (gD V i);have aj:=aB (gD H i);rw[eO hx] at ak;rw[eO hy] at aj;clear hx hy HT;unfold aD at ay ba;have hP:C*y<=4294967295*4294967295:=Nat.mul_le_mul (by omega) (by omega);have y1:IntKind.u64.wrap ((C:Int)*y)=((C*y:Nat):Int):=by rw[<-Int.natCast_mul];exact IntWalk.u64_in _ (by omega)
    have am:∃P,C*y=P:=⟨_,rfl⟩;obtain⟨P,am⟩:=am;rw[am] at y1 hP;have y2:(P:Int)+c=((P+c:Nat):Int):=rfl;have cp:P+c<=18446744073709551615:=by omega
    have b5:(P+c)%4294967296+4294967296*((P+c)/4294967296)=P+c:=Nat.mod_add_div _ _;have y3:((P+c:Nat):Int)/4294967296=(((P+c)/4294967296:Nat):Int):=(Int.natCast_ediv _ _).symm;have y4:bits .and .u64 ((P+c:Nat):Int) 4294967295=(((P+c)%4294967296:Nat):Int):=by rw[wO _ (by omega) (by unfold aA;omega)];exact(Int.natCast_emod _ _).symm
    have b0:(P+c)/4294967296<4294967296:=Nat.div_lt_of_lt_mul (by omega);have cn:(P+c)%4294967296<4294967296:=Nat.mod_lt _ (by decide);generalize (P+c)/4294967296=c' at *;generalize (P+c)%4294967296=pm at *;generalize b6:P+c=pp at *;obtain⟨D1,D,r',q',z1,z2,z3,z4,z5,z6,z7,z8,z9⟩:=vB (s:=pm) (t:=b) ay (by omega);have HS:=aB (vF (x:=r') (p:=C*y) (c:=c'+q') N.out a1.out (show x+aD*(c'+q')=r'+C*y+(c+b) by rw[am];unfold aD at z9⊢;omega));clear z9 b5 am b6;go_wp2_with fail;go_roundg m
    case rel=>exact⟨Z++[r'],V.drop (i+1),c',q',i+1,by have:=HI.out;unfold Hid;omega,rfl,rfl,by go_num,b0,z5,gW N.out,rfl,dZ.snoc (by unfold aD;exact z6),by unfold Hid;rw[ak.out,aj.out,Nat.mul_add C,Nat.mul_left_comm C];exact HS.out,l.far _ _ (by omega),by rw[<-List.append_assoc G];exact e.next HL.out rfl,o.far _ _ (by omega),u.setCell (p:=⟨A,i+k,none⟩) (show w.heap.size<=A by omega) _⟩
    case measure=>omega
   |zero=>
    have ag:i=n:=HI.out;subst ag;have b3:¬(i:Int)<(i:Int):=by omega
    have Y:T=[]:=by rw[<-HT.out,<-al.out];exact List.drop_length
    subst Y;rw[List.nil_append] at e;have HL:Hid ((G++Z).length=k+i):=by unfold Hid;rw[aY,ab.out,N.out]
    have a7:=a1.out;rw[fY (by rw[al.out];exact aE),fY (by rw[af.out];exact aE)] at a7;have hZ:nv Z<aD^i:=by have:=kW dZ;rwa [N.out] at this
    have b2:=J3 (X:=nv V) (t:=t) (h:=C) (k:=c+b) rfl B.out.u_.symm B.out.r_ bh.out b7 b8 a7 hZ;obtain⟨td,tD,k1,k2,k3,k4,k5⟩:=IW (t:=t) (c:=c) (b:=b) ap (by omega) bn;have bw:=e.mid HL.out;have bv:=fun j=>e.free j;have bk:=o.last;have bj:=fun j=>o.free j;have a4:=B.out.dlo;have aq:Hid (∀R:List Nat,R.length=i->nv R=rt->nv (G++R)<nv H*aD^k∧nv (G++R)+nv H*aD^k*nv (qt :: rs)=nv As):=fun R cb bm=>⟨J5 a4 ab.out (by rw[bm];exact B.out.r_),J4 ab.out al.out B.out.u_ bm (by rw[<-B.out.us_];exact bs.out)⟩;clear a7 a1 HT;rcases b2 with ⟨e1,W,e3⟩|⟨e1,W,e3⟩
    ·have k6:IntKind.u64.wrap ((td:Int)-b)=0:=by rw[k2,k4 W];rfl
     have F:=aB (aq.out Z N.out e3);subst e1;clear k2 k4 k5 W e3 aq;go_wp2_with fail;refine Handed.intro k (Nat.lt_succ_self k) (hJ _ _ _ ⟨_,rfl,rfl,⟨G++Z,C :: rs,(k:Int)-1,z+1,by unfold Hid;omega,rfl,by omega,by omega,by unfold Hid;rw[aY,ab.out,N.out];omega,by have:=HZ.out;unfold Hid;omega,a4.app dZ,?_,F.out.1,F.out.2,(l.far _ _ (show A≠L by omega)).far _ _ (show I≠L by omega),?_,(o.far _ _ (by omega)).prev rfl,by unfold Hid;rw[List.length_cons,bg.out],(u.setCell (p:=⟨A,k+i,none⟩) (show w.heap.size<=A by omega) _).setCell (p:=⟨I,k,none⟩) (show w.heap.size<=I by omega) _⟩,rfl,rfl,rfl,rfl,rfl⟩)
     ·intro d O;rcases List.mem_cons.1 O with rfl|O
      ·exact bx
      ·exact dR d O
     ·rw[List.replicate_succ,<-List.singleton_append,<-List.append_assoc];exact(e.next (y:=0) HL.out rfl).far _ _ (by omega)
    ·have k6:IntKind.u64.wrap ((td:Int)-b)=18446744073709551615:=by rw[k2,k5 W];rfl
     have bc:=aB e3;have cg:1<=C:=by omega
     have a2:=e.next (y:=4294967295) HL.out rfl;have ca:=aB hZ;have HQ:=aB e1;clear k2 k4 k5 e1 W e3 hZ bk bj;go_wp2_with fail;rw[show G++Z++[4294967295]++List.replicate z 0=(G++[])++(Z++4294967295 :: List.replicate z 0) by simp] at a2
     go_loopg [18,24] i (fun m s t' v=>∃(R T:List Nat) (c q:Nat),Hid (q+m=i)∧s= .int .u64 (c:Int)∧t'= .int .i64 (q:Int)∧c<=1∧Hid (R.length=q)∧Hid (Z.drop q=T)∧Dg R∧Hid (nv R+aD^q*c=nv (Z.take q)+nv (H.take q))∧
      Bx v L (U (H++[0])) 211∧Bx v A (U ((G++R)++(T++4294967295 :: List.replicate z 0))) 211∧Bx v I (U (List.replicate (k+1) 0++rs)) 211∧Below w.heap.size w v)
     case atStart=>exact⟨[],Z,0,0,by unfold Hid;omega,rfl,rfl,by omega,rfl,rfl,(fun d O=>by cases O),by unfold Hid;simp[nv],l.far _ _ (by omega),a2,o.far _ _ (by omega),u.setCell (p:=⟨A,k+i,none⟩) (show w.heap.size<=A by omega) _⟩
     case round=>
      clear l e a2 o u bw bv b3 k1 k3 k6 bn;obtain⟨R,T,c,q,a0,rfl,rfl,cc,ad,ar,a3,az,l,e,o,u⟩:=hrel;generalize wr=wz at *;have cq:(0:Int)<=(q:Int):=by omega
      cases gk with
      |succ m=>
       have ae:q<i:=by have:=a0.out;omega
       obtain⟨x,hx⟩:∃x,Z[q]? =some x:=⟨_,aL (by rw[N.out];exact ae)⟩;obtain⟨y,hy⟩:∃y,H[q]? =some y:=⟨_,aL (by rw[af.out];exact ae)⟩;have ay:=dZ.get hx;have ba:=dV.get hy;have ai:Hid ((G++R).length=q+k):=by unfold Hid;rw[aY,ab.out,ad.out];omega
       have Y:T=x :: Z.drop (q+1):=by rw[<-ar.out];exact(List.drop_eq_getElem_cons (by rw[N.out];exact ae)).trans (by rw[(List.getElem?_eq_some_iff.1 hx).2])
       subst Y;have gx:=e.mid ai.out;have fx:=fun j=>e.free j;have gy:=l.cell q (iL (by rw[f8 (by rw[af.out];exact ae)];exact hy));have ak:=aB (gD Z q);have aj:=aB (gD H q);rw[eO hx] at ak;rw[eO hy] at aj;have HS:=aB (vE ad.out az.out (show c+(x+y)=c+(x+y) from rfl));clear hx hy ar;unfold aD at ay ba;have y1:IntKind.u64.wrap ((x:Int)+y)=((x+y:Nat):Int):=IntWalk.u64_in _ (by omega);have ct:x+y<=8589934590:=by omega
       generalize hX:x+y=X at *;have y2:IntKind.u64.wrap ((c:Int)+X)=((c+X:Nat):Int):=IntWalk.u64_in _ (by omega);have cd:c+X<=8589934591:=by omega
       have bt:=aB hX;clear hX;generalize c+X=s at *;obtain⟨x1,x2,x3,x4⟩:IntKind.i64.wrap ((q:Int)+k)=(q:Int)+k∧(0:Int)<=(q:Int)+k∧((q:Int)+k).toNat=q+k∧q+k<lx+1:=⟨IntWalk.i64_in _ (by omega),by omega,by omega,by omega⟩;go_wp2_with fail;go_quiet (fail);clear y1 y2;go_wp2_with fail;go_roundg m
       case rel=>exact⟨R++[s%aD],Z.drop (q+1),s/aD,q+1,by have:=a0.out;unfold Hid;omega,rR (by unfold aD;omega),by go_num,by unfold aD;omega,gW ad.out,rfl,a3.snoc (Nat.mod_lt _ jY),(by unfold Hid;rw[ak.out,aj.out,HS.out,<-bt.out,Nat.mul_add];omega),(show Bx (wz.drewN _) _ _ _ from l).far _ _ (by omega),by rw[<-List.append_assoc G];exact(show Bx (wz.drewN _) _ (U ((G++R)++x :: (Z.drop (q+1)++4294967295 :: List.replicate z 0))) _ from e).next ai.out (n8 (a:=(s:Int)%4294967296) (b:=s%aD) (by unfold aD;omega)),(show Bx (wz.drewN _) _ _ _ from o).far _ _ (by omega),(dH u _).setCell (p:=⟨A,q+k,none⟩) (show w.heap.size<=A by omega) _⟩
       case measure=>omega
      |zero=>
       have ae:q=i:=a0.out;subst ae;have ci:¬(q:Int)<(q:Int):=by omega
       have Y:T=[]:=by rw[<-ar.out,<-N.out];exact List.drop_length
       subst Y;rw[List.nil_append] at e;have ai:Hid ((G++R).length=k+q):=by unfold Hid;rw[aY,ab.out,ad.out]
       have av:=az.out;rw[fY (by rw[N.out];exact aE),fY (by rw[af.out];exact aE),bc.out] at av;have hR:nv R<aD^q:=by have:=kW a3;rwa [ad.out] at this
       have hr:=B.out.r_;have hV:=bh.out;obtain⟨b1,bo⟩:c=1∧nv R=rt:=by
        rcases(show c=0∨c=1 by omega) with rfl|rfl
        ·rw[Nat.mul_zero] at av;omega
        ·rw[Nat.mul_one] at av;omega
       subst b1;have F:=aB (aq.out R ad.out bo);have gx:=e.mid ai.out;have fx:=fun j=>e.free j;have bk:=o.last;have bj:=fun j=>o.free j;have hq:C-1=qt:=by have:=HQ.out;omega
       have ae:((C:Int)-1)=(qt:Int):=by omega
       clear av hR hr hV bo az ar aq bc;go_wp2_with fail;refine Handed.intro k (Nat.lt_succ_self k) (hJ _ _ _ ⟨_,rfl,rfl,⟨G++R,qt :: rs,(k:Int)-1,z+1,by unfold Hid;omega,rfl,by omega,by omega,by unfold Hid;rw[aY,ab.out,ad.out];omega,by have:=HZ.out;unfold Hid;omega,a4.app a3,?_,F.out.1,F.out.2,(l.far _ _ (show A≠L by omega)).far _ _ (show I≠L by omega),?_,(o.far _ _ (by omega)).prev rfl,by unfold Hid;rw[List.length_cons,bg.out],(u.setCell (p:=⟨A,k+q,none⟩) (show w.heap.size<=A by omega) _).setCell (p:=⟨I,k,none⟩) (show w.heap.size<=I by omega) _⟩,rfl,rfl,rfl,rfl,rfl⟩)
       ·intro d O;rcases List.mem_cons.1 O with rfl|O
        ·exact bp
        ·exact dR d O
       ·rw[List.replicate_succ,<-List.singleton_append,<-List.append_assoc];exact(e.next (y:=0) ai.out rfl).far _ _ (by omega)
def uY (w:World) (a b:Nat) (e:Ending) (w':World):Prop:=∃v u,e= .returned (.tuple #[v,u])∧Mg w' v (a/b)∧Mg w' u (a%b)∧Below w.heap.size w w'
theorem AK (a b:Nat) (va vb:Value) (w:World) (ha:Mg w va a) (ax:Mg w vb b) (la:nl a<=1099511627776) (lb:nl b<=1099511627776) (h0:0<b):
  Calls Tryz.prog 183 #[va,vb] w (uY w a b):=by
 have ac:=AW a b va vb w ha ax la lb;by_cases ad:a<b
 ·rw[gT (by omega)] at ac;obtain⟨X,hX,tX,E⟩:=ha;have lX:=iW tX E;have dX:=hX.dg;obtain⟨A,c,rfl,hc⟩:=hX.form;obtain⟨Y,R,tY,v⟩:=ax;obtain⟨B,d,rfl,hd⟩:=R.form;have HQ:Hid (a/b=0∧a%b=a):=⟨Nat.div_eq_of_lt ad,Nat.mod_eq_of_lt ad⟩;clear R tY v ad;go_enter Tryz.func183,Tryz.ntmps183;go_wp2_with fail;refine ac.mono ?_;rintro e1 u ⟨rfl,g⟩;have G:Below u.heap.size u (u.alloc (.cells #[] 211)):=(aH _ _).alloc aE _;have b8:=((hX.below g).below G).src;have b6:=wG u 211 1;have bx:=aC g G;go_wp2_with (at_builtin;refine fE rfl rfl 211 _ 1 4 Tryz.underlying77 mJ rfl (by decide) u.heap.size (.slice (some ⟨u.heap.size,0,none⟩) 0 0) 0 [] rfl b6 (U X) rfl (by rw[IT,Nat.mul_one]) b8 (IV _) (by omega) (by omega) (by simp) ?_;intro v2 I bk bz ch);rw[List.nil_append] at bk;have hm:=Ds.row bk (aS _).symm dX;go_ret2;exact⟨_,_,rfl,by rw[HQ.out.1];exact Mg.zero _ _ _,by rw[HQ.out.2];exact⟨X,hm,tX,E⟩,bx.grown bz (by have:=g.size;simp;omega) (by simp[Value.ownBlock];exact g.size)⟩
 ·obtain⟨c0,ci,HC⟩:∃c0,¬c0<0∧bN a b=c0:=⟨_,by rcases iH (a:Int) b with ⟨h,_⟩|⟨_,e⟩|⟨_,e⟩<;>omega,rfl⟩;rw[HC] at ac;clear HC;obtain⟨Y,R,tY,v⟩:=id ax;have lY:=iW tY v;obtain⟨B,d,rfl,hd⟩:=R.form;by_cases o:Y.length=1
  ·have q1:((Y.length:Int)==1)=true:=by rw[o];rfl
   obtain⟨y,rfl⟩:∃y,Y=[y]:=List.length_eq_one_iff.1 o;have cb:y=b:=by rw[<-v];simp[nv]
   subst cb;have ab:y<aD:=R.dg y (List.mem_singleton.2 rfl);unfold aD at ab;obtain⟨A,_,_,rfl⟩:=ha.form;simp only[List.length_singleton] at ac;clear ad o v tY;obtain⟨gy,rfl,ay,af⟩:=R.at_ (i:=0) (d:=y) rfl;have ah:=fun (W:World) (D:Below w.heap.size w W)=>(D.cell (p:=⟨gy,0,none⟩) ay).trans af;go_enter Tryz.func183,Tryz.ntmps183;go_wp2_with fail;refine ac.mono ?_;rintro e1 u ⟨rfl,g⟩;have au:=ah u g;clear af ah;go_wp2_with fail;refine(AO a y _ u (ha.below g) la h0 ab).mono ?_;rintro e2 I ⟨v2,rfl,a0, -,ag⟩;have hr:a%y<aD:=by have:=Nat.mod_lt a h0;unfold aD;omega
   have G:Below I.heap.size I (I.alloc (.cells #[.int .u32 ((a%y:Nat):Int)] 211)):=(aH _ _).alloc aE _;have hB:Bx (I.alloc (.cells #[.int .u32 ((a%y:Nat):Int)] 211)) I.heap.size (U [a%y]) 211:=Bx.new _ _ _;replace a0:=a0.below G;have D:=(aC g ag).trans (G.mono (aC g ag).size);have O:=mI [a%y] I.heap.size (a%y) 1 _ hB (fun z hz=>by rw[List.mem_singleton.1 hz];exact hr) (by simp[nv]) aE (by simp);simp only[List.length_singleton] at O;clear hr;generalize hr:a%y=r at *;generalize hq:a/y=q at *;have HR:=aB (And.intro hq hr);clear hr hq;go_wp2_with fail;refine O.mono ?_;rintro e3 w3 ⟨v3,rfl,b4,rfl⟩;go_wp2_with fail;go_ret2;exact⟨_,_,rfl,by rw[HR.out.1];exact a0,by rw[HR.out.2];exact b4,D⟩
  ·have q1:((Y.length:Int)==1)=false:=by simp;omega
   obtain⟨X,hX,tX,E⟩:=ha;have lX:=iW tX E;have dY:=R.dg;obtain⟨A,c,rfl,hc⟩:=hX.form;obtain⟨p,n,hp,hn,HN⟩:∃p n,Y.length=p+1+1∧2<=n∧Hid (n=p+1+1):=by
    have:Y.length≠0:=fun e=>by
     rw[bM e] at v;have:nv []=0:=rfl;omega
    exact⟨Y.length-2,Y.length,by omega,by omega,(show Y.length=_ by omega)⟩
   have cg:Y.length<=X.length:=by
    rcases Nat.lt_or_ge X.length Y.length with h|h
    ·have:=rS hX.dg tY h;omega
    ·exact h
   obtain⟨y,aj⟩:∃y,Y[p+1]? =some y:=⟨_,aL (by omega)⟩;have ca:y≠0:=tY y (by rw[List.getLast?_eq_getElem?,hp];exact aj);have ab:=dY.get aj;obtain⟨S,cc,s1,s2⟩:=JE ca ab;have HY:=aB (fun Z (dZ:Dg Z) (H:Z.length=p+1+2) (hv:nv Z=2^S*nv Y)=>JA dY dZ hp H (eO aj) s1 s2 cc hv);obtain⟨gy,rfl,ay,af⟩:=R.at_ aj;have ah:=fun (W:World) (D:Below w.heap.size w W)=>(D.cell (p:=⟨gy,p+1,none⟩) ay).trans af;have HS:=aB (And.intro s1 s2);have HP:=aB hp;have aq:=aB (And.intro E v);have cd:=aB ad;unfold aD at ab;have cp:p+1<Y.length:=by omega
   clear aj af s1 s2 hp E v ad o;go_enter Tryz.func183,Tryz.ntmps183;go_wp2_with fail;refine ac.mono ?_;rintro e1 u ⟨rfl,g⟩;have au:=ah u g;clear ah;go_wp2_with fail;go_loopg [8] S (fun k t wr=>∃s,Hid (s+k=S)∧t= .int .u64 (s:Int)∧u=wr)
   case atStart=>exact⟨0,by unfold Hid;omega,rfl,rfl⟩
   case round=>
    obtain⟨s,HJ,rfl,rfl⟩:=hrel;have ai:s<32:=by have:=HJ.out;omega
    have b3:y*2^s<=y*2^S:=dL _ (cE (by decide) (by have:=HJ.out;omega));have hw:IntKind.u32.wrap ((y:Int)*2^s)=((y*2^s:Nat):Int):=by
     have:=HS.out.2;rw[show((y:Int)*2^s)=((y*2^s:Nat):Int) by rw[Int.natCast_mul,Int.natCast_pow];rfl];exact IntWalk.u32_in _ (by omega)
    have b2:((Y.length:Int)-1)=((p+1:Nat):Int):=by have:=HP.out;omega
    cases gk with
    |zero=>
     have b7:s=S:=HJ.out;subst b7;have q2:¬((y*2^s:Nat):Int)<2147483648:=by have:=HS.out.1;omega
     generalize y*2^s=yy at *;clear b3;go_wp2_with fail;refine(AQ Y _ s u (R.below g) (by omega) ai).mono ?_;rintro e2 I ⟨rfl,Z,H,aw,dZ,bi,ag⟩;obtain⟨vs,bg,bh,an,dV,bf,a2,bc⟩:=HY.out Z dZ (by rw[aw,HP.out]) bi;have O:=uZ Z _ (Y.length+1) I (Ds.own (es:=[]) (by rw[List.append_nil];exact H) dZ _ (by omega)) (by omega);rw[aw,bh,an,<-HN.out] at O;rw[bg] at H;have ap:=aB bf;have b0:=g.size;have cs:=H.lt;replace g:=aC g ag;clear aw dZ bi bg bh bf HY au;go_wp2_with fail;refine O.mono ?_;rintro e3 w3 ⟨rfl,rfl⟩;go_wp2_with fail;refine(AQ X _ s I (hX.below g) (by omega) ai).mono ?_;rintro e4 w4 ⟨rfl,As,G,ba,dA,av,al⟩;replace H:=H.below al;have cj:=al.size;have cr:=G.lt;replace g:=aC g al;obtain⟨M,hM⟩:∃M,X.length=M+Y.length:=⟨X.length-Y.length,by omega⟩;have ce:((X.length:Int)+1)-(n:Int)=(M:Int)+1:=by have:=HP.out;have:=HN.out;omega
     have HM:=aB hM;have bw:M<=X.length:=by omega
     clear hM;clear O;go_wp2_with (at_make;refine gJ rfl rfl 211 _ 1 4 Tryz.underlying77 mJ rfl (by decide) (M+1) rfl rfl rfl rfl (by omega) (by omega) ?_;intro w5 cu bm am);have Q:=Bx.zeros bm;replace G:=G.below am;replace H:=H.below am;replace g:=aC g am;have ae:=JB (M:=M) hX.dg an (by rw[HM.out,HP.out]) a2 ai;rw[<-av] at ae;have bu:=aB ae;have bs:=aB av;have bb:As.length=n+(M+1):=by rw[ba,HM.out,HP.out,HN.out];omega
     have br:=aB bb;have HV:Hid (Dvs vs n p):=⟨HN.out,by rw[an,HN.out],dV,a2,by rw[HN.out];exact bc⟩;have a8:Hid (X.length+1=n+(M+1)):=by unfold Hid;rw[HM.out,HP.out,HN.out];omega
     have b5:n<=Y.length+1:=by have:=HP.out;have:=HN.out;omega
     have cq:Hid (2^s*nv Y=nv vs):=ap.out.symm;clear bm am al ag ae av ba bb an a2 bc ac b2;generalize u.heap.size=gv at *;generalize I.heap.size=C at *;generalize w4.heap.size=gq at *;go_wp2_with fail;refine wp_loop_ghost_k (DvI w (.int .u64 (s:Int)) gv C gq n M vs As X.length Y.length) (M+1) ⟨_,rfl,rfl,⟨As,[],(M:Int),0,by unfold Hid;omega,rfl,by omega,by omega,br.out,by unfold Hid;omega,dA,(fun d hd=>by cases hd),bu.out,by unfold Hid;rw[oK,Nat.mul_zero,Nat.add_zero],H,by rw[List.replicate_zero,List.append_nil];exact G,by rw[List.append_nil];exact Q,rfl,g⟩,rfl,rfl,rfl,rfl,rfl⟩ ?_;intro gk a' wr hI JJ K hJ hK;clear H G Q g dA;cases gk with
     |succ k=>exact IP HV b0 (by omega) (by omega) a8 (by omega) hn b5 bw k hI JJ K _ hJ hK
     |zero=>
      clear hJ hK;obtain⟨f,J,⟨us,rs,j,z,a4,rfl,cm,cn,a6,HZ,dU,dR,a5,a3,VX,N,QX,ao,D⟩,rfl⟩:=hI.open_;unfold rO rN;have cl:¬0<=j:=by have:=a4.out;omega
      have hz:z=M+1:=HZ.out;subst hz;have bn:us.length=n:=a6.out
      obtain⟨hq,hr⟩:nv rs=a/b∧nv us=2^s*(a%b):=JH h0 (by
       have o:=a3.out;rw[Nat.pow_zero,Nat.mul_one,ap.out,bs.out,aq.out.1,aq.out.2] at o;exact o) (by
       have o:=a5.out;rw[Nat.pow_zero,Nat.mul_one,ap.out,aq.out.2] at o;exact o)
      have co:n<=X.length+1:=by have:=a8.out;omega
      have O:=uZ us _ (X.length+1) wr (Ds.own N dU _ (by omega)) (by omega);rw[bn] at O;obtain⟨tl,bo, -, -⟩:=n9 aW us;have a9:=dU.trim;have a1:=B0 us;rw[hr] at a1;have bv:=mK aW us;rw[bn] at bv;generalize aX aW us=m at *;rw[bo,List.append_assoc] at N;generalize tl++List.replicate (M+1) 0=bp at *;have HQ:=aB hq;have bt:=aB a1;clear hq hr bo a1 a3 a5 a6 a4 HZ dU;go_wp2_with fail;refine O.mono ?_;rintro e6 w6 ⟨rfl,rfl⟩;clear O;go_wp2_with fail
      go_loopg [26] m.length (fun k t wy=>∃(P T:List Nat) (i:Nat),Hid (i+k=m.length)∧t= .int .i64 (i:Int)∧Hid (P.length=i)∧Hid (m.drop i=T)∧Dg P∧Hid (2^s*nv P+bO m 0%2^s=nv (m.take i)+aD^i*(bO m i%2^s))∧
       Bx wy C (U (P++(T++bp))) 211∧Bx wy gq (U (List.replicate 0 0++rs)) 211∧Below w.heap.size w wy)
      case atStart=>exact⟨[],m,0,by unfold Hid;omega,rfl,rfl,rfl,(fun d hd=>by cases hd),by unfold Hid;rw[List.take_zero,oK,Nat.mul_zero,Nat.pow_zero,Nat.one_mul],N,QX,D⟩
      case round=>
       clear N VX QX D;obtain⟨P,T,i,HI,rfl,F,HT,dP,a7,N,QX,D⟩:=hrel;generalize wr=wy at *;have ck:(0:Int)<=(i:Int):=by omega
       cases gk with
       |zero=>
        have hi:i=m.length:=HI.out;subst hi;have az:¬(m.length:Int)<(m.length:Int):=by omega
        have hT:T=[]:=by rw[<-HT.out];exact List.drop_length
        subst hT;rw[List.nil_append] at N;rw[List.replicate_zero,List.nil_append] at QX
        have hv:nv P=a%b:=JG (r:=bO m 0) (by
         have o:=a7.out;rw[fY aE,oJ aE,Nat.zero_mod,Nat.mul_zero,Nat.add_zero] at o;exact o) bt.out
        have t1:=mI rs gq (a/b) (M+1) wy QX dR HQ.out (by rw[ao.out];exact aE) (by rw[ao.out];omega);have t2:=AU P bp C (a%b) (X.length+1) wy N dP hv (by rw[F.out];omega) (by rw[F.out];omega);rw[ao.out] at t1;rw[F.out] at t2;go_wp2_with fail;refine t1.mono ?_;rintro e7 w7 ⟨v7,rfl,m7,rfl⟩;go_wp2_with fail;refine t2.mono ?_;rintro e8 w8 ⟨v8,rfl,m8,rfl⟩;go_wp2_with fail;go_ret2;exact⟨_,_,rfl,m7,m8,D⟩
       |succ k=>
        have az:i<m.length:=by have:=HI.out;omega
        obtain⟨x,E⟩:∃x,m[i]? =some x:=⟨_,aL az⟩;have bq:=a9.get E;have hT:T=x :: m.drop (i+1):=by rw[<-HT.out];exact(List.drop_eq_getElem_cons az).trans (by rw[(List.getElem?_eq_some_iff.1 E).2])
        subst hT;have b9:2^s*nv P+bO m 0%2^s=nv (m.take i)+aD^i*(x%2^s):=by have:=a7.out;rw[eO E] at this;exact this
        have ae:=fun y=>aB (JF (y:=y) ai F.out b9);have HX:=aB (gD m i);rw[eO E] at HX;clear E HT;have gx:=N.mid F.out;have fx:=fun j=>N.free j;have U1:=N.next (y:=x/2^s) F.out rfl;have y1:(x:Int)/2^s=((x/2^s:Nat):Int):=by rw[Int.natCast_ediv,Int.natCast_pow];rfl
        have ct:x/2^s<=x:=Nat.div_le_self _ _;unfold aD at bq;by_cases bj:i+1<m.length
        ·obtain⟨y,v⟩:∃y,m[i+1]? =some y:=⟨_,aL bj⟩;have ab:=a9.get v;have hT:m.drop (i+1)=y :: m.drop (i+2):=(List.drop_eq_getElem_cons bj).trans (by rw[(List.getElem?_eq_some_iff.1 v).2]);have HT:=aB hT;rw[hT] at U1;have gz:=U1.cell i (iL (by rw[List.append_assoc];exact vD F.out));have au:=U1.mid (gW F.out);have fz:=fun j=>U1.free j;unfold aD at ab;have ar:bO m (i+1)=y:=eO v;have b1:(i:Int)+1<(m.length:Int):=by omega
         replace ar:=aB ar;obtain⟨V,L,k1,k2,k3,k4,k5,k6⟩:=IR ai bq ab;have ak:=ae y;rw[<-k5] at ak;have k7:=IntWalk.i64_in ((i:Int)+1) (by omega);have k8:(0:Int)<=(i:Int)+1:=by omega
         have k9:((i:Int)+1).toNat=i+1:=by omega
         have U2:=U1;rw[List.append_assoc] at U2;have U3:=U2.next (y:=x/2^s+L) F.out rfl;clear v hT k5;generalize x/2^s=xq at *;go_wp2_with fail;go_region
         all_goals (
          go_wp2_with fail;go_roundg k
          case rel=>exact⟨P++[xq+L],m.drop (i+1),i+1,by have:=HI.out;unfold Hid;omega,by go_num,gW F.out,rfl,dP.snoc (by unfold aD;omega),(by
           unfold Hid;rw[HX.out,ar.out];exact ak.out),(by rw[HT.out];exact U3),(QX.far _ _ (show C≠gq by omega)).far _ _ (show C≠gq by omega),((D.setCell (p:=⟨C,i,none⟩) (show w.heap.size<=C by omega) _).setCell (p:=⟨C,i,none⟩) (show w.heap.size<=C by omega) _).drew⟩
          case measure=>omega)
        ·have b1:¬(i:Int)+1<(m.length:Int):=by omega
         have ak:=ae 0;generalize x/2^s=xq at *;go_wp2_with fail;go_roundg k
         case rel=>exact⟨P++[xq],m.drop (i+1),i+1,by have:=HI.out;unfold Hid;omega,by go_num,gW F.out,rfl,dP.snoc (by unfold aD;omega),by
          unfold Hid;rw[HX.out,oJ (l:=m) (i:=i+1) (by omega)];have:=ak.out;rw[Nat.zero_mod,Nat.mul_zero,Nat.add_zero,Nat.mul_zero,Nat.add_zero] at this;rw[Nat.zero_mod,Nat.mul_zero,Nat.add_zero];exact this,U1,QX.far _ _ (show C≠gq by omega),D.setCell (p:=⟨C,i,none⟩) (show w.heap.size<=C by omega) _⟩
         case measure=>omega
    |succ k=>
     have q2:((y*2^s:Nat):Int)<2147483648:=by
      have o:=HS.out.2;have h2:y*2^(s+1)<=y*2^S:=dL _ (cE (by decide) (by have:=HJ.out;omega));rw[cU] at h2;have h3:y*(2^s*2)=y*2^s*2:=by rw[Nat.mul_assoc]
      omega
     generalize y*2^s=yy at *;go_wp2_with fail;go_roundg k
     case rel=>exact⟨s+1,by have:=HJ.out;unfold Hid;omega,by go_num,rfl⟩
     case measure=>omega
def NI (w:World) (v:Value) (n:Int):Prop:=∃u,v= .agg #[.bool (decide (n<0)),u]∧Mg w u n.natAbs
def kV (w:World) (n:Int) (e:Ending) (w':World):Prop:=∃v,e= .returned v∧NI w' v n∧Below w.heap.size w w'
section
variable {w w':World} {v u:Value} {n:Int} {s:Bool}
theorem NI.below (h:NI w v n) (a:Below w.heap.size w w'):NI w' v n:=by
 obtain⟨u,e,h⟩:=h;exact⟨u,e,h.below a⟩
theorem NI.keep (h:NI w v n) (a:KM w w'):NI w' v n:=by
 obtain⟨u,e,h⟩:=h;exact⟨u,e,h.keep a⟩
theorem NI.drew (h:NI w v n):NI w.drew v n:=h.below (aH _ _).drew
theorem NI.form (h:NI w v n):∃s A k c,v= .agg #[.bool s,.slice A k c]:=by
 obtain⟨u,rfl,h⟩:=h;obtain⟨A,k,c,rfl⟩:=h.form;exact⟨_,A,k,c,rfl⟩
theorem NI.words (h:NI w (.agg #[.bool s,u]) n):Mg w u n.natAbs:=by
 obtain⟨u,e,h⟩:=h;simp at e;rw[e.2];exact h
theorem NI.neg (h:NI w (.agg #[.bool s,u]) n):s=decide (n<0):=by
 obtain⟨u,e,h⟩:=h;simp at e;exact e.1
theorem NI.zero (w:World):NI w (.agg #[.bool false,.slice none 0 0]) 0:=⟨_,rfl,Mg.zero _ _ _⟩
theorem Mg.len {A:Option Addr} {k c m:Nat} (h:Mg w (.slice A k c) m):(k=0↔m=0)∧k<=2*nl m:=by
 obtain⟨i,d,b,a⟩:=h;obtain⟨f,g,e,_⟩:=d.form;simp only[Value.slice.injEq] at e;obtain⟨_,rfl,_⟩:=e;refine⟨⟨fun h=> ?_,fun h=> ?_⟩,iW b a⟩
 ·rw[bM h] at a;exact a.symm
 ·rw[JM b (a.trans h)];rfl
end
theorem n0 (s:Bool) (u:Value) (m:Nat) (n:Int) (w:World) (g:Mg w u m) (q:nl m<=1099511627776) (hn:n.natAbs=m) (f:(s=true∧m≠0)↔n<0):
  Calls Tryz.prog 155 #[.bool s,u] w (kV w n):=by
 obtain⟨A,k,c,rfl⟩:=g.form;obtain⟨o,p⟩:=g.len;have a:Below w.heap.size w (w.alloc (.cells #[.bool (decide (n<0)),.slice A k c] 79)):=(aH _ _).alloc aE _;have h:=aB hn;clear hn;by_cases d:s=true∧m≠0
 ·have b:decide (n<0)=true:=by simpa using f.1 d
  have e:NI (w.alloc (.cells #[.bool (decide (n<0)),.slice A k c] 79)) (.agg #[.bool (decide (n<0)),.slice A k c]) n:=⟨_,rfl,by rw[h.out];exact g.below a⟩;rw[b] at e a;obtain⟨rfl,l⟩:=d;have j:decide (0<k)=true:=by simp;omega
  clear f b;go_enter Tryz.func155,Tryz.ntmps155;go_wp2_with fail;exact aK (v:= .agg #[.bool true,.slice A k c]) (by simp[results,Tryz.results155,go_sem]) rfl ⟨_,rfl,e,a⟩
 ·have b:decide (n<0)=false:=by rw[decide_eq_false_iff_not,<-f];exact d
  have e:NI (w.alloc (.cells #[.bool (decide (n<0)),.slice A k c] 79)) (.agg #[.bool (decide (n<0)),.slice A k c]) n:=⟨_,rfl,by rw[h.out];exact g.below a⟩;rw[b] at e a;have i:s=false∨s=true∧decide (0<k)=false:=by
   cases s with
   |false=>exact .inl rfl
   |true=>exact .inr ⟨rfl,by have:m=0:=by simpa using d
                             simp;omega⟩
  clear f b d;rcases i with rfl|⟨rfl,j⟩
  all_goals (
   go_enter Tryz.func155,Tryz.ntmps155;go_wp2_with fail;exact aK (v:= .agg #[.bool false,.slice A k c]) (by simp[results,Tryz.results155,go_sem]) rfl ⟨_,rfl,e,a⟩)
theorem AH (n:Nat) (w:World) (hn:n<=1000000):
  Calls Tryz.prog 145 #[.int .i64 (n:Int)] w (kV w n):=by
 have D:¬((n:Int)<0):=by omega
 have E:(n:Int)/4294967296=0:=by omega
 have F:(n:Int)%4294967296=n:=by omega
 obtain⟨W,h,a,R⟩:=bB w [.bool false,.slice none 0 0] 79;have c:=R.g2;go_enter Tryz.func145,Tryz.ntmps145;go_wp2_with fail;(try rw[h]);clear h;obtain⟨x,g,j,B⟩:=bB W [.int .u32 (n:Int),.int .u32 0] 211;rw[g];clear g;have l:=mI [n,0] W.heap.size n 2 x B (fun d q=>by simp at q;unfold aD;omega) (by simp[nv]) aE (by simp);simp only[List.length_cons,List.length_nil] at l;refine l.mono ?_;rintro z H ⟨v,rfl,t,rfl⟩;replace R:=R.below j;replace c:=R.g2;replace a:=aC a j;go_wp2_with fail;refine(n0 false v n n _ t (aG (bW (m:=1) (by unfold BN;omega)) (by decide)) rfl (by simp)).mono ?_;rintro A I ⟨G,rfl,b,k⟩;obtain⟨p,e,o,f,rfl⟩:=b.form;replace R:=R.below k;replace c:=R.g2;replace a:=aC a k;go_wp2_with fail;obtain⟨y,i,R,a,r,C⟩:=R.mut2 a (by omega) (.bool p) (.slice e o f) rfl rfl;replace b:=b.keep r;rw[i];clear i;replace c:=R.k2;exact aK (v:= .agg #[.bool p,.slice e o f]) (by simp[results,Tryz.results145,go_sem,R.k2]) rfl ⟨_,rfl,b,a⟩
theorem AI (n:Int) (v:Value) (w:World) (hv:NI w v n) (i:nl n.natAbs<=1099511627776):
  Calls Tryz.prog 156 #[v] w (dK w n.sign):=by
 obtain⟨s,A,k,c,rfl⟩:=hv.form;have a:=hv.neg;obtain⟨d,j⟩:=hv.words.len;have f:Below w.heap.size w (w.alloc (.cells #[.bool s,.slice A k c] 79)):=(aH _ _).alloc aE _;rcases Int.lt_trichotomy n 0 with h|h|h
 ·have b:s=true:=by rw[a];simpa using h
  subst b;have e:Hid (n.sign= -1):=Int.sign_eq_neg_one_of_neg h;clear a h d;go_enter Tryz.func156,Tryz.ntmps156;go_wp2_with fail;go_ret;exact⟨by rw[e.out];rfl,f⟩
 ·subst h;have b:s=false:=by rw[a];rfl
  subst b;have g:k=0:=d.2 rfl;subst g;clear a d;go_enter Tryz.func156,Tryz.ntmps156;go_wp2_with fail;go_ret;exact⟨rfl,f⟩
 ·have b:s=false:=by rw[a];simp;omega
  subst b;have g:((k:Int)==0)=false:=by simp;omega
  have e:Hid (n.sign=1):=Int.sign_eq_one_of_pos h;clear a h d;go_enter Tryz.func156,Tryz.ntmps156;go_wp2_with fail;go_ret;exact⟨by rw[e.out];rfl,f⟩
theorem uX (n:Int) (v:Value) (w:World) (hv:NI w v n) (q:nl n.natAbs<=1099511627776):
  Calls Tryz.prog 165 #[v] w (kV w (-n)):=by
 obtain⟨s,A,k,c,rfl⟩:=hv.form;have r:=fun W h=>n0 (!s) (.slice A k c) n.natAbs (-n) W h q (by omega) (by rw[hv.neg];simp;omega);obtain⟨W,i,a,B,R⟩:=dI w [.bool s,.slice A k c] 79 [.bool false,.slice none 0 0] 79;have g:=aa B.g2 R.g2;go_enter Tryz.func165,Tryz.ntmps165;go_wp2_with fail;(try rw[i]);clear i;refine(r _ (hv.below a).words).mono ?_;rintro x z ⟨y,rfl,b,d⟩;obtain⟨m,e,l,f,rfl⟩:=b.form;replace B:=B.below d;replace R:=R.below d;replace g:=aa B.k2 R.g2;replace a:=aC a d;go_wp2_with fail;obtain⟨t,j,R,a,p,o⟩:=R.mut2 a (by omega) (.bool m) (.slice e l f) rfl rfl;replace B:=o B (by omega);replace b:=b.keep p;rw[j];clear j;replace g:=aa B.k2 R.k2;exact aK (v:= .agg #[.bool m,.slice e l f]) (by simp[results,Tryz.results165,go_sem,R.k2]) rfl ⟨_,rfl,b,a⟩
theorem AJ (x y:Int) (vx vy:Value) (w:World) (f:NI w vx x) (g:NI w vy y) (lx:nl x.natAbs<=549755813888) (ly:nl y.natAbs<=549755813888):
  Calls Tryz.prog 178 #[vx,vy] w (kV w (x+y)):=by
 obtain⟨s,A,k,c,rfl⟩:=f.form;obtain⟨t,C,l,d,rfl⟩:=g.form;have J:=f.neg;have N:=g.neg;have Z:nl (x+y).natAbs<=1099511627776:=by
  have p:nl (x+y).natAbs<=nl (x.natAbs+y.natAbs):=bX (by omega);have:=oP x.natAbs y.natAbs;omega
 have O:=fun W u v p r=>AW x.natAbs y.natAbs u v W p r (by omega) (by omega);by_cases z:s=t
 ·have B:(x+y).natAbs=x.natAbs+y.natAbs:=by rw[J,N] at z;by_cases p:x<0<;>by_cases r:y<0<;>simp[p,r] at z<;>omega
  have K:(s=true∧x.natAbs+y.natAbs≠0)↔x+y<0:=by rw[J,N] at z;rw[J];by_cases p:x<0<;>by_cases r:y<0<;>simp[p,r] at z⊢<;>omega
  have P:=fun W u h=>n0 s u (x.natAbs+y.natAbs) (x+y) W h (by rw[<-B];exact Z) B K;clear J N B K O;subst z;obtain⟨W,G,a,X,Y,R⟩:=fF w [.bool s,.slice A k c] 79 [.bool s,.slice C l d] 79 [.bool false,.slice none 0 0] 79;have o:=aa X.g2 (aa Y.g2 R.g2);go_enter Tryz.func178,Tryz.ntmps178;go_wp2_with fail;(try rw[G]);clear G;replace f:=f.below a;replace g:=g.below a;replace f:=f.drew;replace g:=g.drew;replace X:=X.drew;replace Y:=Y.drew;replace R:=R.drew;replace a:=a.drew;replace o:=aa X.k2 (aa Y.k2 R.g2);have Q:w.heap.size+1+1≠w.heap.size:=by omega
  have S:w.heap.size+1+1≠w.heap.size+1:=by omega
  go_region_held3 (fun w'=>C2 w' w.heap.size (.bool s) (.slice A k c)∧C2 w' (w.heap.size+1) (.bool s) (.slice C l d))
   (first|(with_reducible exact⟨X.k2,Y.k2⟩)|(refine⟨?_,?_⟩<;>(repeat (first|with_reducible exact X.k2|with_reducible exact Y.k2|with_reducible refine dW Q ?_|with_reducible refine dW S ?_))))
   (first
    |(go_at_call 190;(with_reducible refine(AV _ _ _ _ _ f.words g.words (by omega) (by omega)).mono ?_);rintro e4 w4 ⟨v4,rfl,q,j⟩;obtain⟨A4,k4,c4,rfl⟩:=q.form;replace X:=X.below j;replace Y:=Y.below j;replace R:=R.below j;replace o:=aa X.k2 (aa Y.k2 R.g2);replace b:=KM.below j;replace f:=f.keep b;replace g:=g.keep b;(try replace i:=i.keep b);replace a:=aC a j)
    |(go_at_call 155;(with_reducible refine(P _ _ q).mono ?_);rintro e5 w5 ⟨v5,rfl,i,m⟩;obtain⟨M,E,L,F,rfl⟩:=i.form;replace X:=X.below m;replace Y:=Y.below m;replace R:=R.below m;replace o:=aa X.k2 (aa Y.k2 R.g2);replace b:=KM.below m;replace f:=f.keep b;replace g:=g.keep b;(try replace q:=q.keep b);replace a:=aC a m))
  go_wp2_with fail;obtain⟨W6,H,R,a,b,I⟩:=R.mut2 a (by omega) (.bool M) (.slice E L F) rfl rfl;replace X:=I X (by omega);replace Y:=I Y (by omega);replace i:=i.keep b;rw[H];clear H;replace o:=aa X.k2 (aa Y.k2 R.k2);exact aK (v:= .agg #[.bool M,.slice E L F]) (by simp[results,Tryz.results178,go_sem,R.k2]) rfl ⟨_,rfl,i,a⟩
 ·have q0:(s==t)=false:=by simpa using z
  rw[J,N] at z;rcases Nat.lt_or_ge x.natAbs y.natAbs with U|U
  ·have B:(x+y).natAbs=y.natAbs-x.natAbs:=by by_cases p:x<0<;>by_cases r:y<0<;>simp[p,r] at z<;>omega
   have K:(t=true∧y.natAbs-x.natAbs≠0)↔x+y<0:=by rw[N];by_cases p:x<0<;>by_cases r:y<0<;>simp[p,r] at z⊢<;>omega
   have P:=fun W u h=>n0 t u (y.natAbs-x.natAbs) (x+y) W h (by rw[<-B];exact Z) B K;have V:x.natAbs<=y.natAbs:=by omega
   rw[gT (by omega)] at O;clear J N B K z U;obtain⟨W,G,a,X,Y,R⟩:=fF w [.bool s,.slice A k c] 79 [.bool t,.slice C l d] 79 [.bool false,.slice none 0 0] 79;have o:=aa X.g2 (aa Y.g2 R.g2);go_enter Tryz.func178,Tryz.ntmps178;go_wp2_with fail;(try rw[G]);clear G;replace f:=f.below a;replace g:=g.below a;refine(O _ _ _ f.words g.words).mono ?_;rintro e1 w1 ⟨rfl,D⟩;replace X:=X.below D;replace Y:=Y.below D;replace R:=R.below D;replace o:=aa X.k2 (aa Y.k2 R.g2);replace b:=KM.below D;replace f:=f.keep b;replace g:=g.keep b;replace a:=aC a D;go_wp2_with fail;replace f:=f.drew;replace g:=g.drew;replace X:=X.drew;replace Y:=Y.drew;replace R:=R.drew;replace a:=a.drew;replace o:=aa X.k2 (aa Y.k2 R.g2);have Q:w.heap.size+1+1≠w.heap.size:=by omega
   have S:w.heap.size+1+1≠w.heap.size+1:=by omega
   go_region_held3 (fun w'=>C2 w' w.heap.size (.bool s) (.slice A k c)∧C2 w' (w.heap.size+1) (.bool t) (.slice C l d))
    (first|(with_reducible exact⟨X.k2,Y.k2⟩)|(refine⟨?_,?_⟩<;>(repeat (first|with_reducible exact X.k2|with_reducible exact Y.k2|with_reducible refine dW Q ?_|with_reducible refine dW S ?_))))
    (first
     |(go_at_call 205;(with_reducible refine(AX _ _ _ _ _ g.words f.words (by omega) (by omega) V).mono ?_);rintro e4 w4 ⟨v4,rfl,q,j⟩;obtain⟨A4,k4,c4,rfl⟩:=q.form;replace X:=X.below j;replace Y:=Y.below j;replace R:=R.below j;replace o:=aa X.k2 (aa Y.k2 R.g2);replace b:=KM.below j;replace f:=f.keep b;replace g:=g.keep b;(try replace i:=i.keep b);replace a:=aC a j)
     |(go_at_call 155;(with_reducible refine(P _ _ q).mono ?_);rintro e5 w5 ⟨v5,rfl,i,m⟩;obtain⟨M,E,L,F,rfl⟩:=i.form;replace X:=X.below m;replace Y:=Y.below m;replace R:=R.below m;replace o:=aa X.k2 (aa Y.k2 R.g2);replace b:=KM.below m;replace f:=f.keep b;replace g:=g.keep b;(try replace q:=q.keep b);replace a:=aC a m))
   go_wp2_with fail;obtain⟨W6,H,R,a,b,I⟩:=R.mut2 a (by omega) (.bool M) (.slice E L F) rfl rfl;replace X:=I X (by omega);replace Y:=I Y (by omega);replace i:=i.keep b;rw[H];clear H;replace o:=aa X.k2 (aa Y.k2 R.k2);exact aK (v:= .agg #[.bool M,.slice E L F]) (by simp[results,Tryz.results178,go_sem,R.k2]) rfl ⟨_,rfl,i,a⟩
  ·have B:(x+y).natAbs=x.natAbs-y.natAbs:=by by_cases p:x<0<;>by_cases r:y<0<;>simp[p,r] at z<;>omega
   have K:(s=true∧x.natAbs-y.natAbs≠0)↔x+y<0:=by rw[J];by_cases p:x<0<;>by_cases r:y<0<;>simp[p,r] at z⊢<;>omega
   have P:=fun W u h=>n0 s u (x.natAbs-y.natAbs) (x+y) W h (by rw[<-B];exact Z) B K;have V:y.natAbs<=x.natAbs:=by omega
   obtain⟨T,ab,ac⟩:∃T,bN x.natAbs y.natAbs=T∧¬T<0:=⟨_,rfl,by rcases iH (x.natAbs:Int) y.natAbs with ⟨h,_⟩|⟨_,e⟩|⟨_,e⟩<;>omega⟩;rw[ab] at O;clear J N B K z U ab;obtain⟨W,G,a,X,Y,R⟩:=fF w [.bool s,.slice A k c] 79 [.bool t,.slice C l d] 79 [.bool false,.slice none 0 0] 79;have o:=aa X.g2 (aa Y.g2 R.g2);go_enter Tryz.func178,Tryz.ntmps178;go_wp2_with fail;(try rw[G]);clear G;replace f:=f.below a;replace g:=g.below a;refine(O _ _ _ f.words g.words).mono ?_;rintro e1 w1 ⟨rfl,D⟩;replace X:=X.below D;replace Y:=Y.below D;replace R:=R.below D;replace o:=aa X.k2 (aa Y.k2 R.g2);replace b:=KM.below D;replace f:=f.keep b;replace g:=g.keep b;replace a:=aC a D;go_wp2_with fail;replace f:=f.drew;replace g:=g.drew;replace X:=X.drew;replace Y:=Y.drew;replace R:=R.drew;replace a:=a.drew;replace o:=aa X.k2 (aa Y.k2 R.g2);have Q:w.heap.size+1+1≠w.heap.size:=by omega
   have S:w.heap.size+1+1≠w.heap.size+1:=by omega
   go_region_held3 (fun w'=>C2 w' w.heap.size (.bool s) (.slice A k c)∧C2 w' (w.heap.size+1) (.bool t) (.slice C l d))
    (first|(with_reducible exact⟨X.k2,Y.k2⟩)|(refine⟨?_,?_⟩<;>(repeat (first|with_reducible exact X.k2|with_reducible exact Y.k2|with_reducible refine dW Q ?_|with_reducible refine dW S ?_))))
    (first
     |(go_at_call 205;(with_reducible refine(AX _ _ _ _ _ f.words g.words (by omega) (by omega) V).mono ?_);rintro e4 w4 ⟨v4,rfl,q,j⟩;obtain⟨A4,k4,c4,rfl⟩:=q.form;replace X:=X.below j;replace Y:=Y.below j;replace R:=R.below j;replace o:=aa X.k2 (aa Y.k2 R.g2);replace b:=KM.below j;replace f:=f.keep b;replace g:=g.keep b;(try replace i:=i.keep b);replace a:=aC a j)
     |(go_at_call 155;(with_reducible refine(P _ _ q).mono ?_);rintro e5 w5 ⟨v5,rfl,i,m⟩;obtain⟨M,E,L,F,rfl⟩:=i.form;replace X:=X.below m;replace Y:=Y.below m;replace R:=R.below m;replace o:=aa X.k2 (aa Y.k2 R.g2);replace b:=KM.below m;replace f:=f.keep b;replace g:=g.keep b;(try replace q:=q.keep b);replace a:=aC a m))
   go_wp2_with fail;obtain⟨W6,H,R,a,b,I⟩:=R.mut2 a (by omega) (.bool M) (.slice E L F) rfl rfl;replace X:=I X (by omega);replace Y:=I Y (by omega);replace i:=i.keep b;rw[H];clear H;replace o:=aa X.k2 (aa Y.k2 R.k2);exact aK (v:= .agg #[.bool M,.slice E L F]) (by simp[results,Tryz.results178,go_sem,R.k2]) rfl ⟨_,rfl,i,a⟩
theorem oI (s:Bool) (u:Value) (m:Nat) (n:Int) (w:World) (a:Mg w u m) (b:nl m<=1099511627776) (hn:n=if s then -(m:Int) else m):
  Calls Tryz.prog 155 #[.bool s,u] w (kV w n):=by
 exact n0 s u m n w a b (by cases s<;>simp at hn<;>omega) (by cases s<;>simp at hn⊢<;>omega)
theorem mH (x y:Int) (D E:Value) (w:World) (b:NI w D x) (e:NI w E y) (Q:nl x.natAbs<=549755813888) (S:nl y.natAbs<=549755813888):
  Calls Tryz.prog 149 #[D,E] w (kV w (x*y)):=by
 obtain⟨s,A,k,c,rfl⟩:=b.form;obtain⟨t,C,l,d,rfl⟩:=e.form;have n:=vS x y;rw[<-b.neg,<-e.neg] at n;have G:=aB n;have O:=dJ x.natAbs y.natAbs;clear n;obtain⟨W,q,a,X,Y,R⟩:=fF w [.bool s,.slice A k c] 79 [.bool t,.slice C l d] 79 [.bool false,.slice none 0 0] 79;have j:=aa X.g2 (aa Y.g2 R.g2);go_enter Tryz.func149,Tryz.ntmps149;go_wp2_with fail;(try rw[q]);clear q;replace b:=b.below a;replace e:=e.below a;replace b:=b.drew;replace e:=e.drew;replace X:=X.drew;replace Y:=Y.drew;replace R:=R.drew;replace a:=a.drew;replace j:=aa X.k2 (aa Y.k2 R.g2);have H:w.heap.size+1+1≠w.heap.size:=by omega
 have I:w.heap.size+1+1≠w.heap.size+1:=by omega
 go_region_held3 (fun F=>C2 F w.heap.size (.bool s) (.slice A k c)∧C2 F (w.heap.size+1) (.bool t) (.slice C l d))
  (first|(with_reducible exact⟨X.k2,Y.k2⟩)|(refine⟨?_,?_⟩<;>(repeat (first|with_reducible exact X.k2|with_reducible exact Y.k2|with_reducible refine dW H ?_|with_reducible refine dW I ?_))))
  (first
   |(go_at_call 184;(with_reducible refine(AS _ _ _ _ _ b.words e.words (by omega) (by omega)).mono ?_);rintro M V ⟨T,rfl,m,h⟩;obtain⟨J,P,L,rfl⟩:=m.form;replace X:=X.below h;replace Y:=Y.below h;replace R:=R.below h;replace j:=aa X.k2 (aa Y.k2 R.g2);replace f:=KM.below h;replace b:=b.keep f;replace e:=e.keep f;(try replace g:=g.keep f);replace a:=aC a h)
   |(go_at_call 155;(with_reducible refine(oI _ _ _ (x*y) _ m (by omega) G.out).mono ?_);rintro N Z ⟨U,rfl,g,i⟩;obtain⟨B,o,z,p,rfl⟩:=g.form;replace X:=X.below i;replace Y:=Y.below i;replace R:=R.below i;replace j:=aa X.k2 (aa Y.k2 R.g2);replace f:=KM.below i;replace b:=b.keep f;replace e:=e.keep f;(try replace m:=m.keep f);replace a:=aC a i))
 go_wp2_with fail;obtain⟨K,r,R,a,f,u⟩:=R.mut2 a (by omega) (.bool B) (.slice o z p) rfl rfl;replace X:=u X (by omega);replace Y:=u Y (by omega);replace g:=g.keep f;rw[r];clear r;replace j:=aa X.k2 (aa Y.k2 R.k2);exact aK (v:= .agg #[.bool B,.slice o z p]) (by simp[results,Tryz.results149,go_sem,R.k2]) rfl ⟨_,rfl,g,a⟩
def AC (w:World) (m n:Int) (e:Ending) (w':World):Prop:=∃u v,e= .returned (.tuple #[u,v])∧NI w' u m∧NI w' v n∧Below w.heap.size w w'
theorem AE (x y:Int) (T U:Value) (w:World) (n:NI w T x) (o:NI w U y) (lx:nl x.natAbs<=549755813888) (ly:nl y.natAbs<=549755813888) (ah:y≠0):
  Calls Tryz.prog 148 #[T,U] w (AC w (x.tdiv y) (x.tmod y)):=by
 obtain⟨s,A,k,c,rfl⟩:=n.form;obtain⟨t,C,l,d,rfl⟩:=o.form;have B:=BI x y;have E:=BJ x y;rw[<-n.neg] at B E;rw[<-o.neg] at B;have Z:=aB B;have HR:=aB E;have af:nl (x.natAbs/y.natAbs)<=nl x.natAbs:=bX (Nat.div_le_self _ _);have ag:nl (x.natAbs%y.natAbs)<=nl x.natAbs:=bX (Nat.mod_le _ _);have D:=fun W u v h1 h2=>AK x.natAbs y.natAbs u v W h1 h2 (by omega) (by omega) (by omega);unfold uY at D;generalize x.natAbs/y.natAbs=q at *;generalize x.natAbs%y.natAbs=r at *;generalize x.tdiv y=Q at *;generalize x.tmod y=R' at *;clear B E;obtain⟨W,K,a,X,Y,R,S⟩:=wZ w [.bool s,.slice A k c] 79 [.bool t,.slice C l d] 79 [.bool false,.slice none 0 0] 79 [.bool false,.slice none 0 0] 79;have p:=aa X.g2 (aa Y.g2 (aa R.g2 S.g2));go_enter Tryz.func148,Tryz.ntmps148;go_wp2_with fail;(try rw[K]);clear K;replace n:=n.below a;replace o:=o.below a;refine(D _ _ _ n.words o.words).mono ?_;rintro e3 w3 ⟨v3,u3,rfl,e,h,z⟩;obtain⟨A3,l3,c3,rfl⟩:=e.form;obtain⟨D3,m3,d3,rfl⟩:=h.form;replace e:Mg w3 _ _:=e;replace X:=X.below z;replace Y:=Y.below z;replace R:=R.below z;replace S:=S.below z;replace p:=aa X.k2 (aa Y.k2 (aa R.g2 S.g2));replace a:=aC a z;clear D n o;have H3:=e;go_wp2_with fail;replace e:=e.drew;replace h:=h.drew;replace X:=X.drew;replace Y:=Y.drew;replace R:=R.drew;replace S:=S.drew;replace a:=a.drew;replace p:=aa X.k2 (aa Y.k2 (aa R.g2 S.g2));have ab:w.heap.size+1+1≠w.heap.size:=by omega
 have ac:w.heap.size+1+1≠w.heap.size+1:=by omega
 have ad:w.heap.size+1+1+1≠w.heap.size:=by omega
 have ae:w.heap.size+1+1+1≠w.heap.size+1:=by omega
 go_region_held3 (fun V=>C2 V w.heap.size (.bool s) (.slice A k c)∧C2 V (w.heap.size+1) (.bool t) (.slice C l d))
  (first|(with_reducible exact⟨X.k2,Y.k2⟩)|(refine⟨?_,?_⟩<;>(repeat (first|with_reducible exact X.k2|with_reducible exact Y.k2|with_reducible refine dW ab ?_|with_reducible refine dW ac ?_|with_reducible refine dW ad ?_|with_reducible refine dW ae ?_))))
  (first
   |(go_at_call 155;(with_reducible refine(oI _ _ q Q _ e (by omega) Z.out).mono ?_);rintro e4 w4 ⟨v4,rfl,f,j⟩;obtain⟨O,F,M,H,rfl⟩:=f.form;replace X:=X.below j;replace Y:=Y.below j;replace R:=R.below j;replace S:=S.below j;replace p:=aa X.k2 (aa Y.k2 (aa R.g2 S.g2));replace b:=KM.below j;replace e:=e.keep b;replace h:=h.keep b;(try replace g:=g.keep b);replace a:=aC a j)
   |(go_at_call 155;(with_reducible refine(oI _ _ r R' _ h (by omega) HR.out).mono ?_);rintro e5 w5 ⟨v5,rfl,g,m⟩;obtain⟨P,G,N,I,rfl⟩:=g.form;replace X:=X.below m;replace Y:=Y.below m;replace R:=R.below m;replace S:=S.below m;replace p:=aa X.k2 (aa Y.k2 (aa R.g2 S.g2));replace b:=KM.below m;replace e:=e.keep b;replace h:=h.keep b;(try replace f:=f.keep b);replace a:=aC a m))
 go_wp2_with fail;obtain⟨U0,J,R,a,b,i⟩:=R.mut2 a (by omega) (.bool O) (.slice F M H) rfl rfl;replace X:=i X (by omega);replace Y:=i Y (by omega);replace S:=i S (by omega);replace f:=f.keep b;replace g:=g.keep b;obtain⟨W6,L,S,a,b,i⟩:=S.mut2 a (by omega) (.bool P) (.slice G N I) rfl rfl;replace X:=i X (by omega);replace Y:=i Y (by omega);replace R:=i R (by omega);replace f:=f.keep b;replace g:=g.keep b;rw[J,L];clear J L;replace p:=aa X.k2 (aa Y.k2 (aa R.k2 S.k2));exact aK (v:= .tuple #[.agg #[.bool O,.slice F M H],.agg #[.bool P,.slice G N I]]) (by simp[results,Tryz.results148,go_sem,R.k2,S.k2]) rfl ⟨_,_,rfl,f,g,a⟩
theorem IK (x y:Int) (S T:Value) (w:World) (h:NI w S x) (f:NI w T y) (lx:nl x.natAbs<=549755813888) (ly:nl y.natAbs<=549755813888):
  Calls Tryz.prog 146 #[S,T] w (kV w ((Nat.gcd x.natAbs y.natAbs:Nat):Int)):=by
 obtain⟨s,A,k,c,rfl⟩:=h.form;obtain⟨t,C,l,d,rfl⟩:=f.form;obtain⟨W,L,e,X,Y,R⟩:=fF w [.bool s,.slice A k c] 79 [.bool t,.slice C l d] 79 [.bool false,.slice none 0 0] 79;have D:=aa X.g2 (aa Y.g2 R.g2);go_enter Tryz.func146,Tryz.ntmps146;go_wp2_with fail;(try rw[L]);clear L;replace h:=(h.below e).words;replace f:=(f.below e).words;go_quiet (fail);go_wp2_with fail;generalize x.natAbs=n at *;generalize y.natAbs=j at *;clear D X Y;go_loopg [5,6] j (fun g p q wr=>∃(a b:Nat) (A:Option Addr) (k c:Nat) (B:Option Addr) (l d:Nat),Hid (b<=g)∧p= .slice A k c∧q= .slice B l d∧Mg wr p a∧Mg wr q b∧nl a<=549755813888∧nl b<=549755813888∧Hid (Nat.gcd a b=Nat.gcd n j)∧Bx wr (w.heap.size+1+1) [.bool false,.slice none 0 0] 79∧Below w.heap.size w wr)
 case atStart=>exact⟨n,j,A,k,c,C,l,d,aE,rfl,rfl,h,f,lx,ly,rfl,R,dH e _⟩
 case round=>
  clear h f R e;obtain⟨a,b,A,k,c,B,l,d,F,rfl,rfl,h,f,la,lb,z,R,e⟩:=hrel;generalize wr=wx at *;have o:=f.len;by_cases H:b=0
  ·have O:l=0:=o.1.2 H;subst O;have P:Nat.gcd n j=a:=by rw[<-z.out,H];exact Nat.gcd_zero_right _
   have HR:=aB P;have D:=R.g2;clear z P H o F;go_wp2_with fail;refine(oI false _ a (a:Int) _ h (by omega) rfl).mono ?_;rintro e3 U ⟨v3,rfl,i,m⟩;obtain⟨K,E,J,G,rfl⟩:=i.form;replace R:=R.below m;replace D:=R.g2;replace e:=aC e m;replace i:NI U (.agg #[.bool K,.slice E J G]) ((Nat.gcd n j:Nat):Int):=by rw[HR.out];exact i
   go_wp2_with fail;obtain⟨W6,M,R,e,o,ff⟩:=R.mut2 e (by omega) (.bool K) (.slice E J G) rfl rfl;replace i:=i.keep o;rw[M];clear M;replace D:=R.k2;exact aK (v:= .agg #[.bool K,.slice E J G]) (by simp[results,Tryz.results146,go_sem,R.k2]) rfl ⟨_,rfl,i,e⟩
  ·have O:decide (0<l)=true:=by simp;omega
   have hm:a%b<b:=Nat.mod_lt _ (by omega);have N:Nat.gcd b (a%b)=Nat.gcd n j:=by rw[<-z.out,Nat.gcd_comm a b,Nat.gcd_rec b a,Nat.gcd_comm]
   have ab:nl (a%b)<=nl b:=bX (by omega);have Z:=aB N;have I:=fun W u v h1 h2=>AK a b u v W h1 h2 (by omega) (by omega) (by omega);unfold uY at I;clear z N o;obtain⟨g,rfl⟩:∃g,gk=g+1:=⟨gk-1,by have:=F.out;omega⟩;generalize a%b=r at *;generalize a/b=qq at *;go_wp2_with fail;refine(I _ _ _ h f).mono ?_;rintro e3 U ⟨v3,u3,rfl,i,Q,m⟩;obtain⟨V,m3,d3,rfl⟩:=Q.form;clear I;go_wp2_with fail;go_roundg g
   case rel=>exact⟨b,r,B,l,d,V,m3,d3,by have:=F.out;unfold Hid;omega,rfl,rfl,f.below m,Q,lb,by omega,Z,R.below m,aC e m⟩
   case measure=>omega
def bl (t:Nat):Nat:=if t=0 then 0 else t.log2+1
theorem uW {t:Nat} (h:t≠0):bl t=bl (t/2)+1:=by
 unfold bl;rw[if_neg h,Nat.log2_def];by_cases a:2<=t
 ·rw[if_pos a,if_neg (by omega)]
 ·rw[if_neg a,if_pos (by omega)]
theorem IL (k t:Nat) (h:t<2^k):bl t<=k:=by
 induction k generalizing t with
 |zero=>rw[show t=0 by simpa using h];exact aE
 |succ k b=>
  by_cases a:t=0
  ·rw[a];exact Nat.zero_le _
  ·rw[uW a];have:=b (t/2) (by rw[cU] at h;omega);omega
theorem AF {t:Nat} (h:t≠0):1<=bl t∧(bl t=1↔t=1):=by
 rw[uW h];refine⟨by omega,?_⟩;unfold bl;split<;>omega
def IM (w:World) (m:Nat) (e:Ending) (w':World):Prop:=∃b:Int,e= .returned (.int .i64 b)∧(1<b↔1<m)∧(b=1↔m=1)∧Below w.heap.size w w'
theorem AG (x:Int) (J:Value) (w:World) (q:NI w J x) (lx:nl x.natAbs<=549755813888):
  Calls Tryz.prog 185 #[J] w (IM w x.natAbs):=by
 obtain⟨s,A,k,c,rfl⟩:=q.form;obtain⟨o,Q⟩:=q.words.len;have d:Below w.heap.size w (w.alloc (.cells #[.bool s,.slice A k c] 79)):=(aH _ _).alloc aE _;obtain⟨X,i,C,hv⟩:=(q.words).below d;obtain⟨V,Y,e,P⟩:=i.form;simp only[Value.slice.injEq] at e;obtain⟨rfl,rfl,rfl⟩:=e;by_cases a:x.natAbs=0
 ·have z:X.length=0:=o.2 a;rw[z] at q d;rw[z];have D:=aB a;clear hv o a C i P Q z;go_enter Tryz.func185,Tryz.ntmps185;go_wp2_with fail;go_ret;exact⟨0,rfl,by have:=D.out;omega,by have:=D.out;omega,d⟩
 ·have H:X.length≠0:=fun h=>a (o.1 h);have q0:((X.length:Int)==0)=false:=by simpa using H
  obtain⟨p,B⟩:∃p,X.length=p+1:=⟨X.length-1,by omega⟩;obtain⟨y,j⟩:∃y,X[p]? =some y:=⟨_,aL (by omega)⟩;have I:y≠0:=C y (by rw[List.getLast?_eq_getElem?,B];exact j);have K:=i.dg y (cH j);obtain⟨b,rfl,ab,Z⟩:=i.at_ j;obtain⟨N,O⟩:=AF I;have G:(1<32*p+bl y↔1<x.natAbs)∧(32*p+bl y=1↔x.natAbs=1):=by
   have l:=gD X p;rw[fY (by omega),eO j,hv] at l;rcases Nat.eq_zero_or_pos p with h|h
   ·subst h;have m:x.natAbs=y:=by rw[l];simp[nv]
    rw[m];omega
   ·have m:aD^1<=aD^p:=cE jY h;have F:aD^p*1<=aD^p*y:=dL _ (by omega);unfold aD at l m F;omega
  have E:=aB G;have W:=aB B;have ac:((X.length:Int)-1)=(p:Int):=by omega
  have ad:p<X.length:=by omega
  unfold aD at K;clear hv o a C i G B j I N O H;go_enter Tryz.func185,Tryz.ntmps185;go_wp2_with fail;go_loopg [3,4] y (fun g T U wr=>∃(n t:Nat),Hid (t<=g)∧T= .int .i64 (n:Int)∧U= .int .u32 (t:Int)∧t<4294967296∧n<=35184372088832∧Hid (n+bl t=32*p+bl y)∧Below w.heap.size w wr)
  case atStart=>exact⟨32*p,y,aE,by go_num,rfl,K,by omega,rfl,d⟩
  case round=>
   clear d;obtain⟨n,t,r,rfl,rfl,ht,hn,f,d⟩:=hrel;generalize wr=wx at *;by_cases a:t=0
   ·subst a;have v:=E.out;have u:=f.out;rw[show bl 0=0 from rfl,Nat.add_zero] at u;rw[<-u] at v;have L:=aB v;clear f E v u r;go_wp2_with fail;go_ret;have:=L.out;exact⟨n,rfl,by omega,by omega,d⟩
   ·have hd:decide (0<t)=true:=by simp;omega
    have S:=uW a;obtain⟨g,rfl⟩:∃g,gk=g+1:=⟨gk-1,by have:=r.out;omega⟩;have M:Hid (n+1+bl (t/2)=32*p+bl y):=by have:=f.out;unfold Hid;omega
    have R:n+1<=35184372088832:=by have l:=AF a;have m:=f.out;have F:=IL 32 y (by omega);omega
    clear S f;go_wp2_with fail;go_roundg g
    case rel=>exact⟨n+1,t/2,by have:=r.out;unfold Hid;omega,by go_num,n8 (by omega),by omega,R,M,d⟩
    case measure=>omega
