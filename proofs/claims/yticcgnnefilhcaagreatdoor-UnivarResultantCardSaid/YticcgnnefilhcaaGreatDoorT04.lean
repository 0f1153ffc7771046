/- Laws. -/
import Derived.Test.YticcgnnefilhcaaGreatDoorT03
set_option linter.all false
set_option maxHeartbeats 8000000
set_option maxRecDepth 99999
namespace Go.Proofs.YticcgnnefilhcaaGreatDoor
open Go.RowKit Sos Tryz
variable{a b g s:Nat}{w:World}{cs:List Value}
def AX(x k:Nat):(dg x).getD k 0=((x/BN^k%BN:Nat):Int):=by
 rcases dE k (nl x) with h|h
 ·have e:=lP aA (dg x) k (by rw[aK];exact h);rw[sU,sU] at e;have f:=(cI x).getD aQ k;have a:x/BN^(k+1)=x/BN^k/BN:=by rw[dH,G6]
  rw[a] at e;have c:aA=(BN:Int):=rfl;rw[c] at e f;generalize x/BN^k=T at *;generalize (dg x).getD k 0=d at *;have b:=iD T BN;have g:(T:Int)=BN*((T/BN:Nat):Int)+((T%BN:Nat):Int):=by rw[<-dz5,<-Int.natCast_add,b]
  omega
 ·rw[eI,fU (by rw[aK];exact h)];have:x<BN^k:=aZ (cY x) (cO (by decide) h);rw[BA this];rfl
def GD{T:Nat}(d:s<64):T/2^(64-s)=T/BN*2^s+T%BN/2^(64-s)∧T%BN/2^(64-s)<2^s:=by
 have e:BN=2^(64-s)*2^s:=by rw[<-eY,show 64-s+s=64 by omega];rfl
 have c:0<2^(64-s):=dyU (by decide);refine⟨?_,mU (by rw[<-e];exact dI _ (by decide))⟩;have a:=iD T BN;conv=>lhs;rw[<-a]
 have b:BN*(T/BN)=2^(64-s)*(T/BN*2^s):=by
  conv=>lhs;rw[e]
  grind
 rw[b,aqO c]
def GE{A:Nat}(l:s<64)(f:a*2^s<BN)(j:b/2^(64-s)<2^s)(g:A=a*2^s+b/2^(64-s)):
  bits .or .u64 (IntKind.u64.wrap ((a:Int)*2^s)) ((b:Int)/2^(64-s))=(A:Int):=by
 have d:(a:Int)*2^s=((a*2^s:Nat):Int):=by push_cast;rfl
 have c:(b:Int)/2^(64-s)=((b/2^(64-s):Nat):Int):=by push_cast;rfl
 have k:=kU;have e:IntKind.u64.wrap ((a*2^s:Nat):Int)=((a*2^s:Nat):Int):=by
  rw[IntKind.wrap_u64];have:a*2^s<18446744073709551616:=f;omega
 have h:∃q:Int,((a*2^s:Nat):Int)=2^s*q:=⟨(a:Int),by push_cast;rw[fD]⟩;have i:((2^s:Nat):Int)=2^s:=by push_cast;rfl
 rw[d,e,c];generalize a*2^s=X at *;generalize b/2^(64-s)=Y at *;rw[GM (z:=(Y:Int)) (y:=(X:Int)) (sh:=s) (by omega) (by omega) (by omega) (by omega) (by omega) h,g];push_cast;rfl
def QI(w:World)(a b:Nat)(e:Ending)(w':World):Prop:=∃(u0 u1 c d:Nat) (f:Bool),e= .returned (.agg #[.int .u64 u0,.int .u64 u1,.int .u64 c,.int .u64 d,.bool f])∧
 u0<BN∧u1<BN∧c<BN∧d<BN∧(c=0∨∃g h,Leh a b u0 u1 c d f g h)∧Below w.1.size w w'
def Blk.set(h:Blk w g cs)(i:Nat)(v:Value):Blk (w.setCell ⟨g,i,none⟩ v) g (cs.set i v):=by
 obtain⟨t,h⟩:=h;exact⟨t,by simp[World.setCell,bx8,h]⟩
def Blk.soft(h:Blk w g cs):Soft w g:=by
 obtain⟨t,h⟩:=h;exact⟨_,t,h⟩
def Blk.drewN(h:Blk w g cs)(n:Nat):Blk (w.drewN n) g cs:=h
def Blk.drew(h:Blk w g cs):Blk w.drew g cs:=h
def Blk.new'(w:World)(cs:List Value)(t:TypeId)(g:Nat)(a:w.1.size=g):Blk (w.alloc (.cells cs.toArray t)) g cs:=by subst a;exact Blk.new w cs t
def Blk.alloc(h:Blk w g cs)(o:Obj):Blk (w.alloc o) g cs:=h.ke (Below.heap_alloc w o g h.soft.lt)
def AY(g h e:Nat)(w:World)(p q u v:Value)(wr:World):Prop:=∃(f t u0 u1 u2 a b d:Nat) (c:Bool),p= .int .u64 f∧q= .int .u64 t∧u= .int .u64 u2∧v= .int .u64 d∧
 Sim g h f t u1 u2 b d (gD c)∧(a=0∨Prev g h u0 u1 a b (gD c))∧u0<18446744073709551616∧u1<18446744073709551616∧u2<18446744073709551616∧a<18446744073709551616∧b<18446744073709551616∧d<18446744073709551616∧
 Blk wr (e+1) [.int .u64 u0,.int .u64 u1,.int .u64 a,.int .u64 b,.bool c]∧Blk wr e [.int .u64 0,.int .u64 0,.int .u64 0,.int .u64 0,.bool false]∧Below w.1.size w wr
def AZ{c d f t u1 u2:Nat}{g:Int}(h:Sim c d f t u1 u2 b a g)(p:a<=t)(s:b+a<=f-t)(u:c<18446744073709551616)(hF:f<18446744073709551616):
  ∃q r e qv:Nat,q<18446744073709551616∧(f:Int)/(t:Int)=(q:Int)∧(f:Int)%(t:Int)=(r:Int)∧(q:Int)*(u2:Int)=(e:Int)∧(q:Int)*(a:Int)=(qv:Int)∧u1+e<18446744073709551616∧b+qv<18446744073709551616∧
   Sim c d t r u2 ((u1+e:Nat):Int) a ((b+qv:Nat):Int) (-g)∧(b=0∨Prev c d u1 u2 b a (-g))∧r<t:=by
 have w:=h.hv2;have v:=h.htf;have k:=h.step (q:=(f:Int)/t) rfl (by omega) (by omega);have i:(f:Int)/(t:Int)=((f/t:Nat):Int):=by push_cast;rfl
 have j:(f:Int)%(t:Int)=((f%t:Nat):Int):=by push_cast;rfl
 rw[i,j] at k;obtain⟨m,n,x,y,z,o,l⟩:=k;refine⟨f/t,f%t,f/t*u2,f/t*a,jI (pQ _ _) hF,i,j,by push_cast;rfl,by push_cast;rfl,?_,?_,?_,?_,dI _ (by omega)⟩
 ·have:((u1+f/t*u2:Nat):Int)<=c:=by push_cast;push_cast at o l;omega
  omega
 ·have:((b+f/t*a:Nat):Int)<=c:=by push_cast;push_cast at l;omega
  omega
 ·have:((u1+f/t*u2:Nat):Int)=(u1:Int)+((f/t:Nat):Int)*u2:=by push_cast;rfl
  rw[this];have:((b+f/t*a:Nat):Int)=(b:Int)+((f/t:Nat):Int)*a:=by push_cast;rfl
  rw[this];exact m
 ·rcases n with h|h
  ·left;omega
  ·exact .inr h
def rQ(a:Bool):gD (!a)= -gD a:=by cases a<;>rfl
def GF(a b:Nat)(va vb:Value)(w:World)(ha:NatAt w va a)(hb:NatAt w vb b)(bg:b<=a)(h2:2<=nl b)(bz:nl a<=aJ):
  Calls prog 183 #[va,vb] w (QI w a b):=by
 unfold aJ at bz;have ay:=cK bg;have cg:a≠0:=by intro h;subst h;rw[dO] at ay;omega
 obtain⟨A,c,rfl,hc,b2,ch⟩:=ha;obtain⟨B,d,rfl,hd,b3,ci⟩:=hb;obtain⟨ba,oa,rfl,cl,bh⟩:=b2.at_ (by rw[aK];omega);obtain⟨bb,ob,rfl,cm,bi⟩:=b3.at_ (by rw[aK];omega);obtain⟨cj,bm,a2⟩:=wH cg;obtain⟨s,ah,bk,b5,az⟩:=wK _ bm a2;obtain⟨n,hn⟩:∃n,nl a=n+2:=⟨nl a-2,by omega⟩;have p1:a/BN^(nl a-1)=a/BN^n/BN:=by rw[G6,<-dH];congr 2;omega
 have ck:b/BN^(nl a-1)=b/BN^n/BN:=by rw[G6,<-dH];congr 2;omega
 have g1:=bh (n+1) (by rw[aK];omega);have g0:=bh n (by rw[aK];omega);rw[AX] at g1 g0;have eA:a/BN^(n+1)=a/BN^n/BN:=by rw[G6,<-dH]
 have eB:b/BN^(n+1)=b/BN^n/BN:=by rw[G6,<-dH]
 have tA:=GD (T:=a/BN^n) ah;have tB:=GD (T:=b/BN^n) ah;have bw:b/BN^n<=a/BN^n:=Nat.div_le_div_right bg;rw[p1] at bk b5 az a2 bm;rw[eA] at g1;have bp:a/BN^n/BN%BN=a/BN^n/BN:=jJ a2;rw[bp] at g1;have bf:b/BN^n/BN<=a/BN^n/BN:=Nat.div_le_div_right bw;obtain⟨P,hP⟩:∃P,P=BN^n*2^(64-s):=⟨_,rfl⟩;have bv:0<P:=by rw[hP];exact az9 (dyU (by decide)) (dyU (by decide))
 obtain⟨z,a7⟩:∃z,z=a/P:=⟨_,rfl⟩;obtain⟨E,Q⟩:∃E,E=b/P:=⟨_,rfl⟩;have bc:z=a/BN^n/BN*2^s+a/BN^n%BN/2^(64-s):=by rw[a7,hP,<-G6];exact tA.1
 have a3:E=b/BN^n/BN*2^s+b/BN^n%BN/2^(64-s):=by rw[Q,hP,<-G6];exact tB.1
 have bx:b/BN^n/BN*2^s<BN:=jI (dK _ bf) az;have bn:=GE ah az tA.2 bc;have bo:=GE ah bx tB.2 a3;have cn:E<=z:=by rw[a7,Q];exact Nat.div_le_div_right bg
 have bj:z<18446744073709551616:=by
  have e:BN=2^(64-s)*2^s:=by rw[<-eY,show 64-s+s=64 by omega];rfl
  have h1:a/BN^n/BN<2^(64-s):=by
   have:a/BN^n/BN*2^s<2^(64-s)*2^s:=by rw[<-e];exact az
   exact bqP this
  have h2:(a/BN^n/BN+1)*2^s<=2^(64-s)*2^s:=dK _ h1;rw[<-e,aq3] at h2;have h3:=tA.2;rw[bc];show _<BN
  omega
 have bu:∀(u0 u1 j g:Nat) (k:Bool),Prev z E u0 u1 j g (if k then -1 else 1)->∃na nb,Leh a b u0 u1 j g k na nb:=by
  intro u0 u1 j g k h;have:=OQ h (dI a bv) (dI b bv);rw[a7,Q,dN,iD,dN,iD] at this;exact this
 have ai:=aB bu;have ce:=kU;have a8:nl b=n+2->w.cell? ⟨bb,ob+(n+1),none⟩=some (.int .u64 ((b/BN^n/BN:Nat):Int)):=by
  intro h;have:=bi (n+1) (by rw[aK];omega);rw[AX,eB,jJ (jI bf a2)] at this;exact this
 have ax:n+1<=nl b->w.cell? ⟨bb,ob+n,none⟩=some (.int .u64 ((b/BN^n%BN:Nat):Int)):=by
  intro h;have:=bi n (by rw[aK];omega);rw[AX] at this;exact this
 have a4:nl b=n+1->(E:Int)=((b/BN^n%BN:Nat):Int)/2^(64-s):=by
  intro h;have h1:b/BN^n/BN=0:=by
   rw[G6,<-dH];exact BA (by have:=cY b;rw[h] at this;exact this)
  rw[a3,h1,GB,bA];push_cast;rfl
 have a5:nl b<n+1->E=0:=by
  intro h;have h1:b/BN^n=0:=BA (aZ (cY b) (cO (by decide) (by omega)));rw[a3,h1];simp
 have al:(a/BN^n/BN:Nat)<aA:=by omega
 have ak:(0:Int)<(a/BN^n/BN:Nat):=by omega
 generalize a/BN^n/BN=a1 at *;generalize a/BN^n%BN=a0 at *;generalize b/BN^n/BN=b1 at *;generalize b/BN^n%BN=b0 at *;have aj:=aB bk;have i1:((nl a:Int)-1).toNat=n+1:=by omega
 have i2:((nl a:Int)-2).toNat=n:=by omega
 clear p1 ck eA eB tA tB bw bk b5 az a2 bm cj bp bf hP a7 Q bc a3 bx bu ce bh bi b2 b3 ch ci;generalize BN^n=X at *;clear i1 i2;rw[hn] at hc bz ay⊢;clear hn;by_cases av:nl b=n+2
 ·have cd:=a8 av;have a9:=ax (by omega);rw[av] at hd h2 ay⊢;clear a8 ax a4 a5 av;go_enter func183,ntmps183;go_wp2_with fail;refine(rR a1 s ak al (by rw[j9];exact aj.out) _).mono ?_;rintro e cc ⟨rfl,rfl⟩;go_wp2_with fail;go_quiet (fail);go_wp2_with fail;go_quiet (fail);go_wp2_with fail;clear bn bo g1 g0 cd a9 ak al aj ah;have ab:∀(u0 u1 j g:Nat) (k:Bool),j=0∨Prev z E u0 u1 j g (gD k)->j=0∨∃na nb,Leh a b u0 u1 j g k na nb:=fun u0 u1 j g k h=>h.imp id (fun h=>ai.out u0 u1 j g k h);have R:=aB ab;clear ab ai;go_loopw [7,8,10,11] (fun p q u v wr=>AY z E w.1.size w p q u v wr) (fun _ q _ _ _=>(intOf q).toNat)
  case atStart=>
   refine⟨z,E,0,1,0,0,0,1,false,rfl,rfl,rfl,rfl,?_,.inl rfl,by decide,by decide,by decide,by decide,by decide,by decide,?_,?_,?_⟩
   ·have:=Sim.start (A:=(z:Int)) (B:=(E:Int)) (by omega) (by omega);simpa [gD] using this
   ·exact Blk.new' _ [Value.int IntKind.u64 0,Value.int IntKind.u64 1,Value.int IntKind.u64 0,Value.int IntKind.u64 0,Value.bool false] 214 _ (by simp)
   ·exact((Blk.new w [Value.int IntKind.u64 0,Value.int IntKind.u64 0,Value.int IntKind.u64 0,Value.int IntKind.u64 0,Value.bool false] 214).drewN _).alloc _
   ·exact((eQ ((aG _ _).alloc aE _) _).alloc (by simp) _)
  case round=>
   obtain⟨f,t,u0,u1,u2,j,g,y,k,rfl,rfl,rfl,rfl,C,ae,U,G,aq,V,H,ar,x,o,D⟩:=hrel;have J:=C.room;have b7:t<=f:=by have:=C.htf;omega
   have b8:1<=y:=by have:=C.hv2;omega
   have aw:f<18446744073709551616:=by
    have h1:=C.sum;have h3:(1:Int)*f<=y*f:=eH (by omega) (by omega);have h4:(0:Int)<=g*t:=dz3 (by omega) (by omega);omega
   have W:=x.cell (i:=0) rfl;have Y:=x.cell (i:=1) rfl;have Z:=x.cell (i:=2) rfl;have c3:=x.cell (i:=3) rfl;have c4:=x.cell (i:=4) rfl;have ac:=x.soft.free;have r0:=o.cell (i:=0) rfl;have r1:=o.cell (i:=1) rfl;have r2:=o.cell (i:=2) rfl;have r3:=o.cell (i:=3) rfl;have r4:=o.cell (i:=4) rfl;have ad:=o.soft.free;have S:=aB C;have F:=aB ae;clear C ae;by_cases k1:y<=t
   ·have b9:g+y<=z:=by have:=J.1 (by omega);omega
    have k3:g+y<18446744073709551616:=by omega
    clear J;by_cases k2:g+y<=f-t
    ·obtain⟨q,r,qu,qv,bq,br,au,bs,bt,ao,ap,ag,af,b4⟩:=AZ S.out k1 k2 bj aw;have b6:¬t=0:=by omega
     have an:=aB ag;have am:=aB af;clear ag af F S;go_wp2_with fail;go_quiet (fail);go_wp2_with fail;go_roundw
     case rel=>
      refine⟨t,r,u1,u2,u1+qu,g,y,g+qv,!k,rfl,by rw[au],by go_num,by go_num,?_,?_,G,aq,ao,H,ar,ap,?_,?_,?_⟩
      ·rw[rQ];exact an.out
      ·rw[rQ];exact am.out
      ·exact((((((x.drewN _).set 0 _).set 1 _).set 2 _).set 3 _).set 4 _)
      ·exact((((((o.drewN _).other (by omega) _).other (by omega) _).other (by omega) _).other (by omega) _).other (by omega) _)
      ·exact((((((eQ D _).setCell (by simp) _).setCell (by simp) _).setCell (by simp) _).setCell (by simp) _).setCell (by simp) _)
     case measure=>simp[intOf];omega
    ·have cb:¬(g:Int)+y<=f-t:=by omega
     go_wp2_with fail;have l:=(((((o.set 0 (.int .u64 u0)).set 1 (.int .u64 u1)).set 2 (.int .u64 j)).set 3 (.int .u64 g)).set 4 (.bool k));have K:=l.cell (i:=0) rfl;have L:=l.cell (i:=1) rfl;have M:=l.cell (i:=2) rfl;have N:=l.cell (i:=3) rfl;have O:=l.cell (i:=4) rfl;have I:=(((((D.setCell (p:=⟨w.1.size,0,none⟩) (by simp) (.int .u64 u0)).setCell (p:=⟨w.1.size,1,none⟩) (by simp) (.int .u64 u1)).setCell (p:=⟨w.1.size,2,none⟩) (by simp) (.int .u64 j)).setCell (p:=⟨w.1.size,3,none⟩) (by simp) (.int .u64 g)).setCell (p:=⟨w.1.size,4,none⟩) (by simp) (.bool k));clear W Y Z c3 c4 r0 r1 r2 r3 r4 ac ad x o l D;generalize World.setCell (World.setCell (World.setCell (World.setCell (World.setCell wr ⟨w.1.size,0,none⟩ (.int .u64 u0)) ⟨w.1.size,1,none⟩ (.int .u64 u1)) ⟨w.1.size,2,none⟩ (.int .u64 j)) ⟨w.1.size,3,none⟩ (.int .u64 g)) ⟨w.1.size,4,none⟩ (.bool k)=w5 at *;exact aM (v:= .agg #[.int .u64 u0,.int .u64 u1,.int .u64 j,.int .u64 g,.bool k]) (by simp[results,results183,go_sem,K,L,M,N,O]) rfl ⟨u0,u1,j,g,k,rfl,U,G,V,H,R.out _ _ _ _ _ F.out,I⟩
   ·have ca:¬(y:Int)<=t:=by omega
    clear J;go_wp2_with fail;have l:=(((((o.set 0 (.int .u64 u0)).set 1 (.int .u64 u1)).set 2 (.int .u64 j)).set 3 (.int .u64 g)).set 4 (.bool k));have K:=l.cell (i:=0) rfl;have L:=l.cell (i:=1) rfl;have M:=l.cell (i:=2) rfl;have N:=l.cell (i:=3) rfl;have O:=l.cell (i:=4) rfl;have I:=(((((D.setCell (p:=⟨w.1.size,0,none⟩) (by simp) (.int .u64 u0)).setCell (p:=⟨w.1.size,1,none⟩) (by simp) (.int .u64 u1)).setCell (p:=⟨w.1.size,2,none⟩) (by simp) (.int .u64 j)).setCell (p:=⟨w.1.size,3,none⟩) (by simp) (.int .u64 g)).setCell (p:=⟨w.1.size,4,none⟩) (by simp) (.bool k));clear W Y Z c3 c4 r0 r1 r2 r3 r4 ac ad x o l D;generalize World.setCell (World.setCell (World.setCell (World.setCell (World.setCell wr ⟨w.1.size,0,none⟩ (.int .u64 u0)) ⟨w.1.size,1,none⟩ (.int .u64 u1)) ⟨w.1.size,2,none⟩ (.int .u64 j)) ⟨w.1.size,3,none⟩ (.int .u64 g)) ⟨w.1.size,4,none⟩ (.bool k)=w5 at *;exact aM (v:= .agg #[.int .u64 u0,.int .u64 u1,.int .u64 j,.int .u64 g,.bool k]) (by simp[results,results183,go_sem,K,L,M,N,O]) rfl ⟨u0,u1,j,g,k,rfl,U,G,V,H,R.out _ _ _ _ _ F.out,I⟩
 ·by_cases a6:nl b=n+1
  ·have a9:=ax (by omega);have Q:=a4 a6;rw[a6] at hd h2 ay⊢;have q1:((n:Int)+1==(n:Int)+2)=false:=by simp
   have q2:((n:Int)+1==(n:Int)+2-1)=true:=by simp;omega
   clear a8 ax a4 a5 a6 av bo;go_enter func183,ntmps183;go_wp2_with fail;refine(rR a1 s ak al (by rw[j9];exact aj.out) _).mono ?_;rintro e cc ⟨rfl,rfl⟩;go_wp2_with fail;go_quiet (fail);go_wp2_with (simp only[<-Q]);clear bn g1 g0 a9 ak al aj ah Q q1 q2;have ab:∀(u0 u1 j g:Nat) (k:Bool),j=0∨Prev z E u0 u1 j g (gD k)->j=0∨∃na nb,Leh a b u0 u1 j g k na nb:=fun u0 u1 j g k h=>h.imp id (fun h=>ai.out u0 u1 j g k h);have R:=aB ab;clear ab ai;go_loopw [7,8,10,11] (fun p q u v wr=>AY z E w.1.size w p q u v wr) (fun _ q _ _ _=>(intOf q).toNat)
   case atStart=>
    refine⟨z,E,0,1,0,0,0,1,false,rfl,rfl,rfl,rfl,?_,.inl rfl,by decide,by decide,by decide,by decide,by decide,by decide,?_,?_,?_⟩
    ·have:=Sim.start (A:=(z:Int)) (B:=(E:Int)) (by omega) (by omega);simpa [gD] using this
    ·exact Blk.new' _ [Value.int IntKind.u64 0,Value.int IntKind.u64 1,Value.int IntKind.u64 0,Value.int IntKind.u64 0,Value.bool false] 214 _ (by simp)
    ·exact((Blk.new w [Value.int IntKind.u64 0,Value.int IntKind.u64 0,Value.int IntKind.u64 0,Value.int IntKind.u64 0,Value.bool false] 214).drewN _).alloc _
    ·exact((eQ ((aG _ _).alloc aE _) _).alloc (by simp) _)
   case round=>
    obtain⟨f,t,u0,u1,u2,j,g,y,k,rfl,rfl,rfl,rfl,C,ae,U,G,aq,V,H,ar,x,o,D⟩:=hrel;have J:=C.room;have b7:t<=f:=by have:=C.htf;omega
    have b8:1<=y:=by have:=C.hv2;omega
    have aw:f<18446744073709551616:=by
     have h1:=C.sum;have h3:(1:Int)*f<=y*f:=eH (by omega) (by omega);have h4:(0:Int)<=g*t:=dz3 (by omega) (by omega);omega
    have W:=x.cell (i:=0) rfl;have Y:=x.cell (i:=1) rfl;have Z:=x.cell (i:=2) rfl;have c3:=x.cell (i:=3) rfl;have c4:=x.cell (i:=4) rfl;have ac:=x.soft.free;have r0:=o.cell (i:=0) rfl;have r1:=o.cell (i:=1) rfl;have r2:=o.cell (i:=2) rfl;have r3:=o.cell (i:=3) rfl;have r4:=o.cell (i:=4) rfl;have ad:=o.soft.free;have S:=aB C;have F:=aB ae;clear C ae;by_cases k1:y<=t
    ·have b9:g+y<=z:=by have:=J.1 (by omega);omega
     have k3:g+y<18446744073709551616:=by omega
     clear J;by_cases k2:g+y<=f-t
     ·obtain⟨q,r,qu,qv,bq,br,au,bs,bt,ao,ap,ag,af,b4⟩:=AZ S.out k1 k2 bj aw;have b6:¬t=0:=by omega
      have an:=aB ag;have am:=aB af;clear ag af F S;go_wp2_with fail;go_quiet (fail);go_wp2_with fail;go_roundw
      case rel=>
       refine⟨t,r,u1,u2,u1+qu,g,y,g+qv,!k,rfl,by rw[au],by go_num,by go_num,?_,?_,G,aq,ao,H,ar,ap,?_,?_,?_⟩
       ·rw[rQ];exact an.out
       ·rw[rQ];exact am.out
       ·exact((((((x.drewN _).set 0 _).set 1 _).set 2 _).set 3 _).set 4 _)
       ·exact((((((o.drewN _).other (by omega) _).other (by omega) _).other (by omega) _).other (by omega) _).other (by omega) _)
       ·exact((((((eQ D _).setCell (by simp) _).setCell (by simp) _).setCell (by simp) _).setCell (by simp) _).setCell (by simp) _)
      case measure=>simp[intOf];omega
     ·have cb:¬(g:Int)+y<=f-t:=by omega
      go_wp2_with fail;have l:=(((((o.set 0 (.int .u64 u0)).set 1 (.int .u64 u1)).set 2 (.int .u64 j)).set 3 (.int .u64 g)).set 4 (.bool k));have K:=l.cell (i:=0) rfl;have L:=l.cell (i:=1) rfl;have M:=l.cell (i:=2) rfl;have N:=l.cell (i:=3) rfl;have O:=l.cell (i:=4) rfl;have I:=(((((D.setCell (p:=⟨w.1.size,0,none⟩) (by simp) (.int .u64 u0)).setCell (p:=⟨w.1.size,1,none⟩) (by simp) (.int .u64 u1)).setCell (p:=⟨w.1.size,2,none⟩) (by simp) (.int .u64 j)).setCell (p:=⟨w.1.size,3,none⟩) (by simp) (.int .u64 g)).setCell (p:=⟨w.1.size,4,none⟩) (by simp) (.bool k));clear W Y Z c3 c4 r0 r1 r2 r3 r4 ac ad x o l D;generalize World.setCell (World.setCell (World.setCell (World.setCell (World.setCell wr ⟨w.1.size,0,none⟩ (.int .u64 u0)) ⟨w.1.size,1,none⟩ (.int .u64 u1)) ⟨w.1.size,2,none⟩ (.int .u64 j)) ⟨w.1.size,3,none⟩ (.int .u64 g)) ⟨w.1.size,4,none⟩ (.bool k)=w5 at *;exact aM (v:= .agg #[.int .u64 u0,.int .u64 u1,.int .u64 j,.int .u64 g,.bool k]) (by simp[results,results183,go_sem,K,L,M,N,O]) rfl ⟨u0,u1,j,g,k,rfl,U,G,V,H,R.out _ _ _ _ _ F.out,I⟩
    ·have ca:¬(y:Int)<=t:=by omega
     clear J;go_wp2_with fail;have l:=(((((o.set 0 (.int .u64 u0)).set 1 (.int .u64 u1)).set 2 (.int .u64 j)).set 3 (.int .u64 g)).set 4 (.bool k));have K:=l.cell (i:=0) rfl;have L:=l.cell (i:=1) rfl;have M:=l.cell (i:=2) rfl;have N:=l.cell (i:=3) rfl;have O:=l.cell (i:=4) rfl;have I:=(((((D.setCell (p:=⟨w.1.size,0,none⟩) (by simp) (.int .u64 u0)).setCell (p:=⟨w.1.size,1,none⟩) (by simp) (.int .u64 u1)).setCell (p:=⟨w.1.size,2,none⟩) (by simp) (.int .u64 j)).setCell (p:=⟨w.1.size,3,none⟩) (by simp) (.int .u64 g)).setCell (p:=⟨w.1.size,4,none⟩) (by simp) (.bool k));clear W Y Z c3 c4 r0 r1 r2 r3 r4 ac ad x o l D;generalize World.setCell (World.setCell (World.setCell (World.setCell (World.setCell wr ⟨w.1.size,0,none⟩ (.int .u64 u0)) ⟨w.1.size,1,none⟩ (.int .u64 u1)) ⟨w.1.size,2,none⟩ (.int .u64 j)) ⟨w.1.size,3,none⟩ (.int .u64 g)) ⟨w.1.size,4,none⟩ (.bool k)=w5 at *;exact aM (v:= .agg #[.int .u64 u0,.int .u64 u1,.int .u64 j,.int .u64 g,.bool k]) (by simp[results,results183,go_sem,K,L,M,N,O]) rfl ⟨u0,u1,j,g,k,rfl,U,G,V,H,R.out _ _ _ _ _ F.out,I⟩
  ·obtain⟨m,hm⟩:∃m,m=nl b:=⟨_,rfl⟩;have Q:=a5 (by omega);have q1:((m:Int)==(n:Int)+2)=false:=by simp;omega
   have q2:((m:Int)==(n:Int)+2-1)=false:=by simp;omega
   rw[<-hm] at hd h2 ay⊢;subst Q;clear a8 ax a4 a5 a6 av bo hm;go_enter func183,ntmps183;go_wp2_with fail;refine(rR a1 s ak al (by rw[j9];exact aj.out) _).mono ?_;rintro e cc ⟨rfl,rfl⟩;go_wp2_with fail;go_quiet (fail);go_wp2_with fail;clear bn g1 g0 ak al aj ah q1 q2;have ab:∀(u0 u1 j g:Nat) (k:Bool),j=0∨Prev z (0:Nat) u0 u1 j g (gD k)->j=0∨∃na nb,Leh a b u0 u1 j g k na nb:=fun u0 u1 j g k h=>h.imp id (fun h=>ai.out u0 u1 j g k h);have R:=aB ab;clear ab ai;go_loopw [7,8,10,11] (fun p q u v wr=>AY z 0 w.1.size w p q u v wr) (fun _ q _ _ _=>(intOf q).toNat)
   case atStart=>
    refine⟨z,0,0,1,0,0,0,1,false,rfl,rfl,rfl,rfl,?_,.inl rfl,by decide,by decide,by decide,by decide,by decide,by decide,?_,?_,?_⟩
    ·have:=Sim.start (A:=(z:Int)) (B:=((0:Nat):Int)) (by omega) (by omega);simpa [gD] using this
    ·exact Blk.new' _ [Value.int IntKind.u64 0,Value.int IntKind.u64 1,Value.int IntKind.u64 0,Value.int IntKind.u64 0,Value.bool false] 214 _ (by simp)
    ·exact((Blk.new w [Value.int IntKind.u64 0,Value.int IntKind.u64 0,Value.int IntKind.u64 0,Value.int IntKind.u64 0,Value.bool false] 214).drewN _).alloc _
    ·exact((eQ ((aG _ _).alloc aE _) _).alloc (by simp) _)
   case round=>
    obtain⟨f,t,u0,u1,u2,j,g,y,k,rfl,rfl,rfl,rfl,C,ae,U,G,aq,V,H,ar,x,o,D⟩:=hrel;have J:=C.room;have b7:t<=f:=by have:=C.htf;omega
    have b8:1<=y:=by have:=C.hv2;omega
    have aw:f<18446744073709551616:=by
     have h1:=C.sum;have h3:(1:Int)*f<=y*f:=eH (by omega) (by omega);have h4:(0:Int)<=g*t:=dz3 (by omega) (by omega);omega
    have W:=x.cell (i:=0) rfl;have Y:=x.cell (i:=1) rfl;have Z:=x.cell (i:=2) rfl;have c3:=x.cell (i:=3) rfl;have c4:=x.cell (i:=4) rfl;have ac:=x.soft.free;have r0:=o.cell (i:=0) rfl;have r1:=o.cell (i:=1) rfl;have r2:=o.cell (i:=2) rfl;have r3:=o.cell (i:=3) rfl;have r4:=o.cell (i:=4) rfl;have ad:=o.soft.free;have S:=aB C;have F:=aB ae;clear C ae;by_cases k1:y<=t
    ·have b9:g+y<=z:=by have:=J.1 (by omega);omega
     have k3:g+y<18446744073709551616:=by omega
     clear J;by_cases k2:g+y<=f-t
     ·obtain⟨q,r,qu,qv,bq,br,au,bs,bt,ao,ap,ag,af,b4⟩:=AZ S.out k1 k2 bj aw;have b6:¬t=0:=by omega
      have an:=aB ag;have am:=aB af;clear ag af F S;go_wp2_with fail;go_quiet (fail);go_wp2_with fail;go_roundw
      case rel=>
       refine⟨t,r,u1,u2,u1+qu,g,y,g+qv,!k,rfl,by rw[au],by go_num,by go_num,?_,?_,G,aq,ao,H,ar,ap,?_,?_,?_⟩
       ·rw[rQ];exact an.out
       ·rw[rQ];exact am.out
       ·exact((((((x.drewN _).set 0 _).set 1 _).set 2 _).set 3 _).set 4 _)
       ·exact((((((o.drewN _).other (by omega) _).other (by omega) _).other (by omega) _).other (by omega) _).other (by omega) _)
       ·exact((((((eQ D _).setCell (by simp) _).setCell (by simp) _).setCell (by simp) _).setCell (by simp) _).setCell (by simp) _)
      case measure=>simp[intOf];omega
     ·have cb:¬(g:Int)+y<=f-t:=by omega
      go_wp2_with fail;have l:=(((((o.set 0 (.int .u64 u0)).set 1 (.int .u64 u1)).set 2 (.int .u64 j)).set 3 (.int .u64 g)).set 4 (.bool k));have K:=l.cell (i:=0) rfl;have L:=l.cell (i:=1) rfl;have M:=l.cell (i:=2) rfl;have N:=l.cell (i:=3) rfl;have O:=l.cell (i:=4) rfl;have I:=(((((D.setCell (p:=⟨w.1.size,0,none⟩) (by simp) (.int .u64 u0)).setCell (p:=⟨w.1.size,1,none⟩) (by simp) (.int .u64 u1)).setCell (p:=⟨w.1.size,2,none⟩) (by simp) (.int .u64 j)).setCell (p:=⟨w.1.size,3,none⟩) (by simp) (.int .u64 g)).setCell (p:=⟨w.1.size,4,none⟩) (by simp) (.bool k));clear W Y Z c3 c4 r0 r1 r2 r3 r4 ac ad x o l D;generalize World.setCell (World.setCell (World.setCell (World.setCell (World.setCell wr ⟨w.1.size,0,none⟩ (.int .u64 u0)) ⟨w.1.size,1,none⟩ (.int .u64 u1)) ⟨w.1.size,2,none⟩ (.int .u64 j)) ⟨w.1.size,3,none⟩ (.int .u64 g)) ⟨w.1.size,4,none⟩ (.bool k)=w5 at *;exact aM (v:= .agg #[.int .u64 u0,.int .u64 u1,.int .u64 j,.int .u64 g,.bool k]) (by simp[results,results183,go_sem,K,L,M,N,O]) rfl ⟨u0,u1,j,g,k,rfl,U,G,V,H,R.out _ _ _ _ _ F.out,I⟩
    ·have ca:¬(y:Int)<=t:=by omega
     clear J;go_wp2_with fail;have l:=(((((o.set 0 (.int .u64 u0)).set 1 (.int .u64 u1)).set 2 (.int .u64 j)).set 3 (.int .u64 g)).set 4 (.bool k));have K:=l.cell (i:=0) rfl;have L:=l.cell (i:=1) rfl;have M:=l.cell (i:=2) rfl;have N:=l.cell (i:=3) rfl;have O:=l.cell (i:=4) rfl;have I:=(((((D.setCell (p:=⟨w.1.size,0,none⟩) (by simp) (.int .u64 u0)).setCell (p:=⟨w.1.size,1,none⟩) (by simp) (.int .u64 u1)).setCell (p:=⟨w.1.size,2,none⟩) (by simp) (.int .u64 j)).setCell (p:=⟨w.1.size,3,none⟩) (by simp) (.int .u64 g)).setCell (p:=⟨w.1.size,4,none⟩) (by simp) (.bool k));clear W Y Z c3 c4 r0 r1 r2 r3 r4 ac ad x o l D;generalize World.setCell (World.setCell (World.setCell (World.setCell (World.setCell wr ⟨w.1.size,0,none⟩ (.int .u64 u0)) ⟨w.1.size,1,none⟩ (.int .u64 u1)) ⟨w.1.size,2,none⟩ (.int .u64 j)) ⟨w.1.size,3,none⟩ (.int .u64 g)) ⟨w.1.size,4,none⟩ (.bool k)=w5 at *;exact aM (v:= .agg #[.int .u64 u0,.int .u64 u1,.int .u64 j,.int .u64 g,.bool k]) (by simp[results,results183,go_sem,K,L,M,N,O]) rfl ⟨u0,u1,j,g,k,rfl,U,G,V,H,R.out _ _ _ _ _ F.out,I⟩
