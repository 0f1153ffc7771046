/- Laws. -/
import Derived.Test.YtmiaanioldpfgaaGreatDoorX06
import Derived.Deep.RegionHeld3
set_option linter.all false
set_option maxHeartbeats 8000000
set_option maxRecDepth 99999
namespace Go.Proofs.YtmiaanioldpfgaaGreatDoor
open Go.RowKit Sos Tryz
variable{w w':World}{B b g n:Nat}{v:Value}{zs:List Int}
def OwnN(w:World)(B:Nat)(v:Value)(zs:List Int):Prop:=w.ownsRow B 143 1 v zs.length (zs.map (Value.int .u64))
def OwnN.nil(w:World)(B:Nat):OwnN w B (.slice none 0 0) []:=World.ownsRow_nil w B _ _
def OwnN.be(h:OwnN w B v zs)(a:Below w.1.size w w'):OwnN w' B v zs:=by
 refine World.ownsRow.kept h (rL a none) ?_;cases v.ownBlock with
 |none=>exact .inl rfl
 |some g=>exact .inr (by simp)
def OwnN.lt(h:OwnN w B v zs):∀g,v.ownBlock=some g->B<=g∧g<w.1.size:=World.ownsRow.lt h
def OwnN.at_(h:OwnN w B v zs)(k:0<zs.length):
  ∃g cap,v= .slice (some ⟨g,0,none⟩) zs.length cap∧B<=g∧zs.length<=cap∧cap<=maxLen∧Shape w g 143 cap∧Cells .u64 w g 0 zs:=by
 rcases h.2 with ⟨_,e⟩|⟨g,cap,b,rfl,d,c,hn,f,l,j⟩
 ·omega
 ·refine⟨g,cap,rfl,d,hn,f,⟨b,c,by omega⟩,?_⟩;refine VC.cells (fun i u a=> ?_);rw[cell_of_row w g (0+i) b _ (0,0) c,bA,<-Array.getElem?_toList];rw[<-j,fC] at a;split at a
  ·exact a
  ·cases a
def OwnN.of{cap:Nat}(j:Shape w g 143 cap)(e:Cells .u64 w g 0 zs)(d:B<=g)(f:zs.length<=cap)(h:cap<=maxLen):OwnN w B (.slice (some ⟨g,0,none⟩) zs.length cap) zs:=by
 obtain⟨b,c,hn⟩:=j;refine⟨by simp,.inr ⟨g,cap,b,rfl,d,c,f,h,by omega,?_⟩⟩;refine aq6 fun i=> ?_;rw[az9,fC];by_cases a:i<zs.length
 ·rw[if_pos a];have:=e.vc i (.int .u64 zs[i]) (by simp[aR a]);rw[cell_of_row w g (0+i) b _ (0,0) c,bA,<-Array.getElem?_toList] at this;rw[this];simp[aR a]
 ·rw[if_neg a,fU (by simp;omega)]
def OwnN.natAt(h:OwnN w B v (dg n)):NatAt w v n:=by
 rcases iB (nl n) with b|b
 ·have e:=p9 b;subst e;rcases h.2 with ⟨rfl,_⟩|⟨g,a,k,rfl,d,i,hn,_⟩
  ·exact NatAt.nil _
  ·refine⟨_,a,rfl,hn,by rw[sR];exact Rd.nil,Old.mk (Array.getElem?_eq_some_iff.1 i).1⟩
 ·obtain⟨g,a,rfl,d,j,l,c,f⟩:=h.at_ (by rw[aK];exact b);exact⟨_,a,rfl,j,Rd.mk c.lt f,Old.mk c.lt⟩
def OwnN.base(h:OwnN w B v zs)(e:b<=B):OwnN w b v zs:=by
 refine⟨h.1,?_⟩;rcases h.2 with a|⟨g,c,d,hv,f,a⟩
 ·exact .inl a
 ·exact .inr ⟨g,c,d,hv,aH e f,a⟩
def FH(w:World)(zs:List Int)(e:Ending)(w':World):Prop:=∃v,e= .returned v∧OwnN w' w.1.size v zs∧Below w.1.size w w'
def OP(A:Option Addr)(zs:List Int)(c:Nat)(w:World)(b:Rd .u64 w A zs)(m:zs.length*8<=140737488355328):
  Calls prog 152 #[.slice A zs.length c] w (FH w zs):=by
 cases A with
 |none=>
  have d:zs=[]:=by
   rcases b with h|⟨_,_,h,_⟩
   ·exact h
   ·cases h
  subst d;have i:∀w:World,(binOp .eql 75 (.slice none 0 c) (.slice none 0 0)).run prog w= .ok (.bool true) w:=fun w=>Lib.run_eql_slice_nil w _ 143 none 0 c 0 0 underlying75;go_enter func152,ntmps152;go_wp2;go_ret;exact⟨_,rfl,OwnN.nil _ _,aG _ _⟩
 |some a=>
  have i:∀w:World,(binOp .eql 75 (.slice (some a) zs.length c) (.slice none 0 0)).run prog w= .ok (.bool false) w:=fun w=>Lib.run_eql_slice_nil w _ 143 (some a) zs.length c 0 0 underlying75;go_enter func152,ntmps152;have j:Src (w.alloc (.cells #[] 143)) (some a) (zs.map (Value.int .u64)):=(b.be ((aG _ _).alloc aE _)).src;have g:=eqT w 143 1;go_wp2_with (at_builtin;refine gM rfl rfl 143 _ 1 8 underlying75 gZ rfl (by decide) w.1.size (.slice (some ⟨w.1.size,0,none⟩) 0 0) 0 [] rfl g (zs.map (Value.int .u64)) rfl (by simp) j (ints_oneCell _ _) (by omega) (by omega) (by simp) ?_;intro k n f e l);go_ret;refine⟨k,rfl,by simpa [OwnN] using f,?_⟩;exact((aG w.1.size w).alloc aE _).grown e (by simp) (by simp[Value.ownBlock])
def qH(n:Nat)(v:Value)(w:World)(hv:NatAt w v n)(a:nl n<=aJ):
  Calls prog 152 #[v] w (FH w (dg n)):=by
 unfold aJ at a;obtain⟨A,c,rfl,d,b,_⟩:=hv;exact OP A (dg n) c w b (by rw[aK];omega)
def vR(w:World)(K G:Nat)(c d:Value)(a b:Nat)(wr:World):Prop:=OwnN wr w.1.size c (dg a)∧OwnN wr w.1.size d (dg b)∧(∀g,c.ownBlock=some g->d.ownBlock≠some g)∧b<=a∧nl a<=K∧
 Hid (Nat.gcd a b=G)∧Below w.1.size w wr
def FI{a u0 u1 i c d:Nat}{e:Bool}(h:Leh a b u0 u1 g i e c d):c<BN^nl a∧d<BN^nl a∧c+d<=a∧c<=b∧d<=c∧Nat.gcd c d=Nat.gcd a b∧
  (c:Int)=gD e*((g:Int)*b-u0*a)∧(d:Int)=gD e*((u1:Int)*a-i*b):=by
 have f:=h.small;have j:=cyD a;exact⟨by omega,by omega,f.1,f.2,h.hle,h.gcd.symm,h.hna,h.hnb⟩
def FJ(x y K:Nat)(vx vy:Value)(w:World)(hG:Glob w)(M:NatAt w vx x)(N:NatAt w vy y)(bx:nl x<=K)(bY:nl y<=K)(hK:5*K+4<=aJ):
  Calls prog 136 #[vx,vy] w (jK w [vx,vy] (Nat.gcd x y)):=by
 unfold aJ at hK;have ao:=QF x y vx vy w M N (by omega) (by omega);rcases dE x y with a1|ag
 focus (
  have ap:bZ x y<0:=by
   rcases kJ x y with h|h|h<;>omega
  have ag:x<=y:=by omega
  generalize bZ x y=cc at *;go_enter func136,ntmps136;go_wp2_with fail;refine ao.mono ?_;rintro e w0 ⟨rfl,c⟩;have Q:=M.be c;have R:=N.be c;by_cases O:x=0
  focus (
   subst O;obtain⟨B,d,rfl,hd,aj,ai⟩:=id M;have q0:((nl 0:Int)==0)=true:=by rw[dO];rfl
   go_wp2;go_ret;exact⟨_,rfl,by rw[Nat.gcd_zero_left];exact R,From.mem (by simp),c⟩)
  have L:=gS O;obtain⟨B,d,rfl,hd,aj,ai⟩:=id M;have q0:((nl x:Int)==0)=false:=by simp;omega
  go_wp2_with fail;refine(qH y _ _ R (by unfold aJ;omega)).mono ?_;rintro e w1 ⟨va,rfl,f,m⟩;go_wp2_with fail;refine(qH x _ _ (Q.be m) (by unfold aJ;omega)).mono ?_;rintro e w2 ⟨vb,rfl,l,H⟩;have ac:=c.trans ((aC m H).mono c.size);have V:Hid (Nat.gcd y x=Nat.gcd x y):=azD _ _;have A:vR w K (Nat.gcd x y) va vb y x w2:=by
   refine⟨(f.be H).base c.size,l.base (aH c.size m.size),?_,ag,bY,V,ac⟩;intro g t u;have:=(f.lt g t).2;have:=(l.lt g u).1;omega
  have a5:=aB hG;clear f l M N Q R c m H ac hd aj ai O L ag ao hG V;generalize av:Nat.gcd x y=G at *;clear av;generalize [Value.slice B (nl x) d,vy]=Fz at *;go_wp2_with fail;have W:=A;clear A;obtain⟨X,Y,A⟩:∃X Y,vR w K G va vb X Y w2:=⟨y,x,W⟩;clear W)
 rotate_left
 focus (
  have ap:¬bZ x y<0:=by
   rcases kJ x y with h|h|h<;>omega
  generalize bZ x y=cc at *;go_enter func136,ntmps136;go_wp2_with fail;refine ao.mono ?_;rintro e w0 ⟨rfl,c⟩;have Q:=M.be c;have R:=N.be c;by_cases O:y=0
  focus (
   subst O;obtain⟨B,d,rfl,hd,aj,ai⟩:=id N;have q0:((nl 0:Int)==0)=true:=by rw[dO];rfl
   go_wp2;go_ret;exact⟨_,rfl,by rw[bxN];exact Q,From.mem (by simp),c⟩)
  have L:=gS O;obtain⟨B,d,rfl,hd,aj,ai⟩:=id N;have q0:((nl y:Int)==0)=false:=by simp;omega
  go_wp2_with fail;refine(qH x _ _ Q (by unfold aJ;omega)).mono ?_;rintro e w1 ⟨va,rfl,f,m⟩;go_wp2_with fail;refine(qH y _ _ (R.be m) (by unfold aJ;omega)).mono ?_;rintro e w2 ⟨vb,rfl,l,H⟩;have ac:=c.trans ((aC m H).mono c.size);have V:Hid (Nat.gcd x y=Nat.gcd x y):=rfl;have A:vR w K (Nat.gcd x y) va vb x y w2:=by
   refine⟨(f.be H).base c.size,l.base (aH c.size m.size),?_,ag,bx,V,ac⟩;intro g t u;have:=(f.lt g t).2;have:=(l.lt g u).1;omega
  have a5:=aB hG;clear f l M N Q R c m H ac hd aj ai O L ag ao hG V;generalize av:Nat.gcd x y=G at *;clear av;generalize [vx,Value.slice B (nl y) d]=Fz at *;go_wp2_with fail;have W:=A;clear A;obtain⟨X,Y,A⟩:∃X Y,vR w K G va vb X Y w2:=⟨x,y,W⟩;clear W)
 all_goals (
  go_loopg [5,6] (X+Y) (fun k p q wr=>∃a b,Hid (a+b=k)∧vR w K G p q a b wr)
  case atStart=>exact⟨X,Y,rfl,A⟩
  case round=>
   obtain⟨a,b,HK,f,l,ay,a9,db,am,o⟩:=hrel;clear A;by_cases m:nl b<=1
   ·by_cases c:b=0
    ·subst c;have bj:=am.out;rw[bxN] at bj;have hN:=f.natAt;have hf:From w Fz u5:=by
      intro g hg a1;have:=(f.lt g hg).1;omega
     subst bj;rcases l.2 with ⟨rfl,_⟩|⟨g,c6,c7,rfl,_⟩
     ·go_wp2;go_ret;exact⟨_,rfl,hN,hf,o⟩
     ·rw[aK,dO];go_wp2;go_ret;exact⟨_,rfl,hN,hf,o⟩
    ·have L:nl b=1:=by have:=gS c;omega
     have ae:b<BN:=by have:=cyD b;rw[L,bxG] at this;exact this
     have ab:NatAt wr.drew u5 a:=f.natAt;obtain⟨C,ca,rfl,cm,bg,cq,ak,bh⟩:=l.at_ (by rw[aK];omega);have g0:=bh 0 (by rw[aK];omega);rw[pC c ae] at g0;simp only[bA,byM] at g0;have a0:C<wr.drew.1.size:=ak.lt;rw[aK,L] at *;obtain⟨r,HR⟩:∃r,Hid (a%b=r):=⟨_,rfl⟩;have hr:Hid (Nat.gcd b r=G):=by unfold Hid;rw[<-am.out,<-HR.out,azD b,<-Nat.gcd_rec,azD]
     have cd:Glob wr.drew:=a5.out.be (o.drew);have cv:r<BN:=by rw[<-HR.out];exact by8 (dI _ (by omega)) ae
     have cb:Nat.gcd b r<BN:=jI (Nat.gcd_le_left _ (by omega)) ae;clear bh f l ak L ay;go_wp2_with fail
     go_region_held3 (fun w'=>w'.cell? ⟨C,0,none⟩=some (.int .u64 b)) (first|go_keep|(exact(ba.cell (p:=⟨C,0,none⟩) (aZ a0 J.size)).trans ((J.cell (p:=⟨C,0,none⟩) a0).trans g0))|(exact(J.cell (p:=⟨C,0,none⟩) a0).trans g0)) (first
      |(go_at_call 167;refine(GL a b u5 _ ab (by omega) ae (by unfold aJ;omega)).mono ?_;rintro e' wm ⟨he,J⟩;rw[HR.out] at he;subst he)
      |(go_at_call 166;refine(FK b r ae cv _ (cd.be J)).mono ?_;rintro e' w' ⟨rfl,rfl⟩)
      |(go_at_call 107;refine(sX _ cb _).mono ?_;rintro e' wf ⟨vf,rfl,cy,cl,ba⟩))
     go_wp2;go_ret;exact⟨_,rfl,by rw[<-hr.out];exact cy,cl.wk (aH o.size J.size),o.trans ((Below.trans (Below.trans (kI (aG _ _) 1) J) (ba.mono J.size)).mono o.size)⟩
   ·have h2:2<=nl b:=by omega
    have de:=cK a9;have c:b≠0:=by intro h;subst h;rw[dO] at h2;omega
    have ab:=f.natAt;have aw:=l.natAt;obtain⟨C,ca,rfl,cm,bg,cq,ak,c9⟩:=l.at_ (by rw[aK];omega);obtain⟨s,Z,rfl,bk,bf,cp,dh,c8⟩:=f.at_ (by rw[aK];omega);have df:s≠C:=fun h=>ay s rfl (by rw[h];rfl);simp only[aK] at bg bf l f ab aw ay⊢;go_wp2_with fail;refine(GF a b _ _ _ ab aw a9 h2 (by unfold aJ;omega)).mono ?_;rintro e w3 ⟨u0,u1,U,v1,al,rfl,b6,b7,b8,b9,bn,ad⟩;have ar:=aB bn;clear bn m;by_cases bu:U=0
    ·subst bu;clear ar;have n:=ad.alloc ad.size (.cells #[.int .u64 u0,.int .u64 u1,.int .u64 0,.int .u64 v1,.bool al] 208);go_wp2_with fail;refine(eqD a b _ _ _ (ab.be n) (aw.be n) c (by unfold aJ;omega)).mono ?_;rintro e w5 ⟨vq,vr,rfl,hq,hr,fq,fr,an⟩;have nr:nl (a%b)<=nl b:=cK (iE (dI _ (by omega)));go_wp2_with fail;refine(qH (a%b) _ _ hr (by unfold aJ;omega)).mono ?_;rintro e w6 ⟨vc,rfl,bv,ch⟩;have cg:=aC an ch;have bc:=aC n cg;have a1:b+a%b<a+b:=by have:=dI a (show 0<b by omega);omega
     go_wp2;go_roundg (b+a%b)
     case measure=>have:=HK.out;omega
     case rel=>
      refine⟨b,a%b,rfl,l.be bc,bv.base (aH o.size (aH n.size an.size)),?_,iE (dI _ (by omega)),by omega,?_,aC o bc⟩
      ·intro g t u;have S:g=C:=by simpa [Value.ownBlock] using t.symm
       have T:=(bv.lt g u).1;have k3:=ak.lt;have k4:=n.size;have k5:=an.size;omega
      ·unfold Hid;rw[<-am.out,azD b,<-Nat.gcd_rec,azD]
    ·obtain⟨D,P,hL⟩:=ar.out.resolve_left bu;have E:=aB (FI hL);clear hL ar;have q0:((U:Int)==0)=false:=by simp;omega
     go_wp2_with fail;have n:=ad.alloc ad.size (.cells #[.int .u64 u0,.int .u64 u1,.int .u64 U,.int .u64 v1,.bool al] 208);have bb:=Blk.new w3 [.int .u64 u0,.int .u64 u1,.int .u64 U,.int .u64 v1,.bool al] 208;have dl:=ad.size;go_loopg [6] (nl a-nl b) (fun k q wi=>∃j,Hid (nl b+j+k=nl a)∧OwnN wi w.1.size q (dg b++List.replicate j 0)∧q.ownBlock≠some s∧q.ownBlock≠some w3.1.size∧OwnN wi w.1.size (.slice (some ⟨s,0,none⟩) (nl a) Z) (dg a)∧Blk wi w3.1.size [.int .u64 u0,.int .u64 u1,.int .u64 U,.int .u64 v1,.bool al]∧Below w.1.size w wi)
     case atStart=>
      refine⟨0,by unfold Hid;omega,?_,?_,?_,f.be n,bb,aC o n⟩
      ·simpa using l.be n
      ·simp[Value.ownBlock];omega
      ·have:=ak.lt;simp[Value.ownBlock];omega
     case round=>
      obtain⟨j,HJ,hq,a2,bp,a4,I,af⟩:=hrel;clear n bb;obtain⟨z,F,rfl,bm,ax,cr,bt,ck⟩:=hq.at_ (by rw[bN,aK];omega);have aq:(dg b++List.replicate j (0:Int)).length=nl b+j:=by rw[bN,aK,dB]
      rw[aq] at ax;simp only[aq];have au:=aB aq;clear aq;cases gk with
      |zero=>
       have ah:nl b+j=nl a:=by have:=HJ.out;omega
       obtain⟨g',c',e', -, -, -,bs,cj⟩:=a4.at_ (by rw[aK];omega);simp only[Value.slice.injEq,Option.some.injEq,Addr.mk.injEq] at e';obtain⟨⟨t, -, -⟩, -,u⟩:=e';subst t u;rw[ah] at ax;simp only[ah];have b3:Hid ((dg b++List.replicate j (0:Int)).length=nl a):=by unfold Hid;rw[au.out,ah]
       clear ah au HJ;have cu:s≠z:=fun h=>a2 (by rw[h];rfl);have bw:aF aA (dg b++List.replicate j (0:Int))=b:=by rw[kV,mL,cU];simp
       have co:InR aA (dg b++List.replicate j (0:Int)):=(cI b).append (InR.replicate aQ _);have a6:=aB bw;clear bw;generalize dg b++List.replicate j (0:Int)=ys at *;have c0:=I.cell (i:=0) rfl;have c1:=I.cell (i:=1) rfl;have c2:=I.cell (i:=2) rfl;have c3:=I.cell (i:=3) rfl;have c4:=I.cell (i:=4) rfl;go_wp2_with fail;refine(GG w.1.size s z (dg a) ys Z F (nl a) u0 u1 U v1 al D P wr (aK a) b3.out cj ck bs.soft bt.soft cu (by omega) (cI a) co b6 b7 b8 b9 (by rw[a6.out,cU];exact E.out.2.2.2.2.2.2.1) (by rw[a6.out,cU];exact E.out.2.2.2.2.2.2.2) (by rw[<-iX];exact Int.ofNat_lt.2 E.out.1) (by rw[<-iX];exact Int.ofNat_lt.2 E.out.2.1) af.size bk bm).mono ?_;rintro e w7 ⟨rfl,zs,ws,b2,b1,c5,cz,b0,bz,ap,bi,dj,di,ci,a3⟩;have bq:=a3 _ _ _ bs;have br:=a3 _ _ _ bt;have a8:=aB b2;have a7:=aB b1;have b5:=aB b0;have b4:=aB bz
       clear b2 b1 b0 bz a3 c0 c1 c2 c3 c4;go_wp2_with fail;refine(gC _ zs (nl a) Z _ a8.out (Rd.mk bq.lt ap) bf (by omega)).mono ?_;rintro e w8 ⟨rfl,rfl⟩;go_wp2_with fail;refine(gC _ ws (nl a) F _ a7.out (Rd.mk br.lt bi) ax (by omega)).mono ?_;rintro e w8 ⟨rfl,rfl⟩;have S:=oE c5 b5.out;have T:=oE cz b4.out;have t1:=(qI zs).1;have t2:=(qI ws).1;have r1:Cells .u64 w7 s 0 (dg D):=by rw[<-S,t1];exact ap.take _
       have r2:Cells .u64 w7 z 0 (dg P):=by rw[<-T,t2];exact bi.take _
       have l1:(dg D).length<=Z:=by rw[<-S];have:=oF zs;have:=a8.out;omega
       have l2:(dg P).length<=F:=by rw[<-T];have:=oF ws;have:=a7.out;omega
       have o1:OwnN w7 w.1.size (.slice (some ⟨s,0,none⟩) (trimL zs).length Z) (dg D):=by rw[S];exact OwnN.of bq r1 bk l1 cp
       have o2:OwnN w7 w.1.size (.slice (some ⟨z,0,none⟩) (trimL ws).length F) (dg P):=by rw[T];exact OwnN.of br r2 bm l2 cr
       clear S T t1 t2 r1 r2 l1 l2;have hF:=E.out;have da:D+P<a+b:=by omega
       have dc:nl D<=nl a:=cK (by omega);clear hF;go_wp2;go_roundg (D+P)
       case measure=>have:=HK.out;omega
       case rel=>
        refine⟨D,P,rfl,o1,o2,?_,E.out.2.2.2.2.1,by omega,?_,af.trans ci⟩
        ·intro g t u;have S:s=g:=by simpa [Value.ownBlock] using t
         have T:z=g:=by simpa [Value.ownBlock] using u
         omega
        ·unfold Hid;rw[E.out.2.2.2.2.2.1];exact am.out
      |succ k=>
       have ah:nl b+j<nl a:=by have:=HJ.out;omega
       have a1:((nl b:Int)+j)<nl a:=by omega
       have ct:wr.ownsRow w.1.size 143 1 (.slice (some ⟨z,0,none⟩) (nl b+j) F) (nl b+j) ((dg b++List.replicate j (0:Int)).map (Value.int .u64)):=by
        have:=hq;unfold OwnN at this;rw[au.out] at this;exact this
       have cn:=(a4.lt s rfl).2;have cw:=I.soft.lt;have dk:=af.size;have cx:Src (wr.alloc (.cells #[.int .u64 0] 143)) (some ⟨wr.1.size,0,none⟩) [Value.int .u64 0]:=by
        refine .inr ⟨_,_,rfl,fun i v hv=> ?_⟩;match i,hv with
        |0,hv=>simp at hv;subst hv;simp[go_sem]
       go_wp2_with (at_builtin;refine gM rfl rfl 143 _ 1 8 underlying75 gZ rfl (by decide) w.1.size (.slice (some ⟨z,0,none⟩) (nl b+j) F) (nl b+j) _ rfl (ct.alloc _) [Value.int .u64 0] rfl (by simp) cx (by simp[Value.oneCell']) (by omega) (by omega) (by simp;omega) ?_;intro q1 w1 cs az ce);go_wp2;go_roundg k
       case measure=>omega
       case rel=>
        have bo:∀g,g<wr.1.size->(Value.slice (some ⟨z,0,none⟩) (nl b+j) F).ownBlock≠some g->q1.ownBlock≠some g:=by
         intro g hg hn e;rcases ce with h|h
         ·rw[h] at e;exact hn e
         ·rw[h] at e;simp at e;omega
        refine⟨j+1,?_,?_,bo _ cn a2,bo _ cw bp,?_,?_,?_⟩
        ·have:=HJ.out;unfold Hid;omega
        ·unfold OwnN;have e:(dg b++List.replicate (j+1) (0:Int)).map (Value.int .u64)=(dg b++List.replicate j (0:Int)).map (Value.int .u64)++[Value.int .u64 0]:=by
          rw[aqW,<-eK,aq7];rfl
         rw[e,bN,aK,dB,<-bxE];exact cs
        ·exact World.ownsRow.kept (World.ownsRow.alloc a4 _) az (.inr (fun h=>a2 h.symm))
        ·exact(I.alloc _).ke (az.block _ (by simp;omega) (fun h=>bp h.symm))
        ·exact(af.alloc af.size _).grown az (by simp;omega) (fun g hg=>by
          have:z=g:=by simpa [Value.ownBlock] using hg
          omega))
