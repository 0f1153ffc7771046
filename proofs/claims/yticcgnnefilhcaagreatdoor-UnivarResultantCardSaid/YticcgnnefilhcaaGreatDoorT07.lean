/- Laws. -/
import Derived.Test.YticcgnnefilhcaaGreatDoorT04
import Derived.Test.YticcgnnefilhcaaGreatDoorT06
import Derived.Deep.RegionHeld3
set_option linter.all false
set_option maxHeartbeats 8000000
set_option maxRecDepth 99999
namespace Go.Proofs.YticcgnnefilhcaaGreatDoor
open Go.RowKit Sos Tryz
variable{w w':World}{B a b g n:Nat}{v:Value}{zs:List Int}
def OwnN(w:World)(B:Nat)(v:Value)(zs:List Int):Prop:=w.ownsRow B 132 1 v zs.length (zs.map (Value.int .u64))
def OwnN.nil(w:World)(B:Nat):OwnN w B (.slice none 0 0) []:=World.ownsRow_nil w B _ _
def OwnN.be(h:OwnN w B v zs)(a:Below w.1.size w w'):OwnN w' B v zs:=by
 refine World.ownsRow.kept h (rL a none) ?_;cases v.ownBlock with
 |none=>exact .inl rfl
 |some g=>exact .inr (by simp)
def OwnN.lt(h:OwnN w B v zs):∀g,v.ownBlock=some g->B<=g∧g<w.1.size:=World.ownsRow.lt h
def OwnN.at_(h:OwnN w B v zs)(l:0<zs.length):
  ∃g a,v= .slice (some ⟨g,0,none⟩) zs.length a∧B<=g∧zs.length<=a∧a<=maxLen∧Shape w g 132 a∧Cells .u64 w g 0 zs:=by
 rcases h.2 with ⟨_,e⟩|⟨g,a,c,rfl,f,d,hn,j,m,k⟩
 ·omega
 ·refine⟨g,a,rfl,f,hn,j,⟨c,d,by omega⟩,?_⟩;refine VC.cells (fun i u b=> ?_);rw[cell_of_row w g (0+i) c _ (0,0) d,bA,<-Array.getElem?_toList];rw[<-k,fC] at b;split at b
  ·exact b
  ·cases b
def OwnN.of(k:Shape w g 132 a)(f:Cells .u64 w g 0 zs)(e:B<=g)(h:zs.length<=a)(j:a<=maxLen):OwnN w B (.slice (some ⟨g,0,none⟩) zs.length a) zs:=by
 obtain⟨c,d,hn⟩:=k;refine⟨by simp,.inr ⟨g,a,c,rfl,e,d,h,j,by omega,?_⟩⟩;refine SP fun i=> ?_;rw[o9,fC];by_cases b:i<zs.length
 ·rw[if_pos b];have:=f.vc i (.int .u64 zs[i]) (by simp[aR b]);rw[cell_of_row w g (0+i) c _ (0,0) d,bA,<-Array.getElem?_toList] at this;rw[this];simp[aR b]
 ·rw[if_neg b,fU (by simp;omega)]
def OwnN.natAt(h:OwnN w B v (dg n)):NatAt w v n:=by
 rcases iB (nl n) with b|b
 ·have e:=dzZ b;subst e;rcases h.2 with ⟨rfl,_⟩|⟨g,a,k,rfl,d,i,hn,_⟩
  ·exact NatAt.nil _
  ·refine⟨_,a,rfl,hn,by rw[sR];exact Rd.nil,Old.mk (Array.getElem?_eq_some_iff.1 i).1⟩
 ·obtain⟨g,a,rfl,d,j,l,c,f⟩:=h.at_ (by rw[aK];exact b);exact⟨_,a,rfl,j,Rd.mk c.lt f,Old.mk c.lt⟩
def OwnN.base(h:OwnN w B v zs)(e:b<=B):OwnN w b v zs:=by
 refine⟨h.1,?_⟩;rcases h.2 with a|⟨g,c,d,hv,f,a⟩
 ·exact .inl a
 ·exact .inr ⟨g,c,d,hv,aH e f,a⟩
def FH(w:World)(zs:List Int)(e:Ending)(w':World):Prop:=∃v,e= .returned v∧OwnN w' w.1.size v zs∧Below w.1.size w w'
def OP(A:Option Addr)(zs:List Int)(c:Nat)(w:World)(b:Rd .u64 w A zs)(m:zs.length*8<=140737488355328):
  Calls prog 182 #[.slice A zs.length c] w (FH w zs):=by
 cases A with
 |none=>
  have d:zs=[]:=by
   rcases b with h|⟨_,_,h,_⟩
   ·exact h
   ·cases h
  subst d;have i:∀w:World,(binOp .eql 41 (.slice none 0 c) (.slice none 0 0)).run prog w= .ok (.bool true) w:=fun w=>Lib.run_eql_slice_nil w _ 132 none 0 c 0 0 underlying41;go_enter func182,ntmps182;go_wp2;go_ret;exact⟨_,rfl,OwnN.nil _ _,aG _ _⟩
 |some a=>
  have i:∀w:World,(binOp .eql 41 (.slice (some a) zs.length c) (.slice none 0 0)).run prog w= .ok (.bool false) w:=fun w=>Lib.run_eql_slice_nil w _ 132 (some a) zs.length c 0 0 underlying41;go_enter func182,ntmps182;have j:Src (w.alloc (.cells #[] 132)) (some a) (zs.map (Value.int .u64)):=(b.be ((aG _ _).alloc aE _)).src;have g:=bzF w 132 1;go_wp2_with (at_builtin;refine gM rfl rfl 132 _ 1 8 underlying41 gZ rfl (by decide) w.1.size (.slice (some ⟨w.1.size,0,none⟩) 0 0) 0 [] rfl g (zs.map (Value.int .u64)) rfl (by simp) j (ints_oneCell _ _) (by omega) (by omega) (by simp) ?_;intro k n f e l);go_ret;refine⟨k,rfl,by simpa [OwnN] using f,?_⟩;exact((aG w.1.size w).alloc aE _).grown e (by simp) (by simp[Value.ownBlock])
def qH(n:Nat)(v:Value)(w:World)(hv:NatAt w v n)(a:nl n<=aJ):
  Calls prog 182 #[v] w (FH w (dg n)):=by
 unfold aJ at a;obtain⟨A,c,rfl,d,b,_⟩:=hv;exact OP A (dg n) c w b (by rw[aK];omega)
def vR(w:World)(K G:Nat)(c d:Value)(a b:Nat)(wr:World):Prop:=OwnN wr w.1.size c (dg a)∧OwnN wr w.1.size d (dg b)∧(∀g,c.ownBlock=some g->d.ownBlock≠some g)∧b<=a∧nl a<=K∧
 Hid (Nat.gcd a b=G)∧Below w.1.size w wr
def FI{u0 u1 i c d:Nat}{e:Bool}(h:Leh a b u0 u1 g i e c d):c<BN^nl a∧d<BN^nl a∧c+d<=a∧c<=b∧d<=c∧Nat.gcd c d=Nat.gcd a b∧
  (c:Int)=gD e*((g:Int)*b-u0*a)∧(d:Int)=gD e*((u1:Int)*a-i*b):=by
 have f:=h.small;have j:=cY a;exact⟨by omega,by omega,f.1,f.2,h.hle,h.gcd.symm,h.hna,h.hnb⟩
def FJ(x y K:Nat)(vx vy:Value)(w:World)(hG:Glob w)(hx:NatAt w vx x)(hy:NatAt w vy y)(bx:nl x<=K)(bY:nl y<=K)(hK:5*K+4<=aJ):
  Calls prog 141 #[vx,vy] w (jK w [vx,vy] (Nat.gcd x y)):=by
 unfold aJ at hK;have bw:=nA x y vx vy w hx hy (by omega) (by omega);rcases dE x y with aq|bb
 ·have ai:bZ x y<0:=by
   rcases kJ x y with h|h|h<;>omega
  have bb:x<=y:=by omega
  generalize bZ x y=cc at *;go_enter func141,ntmps141;go_wp2_with fail;refine bw.mono ?_;rintro e w0 ⟨rfl,c⟩;have ar:=hx.be c;have au:=hy.be c;by_cases ap:x=0
  ·subst ap;obtain⟨B,d,rfl,hd,bj,bg⟩:=id hx;have q0:((nl 0:Int)==0)=true:=by rw[dO];rfl
   go_wp2;go_ret;exact⟨_,rfl,by rw[Nat.gcd_zero_left];exact au,From.mem (by simp),c⟩
  ·have U:=gS ap;obtain⟨B,d,rfl,hd,bj,bg⟩:=id hx;have q0:((nl x:Int)==0)=false:=by simp;omega
   go_wp2_with fail;refine(qH y _ _ au (by unfold aJ;omega)).mono ?_;rintro e w1 ⟨va,rfl,f,E⟩;go_wp2_with fail;refine(qH x _ _ (ar.be E) (by unfold aJ;omega)).mono ?_;rintro e w2 ⟨vb,rfl,l,ag⟩;have az:=c.trans ((aC E ag).mono c.size);have av:Hid (Nat.gcd y x=Nat.gcd x y):=dz6 _ _;have bi:vR w K (Nat.gcd x y) va vb y x w2:=by
    refine⟨(f.be ag).base c.size,l.base (aH c.size E.size),?_,bb,bY,av,az⟩;intro g C D;have:=(f.lt g C).2;have:=(l.lt g D).1;omega
   have bz:=aB hG;clear f l hx hy ar au c E ag az hd bj bg ap U bb bw hG av;generalize b9:Nat.gcd x y=G at *;clear b9;generalize [Value.slice B (nl x) d,vy]=Fz at *;go_wp2_with fail;go_loopg [5,6] (y+x) (fun k p q wr=>∃a b,Hid (a+b=k)∧vR w K G p q a b wr)
   case atStart=>exact⟨y,x,rfl,bi⟩
   case round=>
    obtain⟨a,b,HK,f,l,aj,a0,c9,Y,n⟩:=hrel;clear bi;by_cases E:nl b<=1
    ·by_cases c:b=0
     ·subst c;have a8:=Y.out;rw[OA] at a8;have hN:=f.natAt;have hf:From w Fz u5:=by
       intro g hg aq;have:=(f.lt g hg).1;omega
      subst a8;rcases l.2 with ⟨rfl,_⟩|⟨g,cz,c5,rfl,_⟩
      ·go_wp2;go_ret;exact⟨_,rfl,hN,hf,n⟩
      ·rw[aK,dO];go_wp2;go_ret;exact⟨_,rfl,hN,hf,n⟩
     ·have U:nl b=1:=by have:=gS c;omega
      have R:b<BN:=by have:=cY b;rw[U,GA] at this;exact this
      have P:NatAt wr.drew u5 a:=f.natAt;obtain⟨t,b7,rfl,ck,a5,co,V,a6⟩:=l.at_ (by rw[aK];omega);have g0:=a6 0 (by rw[aK];omega);rw[pC c R] at g0;simp only[bA,aqL] at g0;have al:t<wr.drew.1.size:=V.lt;rw[aK,U] at *;obtain⟨r,HR⟩:∃r,Hid (a%b=r):=⟨_,rfl⟩;have hr:Hid (Nat.gcd b r=G):=by unfold Hid;rw[<-Y.out,<-HR.out,dz6 b,<-Nat.gcd_rec,dz6]
      have ca:Glob wr.drew:=bz.out.be (n.drew);have ct:r<BN:=by rw[<-HR.out];exact aq7 (dI _ (by omega)) R
      have b8:Nat.gcd b r<BN:=jI (Nat.gcd_le_left _ (by omega)) R;clear a6 f l V U aj;go_wp2_with fail
      go_region_held3 (fun w'=>w'.cell? ⟨t,0,none⟩=some (.int .u64 b)) (first|go_keep|(exact(a1.cell (p:=⟨t,0,none⟩) (aZ al H.size)).trans ((H.cell (p:=⟨t,0,none⟩) al).trans g0))|(exact(H.cell (p:=⟨t,0,none⟩) al).trans g0)) (first
       |(go_at_call 187;refine(bqY a b u5 _ P (by omega) R (by unfold aJ;omega)).mono ?_;rintro O wm ⟨he,H⟩;rw[HR.out] at he;subst he)
       |(go_at_call 186;refine(FK b r R ct _ (ca.be H)).mono ?_;rintro O w' ⟨rfl,rfl⟩)
       |(go_at_call 97;refine(sX _ b8 _).mono ?_;rintro O wf ⟨vf,rfl,cw,cj,a1⟩))
      go_wp2;go_ret;exact⟨_,rfl,by rw[<-hr.out];exact cw,cj.wk (aH n.size H.size),n.trans ((Below.trans (Below.trans (eQ (aG _ _) 1) H) (a1.mono H.size)).mono n.size)⟩
    ·have h2:2<=nl b:=by omega
     have db:=cK a0;have c:b≠0:=by intro h;subst h;rw[dO] at h2;omega
     have P:=f.natAt;have af:=l.natAt;obtain⟨t,b7,rfl,ck,a5,co,V,c7⟩:=l.at_ (by rw[aK];omega);obtain⟨o,N,rfl,a9,a4,cn,de,c6⟩:=f.at_ (by rw[aK];omega);have dc:o≠t:=fun h=>aj o rfl (by rw[h];rfl);simp only[aK] at a5 a4 l f P af aj⊢;go_wp2_with fail;refine(GF a b _ _ _ P af a0 h2 (by unfold aJ;omega)).mono ?_;rintro e w3 ⟨u0,u1,M,X,W,rfl,b3,b4,b5,b6,bc,Q⟩;have ad:=aB bc;clear bc E;by_cases bp:M=0
     ·subst bp;clear ad;have m:=Q.alloc Q.size (.cells #[.int .u64 u0,.int .u64 u1,.int .u64 0,.int .u64 X,.bool W] 214);go_wp2_with fail;refine(tE a b _ _ _ (P.be m) (af.be m) c (by unfold aJ;omega)).mono ?_;rintro e w5 ⟨vq,vr,rfl,hq,hr,fq,fr,ab⟩;have nr:nl (a%b)<=nl b:=cK (iE (dI _ (by omega)));go_wp2_with fail;refine(qH (a%b) _ _ hr (by unfold aJ;omega)).mono ?_;rintro e w6 ⟨vc,rfl,bq,ce⟩;have cd:=aC ab ce;have a3:=aC m cd;have aq:b+a%b<a+b:=by have:=dI a (show 0<b by omega);omega
      go_wp2;go_roundg (b+a%b)
      case measure=>have:=HK.out;omega
      case rel=>
       refine⟨b,a%b,rfl,l.be a3,bq.base (aH n.size (aH m.size ab.size)),?_,iE (dI _ (by omega)),by omega,?_,aC n a3⟩
       ·intro g C D;have J:g=t:=by simpa [Value.ownBlock] using C.symm
        have L:=(bq.lt g D).1;have k3:=V.lt;have k4:=m.size;have k5:=ab.size;omega
       ·unfold Hid;rw[<-Y.out,dz6 b,<-Nat.gcd_rec,dz6]
     ·obtain⟨u,I,hL⟩:=ad.out.resolve_left bp;have z:=aB (FI hL);clear hL ad;have q0:((M:Int)==0)=false:=by simp;omega
      go_wp2_with fail;have m:=Q.alloc Q.size (.cells #[.int .u64 u0,.int .u64 u1,.int .u64 M,.int .u64 X,.bool W] 214);have a2:=Blk.new w3 [.int .u64 u0,.int .u64 u1,.int .u64 M,.int .u64 X,.bool W] 214;have dj:=Q.size;go_loopg [6] (nl a-nl b) (fun k q wi=>∃j,Hid (nl b+j+k=nl a)∧OwnN wi w.1.size q (dg b++List.replicate j 0)∧q.ownBlock≠some o∧q.ownBlock≠some w3.1.size∧OwnN wi w.1.size (.slice (some ⟨o,0,none⟩) (nl a) N) (dg a)∧Blk wi w3.1.size [.int .u64 u0,.int .u64 u1,.int .u64 M,.int .u64 X,.bool W]∧Below w.1.size w wi)
      case atStart=>
       refine⟨0,by unfold Hid;omega,?_,?_,?_,f.be m,a2,aC n m⟩
       ·simpa using l.be m
       ·simp[Value.ownBlock];omega
       ·have:=V.lt;simp[Value.ownBlock];omega
      case round=>
       obtain⟨j,Z,hq,am,bh,ao,F,S⟩:=hrel;clear m a2;obtain⟨s,A,rfl,ba,ah,cp,bo,ci⟩:=hq.at_ (by rw[bG,aK];omega);have ac:(dg b++List.replicate j (0:Int)).length=nl b+j:=by rw[bG,aK,dB]
       rw[ac] at ah;simp only[ac];have ae:=aB ac;clear ac;cases gk with
       |zero=>
        have T:nl b+j=nl a:=by have:=Z.out;omega
        obtain⟨g',c',O, -, -, -,bn,ch⟩:=ao.at_ (by rw[aK];omega);simp only[Value.slice.injEq,Option.some.injEq,Addr.mk.injEq] at O;obtain⟨⟨C, -, -⟩, -,D⟩:=O;subst C D;rw[T] at ah;simp only[T];have b0:Hid ((dg b++List.replicate j (0:Int)).length=nl a):=by unfold Hid;rw[ae.out,T]
        clear T ae Z;have cs:o≠s:=fun h=>am (by rw[h];rfl);have br:aF aA (dg b++List.replicate j (0:Int))=b:=by rw[kV,mL,cU];simp
        have cm:InR aA (dg b++List.replicate j (0:Int)):=(cI b).append (InR.replicate aQ _);have aw:=aB br;clear br;generalize dg b++List.replicate j (0:Int)=ys at *;have c0:=F.cell (i:=0) rfl;have c1:=F.cell (i:=1) rfl;have c2:=F.cell (i:=2) rfl;have c3:=F.cell (i:=3) rfl;have c4:=F.cell (i:=4) rfl;go_wp2_with fail;refine(GG w.1.size o s (dg a) ys N A (nl a) u0 u1 M X W u I wr (aK a) b0.out ch ci bn.soft bo.soft cs (by omega) (cI a) cm b3 b4 b5 b6 (by rw[aw.out,cU];exact z.out.2.2.2.2.2.2.1) (by rw[aw.out,cU];exact z.out.2.2.2.2.2.2.2) (by rw[<-iX];exact Int.ofNat_lt.2 z.out.1) (by rw[<-iX];exact Int.ofNat_lt.2 z.out.2.1) S.size a9 ba).mono ?_;rintro e w7 ⟨rfl,zs,ws,bv,bu,cy,cx,bt,bs,ai,a7,dh,df,cg,an⟩;have bk:=an _ _ _ bn;have bm:=an _ _ _ bo;have ay:=aB bv;have ax:=aB bu;have b2:=aB bt;have b1:=aB bs
        clear bv bu bt bs an c0 c1 c2 c3 c4;go_wp2_with fail;refine(gC _ zs (nl a) N _ ay.out (Rd.mk bk.lt ai) a4 (by omega)).mono ?_;rintro e w8 ⟨rfl,rfl⟩;go_wp2_with fail;refine(gC _ ws (nl a) A _ ax.out (Rd.mk bm.lt a7) ah (by omega)).mono ?_;rintro e w8 ⟨rfl,rfl⟩;have J:=oE cy b2.out;have L:=oE cx b1.out;have t1:=(qI zs).1;have t2:=(qI ws).1;have r1:Cells .u64 w7 o 0 (dg u):=by rw[<-J,t1];exact ai.take _
        have r2:Cells .u64 w7 s 0 (dg I):=by rw[<-L,t2];exact a7.take _
        have l1:(dg u).length<=N:=by rw[<-J];have:=oF zs;have:=ay.out;omega
        have l2:(dg I).length<=A:=by rw[<-L];have:=oF ws;have:=ax.out;omega
        have o1:OwnN w7 w.1.size (.slice (some ⟨o,0,none⟩) (trimL zs).length N) (dg u):=by rw[J];exact OwnN.of bk r1 a9 l1 cn
        have o2:OwnN w7 w.1.size (.slice (some ⟨s,0,none⟩) (trimL ws).length A) (dg I):=by rw[L];exact OwnN.of bm r2 ba l2 cp
        clear J L t1 t2 r1 r2 l1 l2;have hF:=z.out;have c8:u+I<a+b:=by omega
        have da:nl u<=nl a:=cK (by omega);clear hF;go_wp2;go_roundg (u+I)
        case measure=>have:=HK.out;omega
        case rel=>
         refine⟨u,I,rfl,o1,o2,?_,z.out.2.2.2.2.1,by omega,?_,S.trans cg⟩
         ·intro g C D;have J:o=g:=by simpa [Value.ownBlock] using C
          have L:s=g:=by simpa [Value.ownBlock] using D
          omega
         ·unfold Hid;rw[z.out.2.2.2.2.2.1];exact Y.out
       |succ k=>
        have T:nl b+j<nl a:=by have:=Z.out;omega
        have aq:((nl b:Int)+j)<nl a:=by omega
        have cr:wr.ownsRow w.1.size 132 1 (.slice (some ⟨s,0,none⟩) (nl b+j) A) (nl b+j) ((dg b++List.replicate j (0:Int)).map (Value.int .u64)):=by
         have:=hq;unfold OwnN at this;rw[ae.out] at this;exact this
        have cl:=(ao.lt o rfl).2;have cu:=F.soft.lt;have di:=S.size;have cv:Src (wr.alloc (.cells #[.int .u64 0] 132)) (some ⟨wr.1.size,0,none⟩) [Value.int .u64 0]:=by
         refine .inr ⟨_,_,rfl,fun i v hv=> ?_⟩;match i,hv with
         |0,hv=>simp at hv;subst hv;simp[go_sem]
        go_wp2_with (at_builtin;refine gM rfl rfl 132 _ 1 8 underlying41 gZ rfl (by decide) w.1.size (.slice (some ⟨s,0,none⟩) (nl b+j) A) (nl b+j) _ rfl (cr.alloc _) [Value.int .u64 0] rfl (by simp) cv (by simp[Value.oneCell']) (by omega) (by omega) (by simp;omega) ?_;intro q1 w1 cq ak cb);go_wp2;go_roundg k
        case measure=>omega
        case rel=>
         have bf:∀g,g<wr.1.size->(Value.slice (some ⟨s,0,none⟩) (nl b+j) A).ownBlock≠some g->q1.ownBlock≠some g:=by
          intro g hg hn e;rcases cb with h|h
          ·rw[h] at e;exact hn e
          ·rw[h] at e;simp at e;omega
         refine⟨j+1,?_,?_,bf _ cl am,bf _ cu bh,?_,?_,?_⟩
         ·have:=Z.out;unfold Hid;omega
         ·unfold OwnN;have e:(dg b++List.replicate (j+1) (0:Int)).map (Value.int .u64)=(dg b++List.replicate j (0:Int)).map (Value.int .u64)++[Value.int .u64 0]:=by
           rw[X2,<-eK,azM];rfl
          rw[e,bG,aK,dB,<-az7];exact cq
         ·exact World.ownsRow.kept (World.ownsRow.alloc ao _) ak (.inr (fun h=>am h.symm))
         ·exact(F.alloc _).ke (ak.block _ (by simp;omega) (fun h=>bh h.symm))
         ·exact(S.alloc S.size _).grown ak (by simp;omega) (fun g hg=>by
           have:s=g:=by simpa [Value.ownBlock] using hg
           omega)
 ·have ai:¬bZ x y<0:=by
   rcases kJ x y with h|h|h<;>omega
  generalize bZ x y=cc at *;go_enter func141,ntmps141;go_wp2_with fail;refine bw.mono ?_;rintro e w0 ⟨rfl,c⟩;have ar:=hx.be c;have au:=hy.be c;by_cases ap:y=0
  ·subst ap;obtain⟨B,d,rfl,hd,bj,bg⟩:=id hy;have q0:((nl 0:Int)==0)=true:=by rw[dO];rfl
   go_wp2;go_ret;exact⟨_,rfl,by rw[OA];exact ar,From.mem (by simp),c⟩
  ·have U:=gS ap;obtain⟨B,d,rfl,hd,bj,bg⟩:=id hy;have q0:((nl y:Int)==0)=false:=by simp;omega
   go_wp2_with fail;refine(qH x _ _ ar (by unfold aJ;omega)).mono ?_;rintro e w1 ⟨va,rfl,f,E⟩;go_wp2_with fail;refine(qH y _ _ (au.be E) (by unfold aJ;omega)).mono ?_;rintro e w2 ⟨vb,rfl,l,ag⟩;have az:=c.trans ((aC E ag).mono c.size);have av:Hid (Nat.gcd x y=Nat.gcd x y):=rfl;have bi:vR w K (Nat.gcd x y) va vb x y w2:=by
    refine⟨(f.be ag).base c.size,l.base (aH c.size E.size),?_,bb,bx,av,az⟩;intro g C D;have:=(f.lt g C).2;have:=(l.lt g D).1;omega
   have bz:=aB hG;clear f l hx hy ar au c E ag az hd bj bg ap U bb bw hG av;generalize b9:Nat.gcd x y=G at *;clear b9;generalize [vx,Value.slice B (nl y) d]=Fz at *;go_wp2_with fail;go_loopg [5,6] (x+y) (fun k p q wr=>∃a b,Hid (a+b=k)∧vR w K G p q a b wr)
   case atStart=>exact⟨x,y,rfl,bi⟩
   case round=>
    obtain⟨a,b,HK,f,l,aj,a0,c9,Y,n⟩:=hrel;clear bi;by_cases E:nl b<=1
    ·by_cases c:b=0
     ·subst c;have a8:=Y.out;rw[OA] at a8;have hN:=f.natAt;have hf:From w Fz u5:=by
       intro g hg aq;have:=(f.lt g hg).1;omega
      subst a8;rcases l.2 with ⟨rfl,_⟩|⟨g,cz,c5,rfl,_⟩
      ·go_wp2;go_ret;exact⟨_,rfl,hN,hf,n⟩
      ·rw[aK,dO];go_wp2;go_ret;exact⟨_,rfl,hN,hf,n⟩
     ·have U:nl b=1:=by have:=gS c;omega
      have R:b<BN:=by have:=cY b;rw[U,GA] at this;exact this
      have P:NatAt wr.drew u5 a:=f.natAt;obtain⟨t,b7,rfl,ck,a5,co,V,a6⟩:=l.at_ (by rw[aK];omega);have g0:=a6 0 (by rw[aK];omega);rw[pC c R] at g0;simp only[bA,aqL] at g0;have al:t<wr.drew.1.size:=V.lt;rw[aK,U] at *;obtain⟨r,HR⟩:∃r,Hid (a%b=r):=⟨_,rfl⟩;have hr:Hid (Nat.gcd b r=G):=by unfold Hid;rw[<-Y.out,<-HR.out,dz6 b,<-Nat.gcd_rec,dz6]
      have ca:Glob wr.drew:=bz.out.be (n.drew);have ct:r<BN:=by rw[<-HR.out];exact aq7 (dI _ (by omega)) R
      have b8:Nat.gcd b r<BN:=jI (Nat.gcd_le_left _ (by omega)) R;clear a6 f l V U aj;go_wp2_with fail
      go_region_held3 (fun w'=>w'.cell? ⟨t,0,none⟩=some (.int .u64 b)) (first|go_keep|(exact(a1.cell (p:=⟨t,0,none⟩) (aZ al H.size)).trans ((H.cell (p:=⟨t,0,none⟩) al).trans g0))|(exact(H.cell (p:=⟨t,0,none⟩) al).trans g0)) (first
       |(go_at_call 187;refine(bqY a b u5 _ P (by omega) R (by unfold aJ;omega)).mono ?_;rintro O wm ⟨he,H⟩;rw[HR.out] at he;subst he)
       |(go_at_call 186;refine(FK b r R ct _ (ca.be H)).mono ?_;rintro O w' ⟨rfl,rfl⟩)
       |(go_at_call 97;refine(sX _ b8 _).mono ?_;rintro O wf ⟨vf,rfl,cw,cj,a1⟩))
      go_wp2;go_ret;exact⟨_,rfl,by rw[<-hr.out];exact cw,cj.wk (aH n.size H.size),n.trans ((Below.trans (Below.trans (eQ (aG _ _) 1) H) (a1.mono H.size)).mono n.size)⟩
    ·have h2:2<=nl b:=by omega
     have db:=cK a0;have c:b≠0:=by intro h;subst h;rw[dO] at h2;omega
     have P:=f.natAt;have af:=l.natAt;obtain⟨t,b7,rfl,ck,a5,co,V,c7⟩:=l.at_ (by rw[aK];omega);obtain⟨o,N,rfl,a9,a4,cn,de,c6⟩:=f.at_ (by rw[aK];omega);have dc:o≠t:=fun h=>aj o rfl (by rw[h];rfl);simp only[aK] at a5 a4 l f P af aj⊢;go_wp2_with fail;refine(GF a b _ _ _ P af a0 h2 (by unfold aJ;omega)).mono ?_;rintro e w3 ⟨u0,u1,M,X,W,rfl,b3,b4,b5,b6,bc,Q⟩;have ad:=aB bc;clear bc E;by_cases bp:M=0
     ·subst bp;clear ad;have m:=Q.alloc Q.size (.cells #[.int .u64 u0,.int .u64 u1,.int .u64 0,.int .u64 X,.bool W] 214);go_wp2_with fail;refine(tE a b _ _ _ (P.be m) (af.be m) c (by unfold aJ;omega)).mono ?_;rintro e w5 ⟨vq,vr,rfl,hq,hr,fq,fr,ab⟩;have nr:nl (a%b)<=nl b:=cK (iE (dI _ (by omega)));go_wp2_with fail;refine(qH (a%b) _ _ hr (by unfold aJ;omega)).mono ?_;rintro e w6 ⟨vc,rfl,bq,ce⟩;have cd:=aC ab ce;have a3:=aC m cd;have aq:b+a%b<a+b:=by have:=dI a (show 0<b by omega);omega
      go_wp2;go_roundg (b+a%b)
      case measure=>have:=HK.out;omega
      case rel=>
       refine⟨b,a%b,rfl,l.be a3,bq.base (aH n.size (aH m.size ab.size)),?_,iE (dI _ (by omega)),by omega,?_,aC n a3⟩
       ·intro g C D;have J:g=t:=by simpa [Value.ownBlock] using C.symm
        have L:=(bq.lt g D).1;have k3:=V.lt;have k4:=m.size;have k5:=ab.size;omega
       ·unfold Hid;rw[<-Y.out,dz6 b,<-Nat.gcd_rec,dz6]
     ·obtain⟨u,I,hL⟩:=ad.out.resolve_left bp;have z:=aB (FI hL);clear hL ad;have q0:((M:Int)==0)=false:=by simp;omega
      go_wp2_with fail;have m:=Q.alloc Q.size (.cells #[.int .u64 u0,.int .u64 u1,.int .u64 M,.int .u64 X,.bool W] 214);have a2:=Blk.new w3 [.int .u64 u0,.int .u64 u1,.int .u64 M,.int .u64 X,.bool W] 214;have dj:=Q.size;go_loopg [6] (nl a-nl b) (fun k q wi=>∃j,Hid (nl b+j+k=nl a)∧OwnN wi w.1.size q (dg b++List.replicate j 0)∧q.ownBlock≠some o∧q.ownBlock≠some w3.1.size∧OwnN wi w.1.size (.slice (some ⟨o,0,none⟩) (nl a) N) (dg a)∧Blk wi w3.1.size [.int .u64 u0,.int .u64 u1,.int .u64 M,.int .u64 X,.bool W]∧Below w.1.size w wi)
      case atStart=>
       refine⟨0,by unfold Hid;omega,?_,?_,?_,f.be m,a2,aC n m⟩
       ·simpa using l.be m
       ·simp[Value.ownBlock];omega
       ·have:=V.lt;simp[Value.ownBlock];omega
      case round=>
       obtain⟨j,Z,hq,am,bh,ao,F,S⟩:=hrel;clear m a2;obtain⟨s,A,rfl,ba,ah,cp,bo,ci⟩:=hq.at_ (by rw[bG,aK];omega);have ac:(dg b++List.replicate j (0:Int)).length=nl b+j:=by rw[bG,aK,dB]
       rw[ac] at ah;simp only[ac];have ae:=aB ac;clear ac;cases gk with
       |zero=>
        have T:nl b+j=nl a:=by have:=Z.out;omega
        obtain⟨g',c',O, -, -, -,bn,ch⟩:=ao.at_ (by rw[aK];omega);simp only[Value.slice.injEq,Option.some.injEq,Addr.mk.injEq] at O;obtain⟨⟨C, -, -⟩, -,D⟩:=O;subst C D;rw[T] at ah;simp only[T];have b0:Hid ((dg b++List.replicate j (0:Int)).length=nl a):=by unfold Hid;rw[ae.out,T]
        clear T ae Z;have cs:o≠s:=fun h=>am (by rw[h];rfl);have br:aF aA (dg b++List.replicate j (0:Int))=b:=by rw[kV,mL,cU];simp
        have cm:InR aA (dg b++List.replicate j (0:Int)):=(cI b).append (InR.replicate aQ _);have aw:=aB br;clear br;generalize dg b++List.replicate j (0:Int)=ys at *;have c0:=F.cell (i:=0) rfl;have c1:=F.cell (i:=1) rfl;have c2:=F.cell (i:=2) rfl;have c3:=F.cell (i:=3) rfl;have c4:=F.cell (i:=4) rfl;go_wp2_with fail;refine(GG w.1.size o s (dg a) ys N A (nl a) u0 u1 M X W u I wr (aK a) b0.out ch ci bn.soft bo.soft cs (by omega) (cI a) cm b3 b4 b5 b6 (by rw[aw.out,cU];exact z.out.2.2.2.2.2.2.1) (by rw[aw.out,cU];exact z.out.2.2.2.2.2.2.2) (by rw[<-iX];exact Int.ofNat_lt.2 z.out.1) (by rw[<-iX];exact Int.ofNat_lt.2 z.out.2.1) S.size a9 ba).mono ?_;rintro e w7 ⟨rfl,zs,ws,bv,bu,cy,cx,bt,bs,ai,a7,dh,df,cg,an⟩;have bk:=an _ _ _ bn;have bm:=an _ _ _ bo;have ay:=aB bv;have ax:=aB bu;have b2:=aB bt;have b1:=aB bs
        clear bv bu bt bs an c0 c1 c2 c3 c4;go_wp2_with fail;refine(gC _ zs (nl a) N _ ay.out (Rd.mk bk.lt ai) a4 (by omega)).mono ?_;rintro e w8 ⟨rfl,rfl⟩;go_wp2_with fail;refine(gC _ ws (nl a) A _ ax.out (Rd.mk bm.lt a7) ah (by omega)).mono ?_;rintro e w8 ⟨rfl,rfl⟩;have J:=oE cy b2.out;have L:=oE cx b1.out;have t1:=(qI zs).1;have t2:=(qI ws).1;have r1:Cells .u64 w7 o 0 (dg u):=by rw[<-J,t1];exact ai.take _
        have r2:Cells .u64 w7 s 0 (dg I):=by rw[<-L,t2];exact a7.take _
        have l1:(dg u).length<=N:=by rw[<-J];have:=oF zs;have:=ay.out;omega
        have l2:(dg I).length<=A:=by rw[<-L];have:=oF ws;have:=ax.out;omega
        have o1:OwnN w7 w.1.size (.slice (some ⟨o,0,none⟩) (trimL zs).length N) (dg u):=by rw[J];exact OwnN.of bk r1 a9 l1 cn
        have o2:OwnN w7 w.1.size (.slice (some ⟨s,0,none⟩) (trimL ws).length A) (dg I):=by rw[L];exact OwnN.of bm r2 ba l2 cp
        clear J L t1 t2 r1 r2 l1 l2;have hF:=z.out;have c8:u+I<a+b:=by omega
        have da:nl u<=nl a:=cK (by omega);clear hF;go_wp2;go_roundg (u+I)
        case measure=>have:=HK.out;omega
        case rel=>
         refine⟨u,I,rfl,o1,o2,?_,z.out.2.2.2.2.1,by omega,?_,S.trans cg⟩
         ·intro g C D;have J:o=g:=by simpa [Value.ownBlock] using C
          have L:s=g:=by simpa [Value.ownBlock] using D
          omega
         ·unfold Hid;rw[z.out.2.2.2.2.2.1];exact Y.out
       |succ k=>
        have T:nl b+j<nl a:=by have:=Z.out;omega
        have aq:((nl b:Int)+j)<nl a:=by omega
        have cr:wr.ownsRow w.1.size 132 1 (.slice (some ⟨s,0,none⟩) (nl b+j) A) (nl b+j) ((dg b++List.replicate j (0:Int)).map (Value.int .u64)):=by
         have:=hq;unfold OwnN at this;rw[ae.out] at this;exact this
        have cl:=(ao.lt o rfl).2;have cu:=F.soft.lt;have di:=S.size;have cv:Src (wr.alloc (.cells #[.int .u64 0] 132)) (some ⟨wr.1.size,0,none⟩) [Value.int .u64 0]:=by
         refine .inr ⟨_,_,rfl,fun i v hv=> ?_⟩;match i,hv with
         |0,hv=>simp at hv;subst hv;simp[go_sem]
        go_wp2_with (at_builtin;refine gM rfl rfl 132 _ 1 8 underlying41 gZ rfl (by decide) w.1.size (.slice (some ⟨s,0,none⟩) (nl b+j) A) (nl b+j) _ rfl (cr.alloc _) [Value.int .u64 0] rfl (by simp) cv (by simp[Value.oneCell']) (by omega) (by omega) (by simp;omega) ?_;intro q1 w1 cq ak cb);go_wp2;go_roundg k
        case measure=>omega
        case rel=>
         have bf:∀g,g<wr.1.size->(Value.slice (some ⟨s,0,none⟩) (nl b+j) A).ownBlock≠some g->q1.ownBlock≠some g:=by
          intro g hg hn e;rcases cb with h|h
          ·rw[h] at e;exact hn e
          ·rw[h] at e;simp at e;omega
         refine⟨j+1,?_,?_,bf _ cl am,bf _ cu bh,?_,?_,?_⟩
         ·have:=Z.out;unfold Hid;omega
         ·unfold OwnN;have e:(dg b++List.replicate (j+1) (0:Int)).map (Value.int .u64)=(dg b++List.replicate j (0:Int)).map (Value.int .u64)++[Value.int .u64 0]:=by
           rw[X2,<-eK,azM];rfl
          rw[e,bG,aK,dB,<-az7];exact cq
         ·exact World.ownsRow.kept (World.ownsRow.alloc ao _) ak (.inr (fun h=>am h.symm))
         ·exact(F.alloc _).ke (ak.block _ (by simp;omega) (fun h=>bh h.symm))
         ·exact(S.alloc S.size _).grown ak (by simp;omega) (fun g hg=>by
           have:s=g:=by simpa [Value.ownBlock] using hg
           omega)
