/- Laws. -/
import Derived.Test.YtjgbleapffgbcaaGreatDoorW05
import Derived.Deep.RegionHeld3
set_option linter.all false
set_option maxHeartbeats 8000000
set_option maxRecDepth 99999
namespace Go.Proofs.YtjgbleapffgbcaaGreatDoor
open Go.RowKit Sos Tryz
variable{w w':World}{B a b g n:Nat}{v:Value}{zs:List Int}
def OwnN(w:World)(B:Nat)(v:Value)(zs:List Int):Prop:=w.ownsRow B 119 1 v zs.length (zs.map (Value.int .u64))
def OwnN.nil(w:World)(B:Nat):OwnN w B (.slice none 0 0) []:=World.ownsRow_nil w B _ _
def OwnN.be(h:OwnN w B v zs)(a:Below w.1.size w w'):OwnN w' B v zs:=by
 refine World.ownsRow.kept h (rL a none) ?_;cases v.ownBlock with
 |none=>exact .inl rfl
 |some g=>exact .inr (by simp)
def OwnN.lt(h:OwnN w B v zs):∀g,v.ownBlock=some g->B<=g∧g<w.1.size:=World.ownsRow.lt h
def OwnN.at_(h:OwnN w B v zs)(l:0<zs.length):
  ∃g a,v= .slice (some ⟨g,0,none⟩) zs.length a∧B<=g∧zs.length<=a∧a<=maxLen∧Shape w g 119 a∧Cells .u64 w g 0 zs:=by
 rcases h.2 with ⟨_,e⟩|⟨g,a,c,rfl,f,d,hn,j,m,k⟩
 ·omega
 ·refine⟨g,a,rfl,f,hn,j,⟨c,d,by omega⟩,?_⟩;refine VC.cells (fun i u b=> ?_);rw[cell_of_row w g (0+i) c _ (0,0) d,bA,<-Array.getElem?_toList];rw[<-k,fC] at b;split at b
  ·exact b
  ·cases b
def OwnN.of(k:Shape w g 119 a)(f:Cells .u64 w g 0 zs)(e:B<=g)(h:zs.length<=a)(j:a<=maxLen):OwnN w B (.slice (some ⟨g,0,none⟩) zs.length a) zs:=by
 obtain⟨c,d,hn⟩:=k;refine⟨by simp,.inr ⟨g,a,c,rfl,e,d,h,j,by omega,?_⟩⟩;refine aq6 fun i=> ?_;rw[az9,fC];by_cases b:i<zs.length
 ·rw[if_pos b];have:=f.vc i (.int .u64 zs[i]) (by simp[aR b]);rw[cell_of_row w g (0+i) c _ (0,0) d,bA,<-Array.getElem?_toList] at this;rw[this];simp[aR b]
 ·rw[if_neg b,fU (by simp;omega)]
def OwnN.natAt(h:OwnN w B v (dg n)):NatAt w v n:=by
 rcases iB (nl n) with b|b
 ·have e:=p9 b;subst e;rcases h.2 with ⟨rfl,_⟩|⟨g,a,k,rfl,d,i,hn,_⟩
  ·exact NatAt.nil _
  ·refine⟨_,a,rfl,hn,by rw[sR];exact Rd.nil,Old.mk (Array.getElem?_eq_some_iff.1 i).1⟩
 ·obtain⟨g,a,rfl,d,j,l,c,f⟩:=h.at_ (by rw[aK];exact b);exact⟨_,a,rfl,j,Rd.mk c.lt f,Old.mk c.lt⟩
def OwnN.base(h:OwnN w B v zs)(e:b<=B):OwnN w b v zs:=by
 refine⟨h.1,?_⟩;rcases h.2 with a|⟨g,c,d,hv,f,a⟩
 ·exact .inl a
 ·exact .inr ⟨g,c,d,hv,aH e f,a⟩
def FH(w:World)(zs:List Int)(e:Ending)(w':World):Prop:=∃v,e= .returned v∧OwnN w' w.1.size v zs∧Below w.1.size w w'
def OP(A:Option Addr)(zs:List Int)(c:Nat)(w:World)(b:Rd .u64 w A zs)(m:zs.length*8<=140737488355328):
  Calls prog 119 #[.slice A zs.length c] w (FH w zs):=by
 cases A with
 |none=>
  have d:zs=[]:=by
   rcases b with h|⟨_,_,h,_⟩
   ·exact h
   ·cases h
  subst d;have i:∀w:World,(binOp .eql 58 (.slice none 0 c) (.slice none 0 0)).run prog w= .ok (.bool true) w:=fun w=>Lib.run_eql_slice_nil w _ 119 none 0 c 0 0 underlying58;go_enter func119,ntmps119;go_wp2;go_ret;exact⟨_,rfl,OwnN.nil _ _,aG _ _⟩
 |some a=>
  have i:∀w:World,(binOp .eql 58 (.slice (some a) zs.length c) (.slice none 0 0)).run prog w= .ok (.bool false) w:=fun w=>Lib.run_eql_slice_nil w _ 119 (some a) zs.length c 0 0 underlying58;go_enter func119,ntmps119;have j:Src (w.alloc (.cells #[] 119)) (some a) (zs.map (Value.int .u64)):=(b.be ((aG _ _).alloc aE _)).src;have g:=AT w 119 1;go_wp2_with (at_builtin;refine gM rfl rfl 119 _ 1 8 underlying58 gZ rfl (by decide) w.1.size (.slice (some ⟨w.1.size,0,none⟩) 0 0) 0 [] rfl g (zs.map (Value.int .u64)) rfl (by simp) j (ints_oneCell _ _) (by omega) (by omega) (by simp) ?_;intro k n f e l);go_ret;refine⟨k,rfl,by simpa [OwnN] using f,?_⟩;exact((aG w.1.size w).alloc aE _).grown e (by simp) (by simp[Value.ownBlock])
def qH(n:Nat)(v:Value)(w:World)(hv:NatAt w v n)(a:nl n<=aJ):
  Calls prog 119 #[v] w (FH w (dg n)):=by
 unfold aJ at a;obtain⟨A,c,rfl,d,b,_⟩:=hv;exact OP A (dg n) c w b (by rw[aK];omega)
def vR(w:World)(K G:Nat)(c d:Value)(a b:Nat)(wr:World):Prop:=OwnN wr w.1.size c (dg a)∧OwnN wr w.1.size d (dg b)∧(∀g,c.ownBlock=some g->d.ownBlock≠some g)∧b<=a∧nl a<=K∧
 Hid (Nat.gcd a b=G)∧Below w.1.size w wr
def FI{u0 u1 i c d:Nat}{e:Bool}(h:Leh a b u0 u1 g i e c d):c<BN^nl a∧d<BN^nl a∧c+d<=a∧c<=b∧d<=c∧Nat.gcd c d=Nat.gcd a b∧
  (c:Int)=gD e*((g:Int)*b-u0*a)∧(d:Int)=gD e*((u1:Int)*a-i*b):=by
 have f:=h.small;have j:=cyD a;exact⟨by omega,by omega,f.1,f.2,h.hle,h.gcd.symm,h.hna,h.hnb⟩
def FJ(x y K:Nat)(vx vy:Value)(w:World)(hG:Glob w)(M:NatAt w vx x)(N:NatAt w vy y)(bx:nl x<=K)(bY:nl y<=K)(hK:5*K+4<=aJ):
  Calls prog 74 #[vx,vy] w (jK w [vx,vy] (Nat.gcd x y)):=by
 unfold aJ at hK;have ap:=hO x y vx vy w M N (by omega) (by omega);rcases dE x y with a2|ah
 focus (
  have aq:bZ x y<0:=by
   rcases kJ x y with h|h|h<;>omega
  have ah:x<=y:=by omega
  generalize bZ x y=cc at *;go_enter func74,ntmps74;go_wp2_with fail;refine ap.mono ?_;rintro e w0 ⟨rfl,c⟩;have Q:=M.be c;have R:=N.be c;by_cases O:x=0
  focus (
   subst O;obtain⟨B,d,rfl,hd,ak,aj⟩:=id M;have q0:((nl 0:Int)==0)=true:=by rw[dO];rfl
   go_wp2;go_ret;exact⟨_,rfl,by rw[Nat.gcd_zero_left];exact R,From.mem (by simp),c⟩)
  have L:=gS O;obtain⟨B,d,rfl,hd,ak,aj⟩:=id M;have q0:((nl x:Int)==0)=false:=by simp;omega
  go_wp2_with fail;refine(qH y _ _ R (by unfold aJ;omega)).mono ?_;rintro e w1 ⟨va,rfl,f,m⟩;go_wp2_with fail;refine(qH x _ _ (Q.be m) (by unfold aJ;omega)).mono ?_;rintro e w2 ⟨vb,rfl,l,H⟩;have ad:=c.trans ((aC m H).mono c.size);have V:Hid (Nat.gcd y x=Nat.gcd x y):=azD _ _;have A:vR w K (Nat.gcd x y) va vb y x w2:=by
   refine⟨(f.be H).base c.size,l.base (aH c.size m.size),?_,ah,bY,V,ad⟩;intro g t u;have:=(f.lt g t).2;have:=(l.lt g u).1;omega
  have a6:=aB hG;clear f l M N Q R c m H ad hd ak aj O L ah ap hG V;generalize aw:Nat.gcd x y=G at *;clear aw;generalize [Value.slice B (nl x) d,vy]=Fz at *;go_wp2_with fail;have W:=A;clear A;obtain⟨X,Y,A⟩:∃X Y,vR w K G va vb X Y w2:=⟨y,x,W⟩;clear W)
 rotate_left
 focus (
  have aq:¬bZ x y<0:=by
   rcases kJ x y with h|h|h<;>omega
  generalize bZ x y=cc at *;go_enter func74,ntmps74;go_wp2_with fail;refine ap.mono ?_;rintro e w0 ⟨rfl,c⟩;have Q:=M.be c;have R:=N.be c;by_cases O:y=0
  focus (
   subst O;obtain⟨B,d,rfl,hd,ak,aj⟩:=id N;have q0:((nl 0:Int)==0)=true:=by rw[dO];rfl
   go_wp2;go_ret;exact⟨_,rfl,by rw[bxN];exact Q,From.mem (by simp),c⟩)
  have L:=gS O;obtain⟨B,d,rfl,hd,ak,aj⟩:=id N;have q0:((nl y:Int)==0)=false:=by simp;omega
  go_wp2_with fail;refine(qH x _ _ Q (by unfold aJ;omega)).mono ?_;rintro e w1 ⟨va,rfl,f,m⟩;go_wp2_with fail;refine(qH y _ _ (R.be m) (by unfold aJ;omega)).mono ?_;rintro e w2 ⟨vb,rfl,l,H⟩;have ad:=c.trans ((aC m H).mono c.size);have V:Hid (Nat.gcd x y=Nat.gcd x y):=rfl;have A:vR w K (Nat.gcd x y) va vb x y w2:=by
   refine⟨(f.be H).base c.size,l.base (aH c.size m.size),?_,ah,bx,V,ad⟩;intro g t u;have:=(f.lt g t).2;have:=(l.lt g u).1;omega
  have a6:=aB hG;clear f l M N Q R c m H ad hd ak aj O L ah ap hG V;generalize aw:Nat.gcd x y=G at *;clear aw;generalize [vx,Value.slice B (nl y) d]=Fz at *;go_wp2_with fail;have W:=A;clear A;obtain⟨X,Y,A⟩:∃X Y,vR w K G va vb X Y w2:=⟨x,y,W⟩;clear W)
 all_goals (
  go_loopg [5,6] (X+Y) (fun k p q wr=>∃a b,Hid (a+b=k)∧vR w K G p q a b wr)
  case atStart=>exact⟨X,Y,rfl,A⟩
  case round=>
   obtain⟨a,b,HK,f,l,az,ba,dc,an,o⟩:=hrel;clear A;by_cases m:nl b<=1
   ·by_cases c:b=0
    ·subst c;have bk:=an.out;rw[bxN] at bk;have hN:=f.natAt;have hf:From w Fz u5:=by
      intro g hg a2;have:=(f.lt g hg).1;omega
     subst bk;rcases l.2 with ⟨rfl,_⟩|⟨g,c7,c8,rfl,_⟩
     ·go_wp2;go_ret;exact⟨_,rfl,hN,hf,o⟩
     ·rw[aK,dO];go_wp2;go_ret;exact⟨_,rfl,hN,hf,o⟩
    ·have L:nl b=1:=by have:=gS c;omega
     have af:b<BN:=by have:=cyD b;rw[L,bxG] at this;exact this
     have ac:NatAt wr.drew u5 a:=f.natAt;obtain⟨C,cb,rfl,cn,bh,cr,al,bi⟩:=l.at_ (by rw[aK];omega);have g0:=bi 0 (by rw[aK];omega);rw[pC c af] at g0;simp only[bA,byM] at g0;have a1:C<wr.drew.1.size:=al.lt;rw[aK,L] at *;obtain⟨r,HR⟩:∃r,Hid (a%b=r):=⟨_,rfl⟩;have hr:Hid (Nat.gcd b r=G):=by unfold Hid;rw[<-an.out,<-HR.out,azD b,<-Nat.gcd_rec,azD]
     have ce:Glob wr.drew:=a6.out.be (o.drew);have cw:r<BN:=by rw[<-HR.out];exact by8 (dI _ (by omega)) af
     have cd:Nat.gcd b r<BN:=jI (Nat.gcd_le_left _ (by omega)) af;clear bi f l al L az;go_wp2_with fail
     go_region_held3 (fun w'=>w'.cell? ⟨C,0,none⟩=some (.int .u64 b)) (first|go_keep|(exact(bb.cell (p:=⟨C,0,none⟩) (aZ a1 J.size)).trans ((J.cell (p:=⟨C,0,none⟩) a1).trans g0))|(exact(J.cell (p:=⟨C,0,none⟩) a1).trans g0)) (first
      |(go_at_call 125;refine(GL a b u5 _ ac (by omega) af (by unfold aJ;omega)).mono ?_;rintro e' wm ⟨he,J⟩;rw[HR.out] at he;subst he)
      |(go_at_call 124;refine(FK b r af cw _ (ce.be J)).mono ?_;rintro e' w' ⟨rfl,rfl⟩)
      |(go_at_call 91;refine(sX _ cd _).mono ?_;rintro e' wf ⟨vf,rfl,cz,cm,bb⟩))
     go_wp2;go_ret;exact⟨_,rfl,by rw[<-hr.out];exact cz,cm.wk (aH o.size J.size),o.trans ((Below.trans (Below.trans (eN (aG _ _) 1) J) (bb.mono J.size)).mono o.size)⟩
   ·have h2:2<=nl b:=by omega
    have df:=cK ba;have c:b≠0:=by intro h;subst h;rw[dO] at h2;omega
    have ac:=f.natAt;have ax:=l.natAt;obtain⟨C,cb,rfl,cn,bh,cr,al,da⟩:=l.at_ (by rw[aK];omega);obtain⟨s,Z,rfl,bm,bg,cq,di,c9⟩:=f.at_ (by rw[aK];omega);have dh:s≠C:=fun h=>az s rfl (by rw[h];rfl);simp only[aK] at bh bg l f ac ax az⊢;go_wp2_with fail;refine(GF a b _ _ _ ac ax ba h2 (by unfold aJ;omega)).mono ?_;rintro e w3 ⟨u0,u1,U,v1,am,rfl,b7,b8,b9,ca,bo,ae⟩;have au:=aB bo;clear bo m;by_cases bv:U=0
    ·subst bv;clear au;have n:=ae.alloc ae.size (.cells #[.int .u64 u0,.int .u64 u1,.int .u64 0,.int .u64 v1,.bool am] 158);go_wp2_with fail;refine(D1 a b _ _ _ (ac.be n) (ax.be n) c (by unfold aJ;omega)).mono ?_;rintro e w5 ⟨vq,vr,rfl,hq,hr,fq,fr,ao⟩;have nr:nl (a%b)<=nl b:=cK (iE (dI _ (by omega)));go_wp2_with fail;refine(qH (a%b) _ _ hr (by unfold aJ;omega)).mono ?_;rintro e w6 ⟨vc,rfl,bw,ci⟩;have ch:=aC ao ci;have bf:=aC n ch;have a2:b+a%b<a+b:=by have:=dI a (show 0<b by omega);omega
     go_wp2;go_roundg (b+a%b)
     case measure=>have:=HK.out;omega
     case rel=>
      refine⟨b,a%b,rfl,l.be bf,bw.base (aH o.size (aH n.size ao.size)),?_,iE (dI _ (by omega)),by omega,?_,aC o bf⟩
      ·intro g t u;have S:g=C:=by simpa [Value.ownBlock] using t.symm
       have T:=(bw.lt g u).1;have k3:=al.lt;have k4:=n.size;have k5:=ao.size;omega
      ·unfold Hid;rw[<-an.out,azD b,<-Nat.gcd_rec,azD]
    ·obtain⟨D,P,hL⟩:=au.out.resolve_left bv;have E:=aB (FI hL);clear hL au;have q0:((U:Int)==0)=false:=by simp;omega
     go_wp2_with fail;have n:=ae.alloc ae.size (.cells #[.int .u64 u0,.int .u64 u1,.int .u64 U,.int .u64 v1,.bool am] 158);have bc:=Blk.new w3 [.int .u64 u0,.int .u64 u1,.int .u64 U,.int .u64 v1,.bool am] 158;have dm:=ae.size;go_loopg [6] (nl a-nl b) (fun k q wi=>∃j,Hid (nl b+j+k=nl a)∧OwnN wi w.1.size q (dg b++List.replicate j 0)∧q.ownBlock≠some s∧q.ownBlock≠some w3.1.size∧OwnN wi w.1.size (.slice (some ⟨s,0,none⟩) (nl a) Z) (dg a)∧Blk wi w3.1.size [.int .u64 u0,.int .u64 u1,.int .u64 U,.int .u64 v1,.bool am]∧Below w.1.size w wi)
     case atStart=>
      refine⟨0,by unfold Hid;omega,?_,?_,?_,f.be n,bc,aC o n⟩
      ·simpa using l.be n
      ·simp[Value.ownBlock];omega
      ·have:=al.lt;simp[Value.ownBlock];omega
     case round=>
      obtain⟨j,HJ,hq,a3,bq,a5,I,ag⟩:=hrel;clear n bc;obtain⟨z,F,rfl,bn,ay,cs,bu,cl⟩:=hq.at_ (by rw[dA,aK];omega);have ar:(dg b++List.replicate j (0:Int)).length=nl b+j:=by rw[dA,aK,dB]
      rw[ar] at ay;simp only[ar];have av:=aB ar;clear ar;cases gk with
      |zero=>
       have ai:nl b+j=nl a:=by have:=HJ.out;omega
       obtain⟨g',c',e', -, -, -,bt,ck⟩:=a5.at_ (by rw[aK];omega);simp only[Value.slice.injEq,Option.some.injEq,Addr.mk.injEq] at e';obtain⟨⟨t, -, -⟩, -,u⟩:=e';subst t u;rw[ai] at ay;simp only[ai];have b4:Hid ((dg b++List.replicate j (0:Int)).length=nl a):=by unfold Hid;rw[av.out,ai]
       clear ai av HJ;have cv:s≠z:=fun h=>a3 (by rw[h];rfl);have bz:aF aA (dg b++List.replicate j (0:Int))=b:=by rw[kV,mL,cU];simp
       have cp:InR aA (dg b++List.replicate j (0:Int)):=(cI b).append (InR.replicate aQ _);have a7:=aB bz;clear bz;generalize dg b++List.replicate j (0:Int)=ys at *;have c0:=I.cell (i:=0) rfl;have c1:=I.cell (i:=1) rfl;have c2:=I.cell (i:=2) rfl;have c3:=I.cell (i:=3) rfl;have c4:=I.cell (i:=4) rfl;go_wp2_with fail;refine(GG w.1.size s z (dg a) ys Z F (nl a) u0 u1 U v1 am D P wr (aK a) b4.out ck cl bt.soft bu.soft cv (by omega) (cI a) cp b7 b8 b9 ca (by rw[a7.out,cU];exact E.out.2.2.2.2.2.2.1) (by rw[a7.out,cU];exact E.out.2.2.2.2.2.2.2) (by rw[<-iX];exact Int.ofNat_lt.2 E.out.1) (by rw[<-iX];exact Int.ofNat_lt.2 E.out.2.1) ag.size bm bn).mono ?_;rintro e w7 ⟨rfl,zs,ws,b3,b2,c6,c5,b1,b0,aq,bj,dk,dj,cj,a4⟩;have br:=a4 _ _ _ bt;have bs:=a4 _ _ _ bu;have a9:=aB b3;have a8:=aB b2;have b6:=aB b1;have b5:=aB b0
       clear b3 b2 b1 b0 a4 c0 c1 c2 c3 c4;go_wp2_with fail;refine(gC _ zs (nl a) Z _ a9.out (Rd.mk br.lt aq) bg (by omega)).mono ?_;rintro e w8 ⟨rfl,rfl⟩;go_wp2_with fail;refine(gC _ ws (nl a) F _ a8.out (Rd.mk bs.lt bj) ay (by omega)).mono ?_;rintro e w8 ⟨rfl,rfl⟩;have S:=oE c6 b6.out;have T:=oE c5 b5.out;have t1:=(qI zs).1;have t2:=(qI ws).1;have r1:Cells .u64 w7 s 0 (dg D):=by rw[<-S,t1];exact aq.take _
       have r2:Cells .u64 w7 z 0 (dg P):=by rw[<-T,t2];exact bj.take _
       have l1:(dg D).length<=Z:=by rw[<-S];have:=oF zs;have:=a9.out;omega
       have l2:(dg P).length<=F:=by rw[<-T];have:=oF ws;have:=a8.out;omega
       have o1:OwnN w7 w.1.size (.slice (some ⟨s,0,none⟩) (trimL zs).length Z) (dg D):=by rw[S];exact OwnN.of br r1 bm l1 cq
       have o2:OwnN w7 w.1.size (.slice (some ⟨z,0,none⟩) (trimL ws).length F) (dg P):=by rw[T];exact OwnN.of bs r2 bn l2 cs
       clear S T t1 t2 r1 r2 l1 l2;have hF:=E.out;have db:D+P<a+b:=by omega
       have de:nl D<=nl a:=cK (by omega);clear hF;go_wp2;go_roundg (D+P)
       case measure=>have:=HK.out;omega
       case rel=>
        refine⟨D,P,rfl,o1,o2,?_,E.out.2.2.2.2.1,by omega,?_,ag.trans cj⟩
        ·intro g t u;have S:s=g:=by simpa [Value.ownBlock] using t
         have T:z=g:=by simpa [Value.ownBlock] using u
         omega
        ·unfold Hid;rw[E.out.2.2.2.2.2.1];exact an.out
      |succ k=>
       have ai:nl b+j<nl a:=by have:=HJ.out;omega
       have a2:((nl b:Int)+j)<nl a:=by omega
       have cu:wr.ownsRow w.1.size 119 1 (.slice (some ⟨z,0,none⟩) (nl b+j) F) (nl b+j) ((dg b++List.replicate j (0:Int)).map (Value.int .u64)):=by
        have:=hq;unfold OwnN at this;rw[av.out] at this;exact this
       have co:=(a5.lt s rfl).2;have cx:=I.soft.lt;have dl:=ag.size;have cy:Src (wr.alloc (.cells #[.int .u64 0] 119)) (some ⟨wr.1.size,0,none⟩) [Value.int .u64 0]:=by
        refine .inr ⟨_,_,rfl,fun i v hv=> ?_⟩;match i,hv with
        |0,hv=>simp at hv;subst hv;simp[go_sem]
       go_wp2_with (at_builtin;refine gM rfl rfl 119 _ 1 8 underlying58 gZ rfl (by decide) w.1.size (.slice (some ⟨z,0,none⟩) (nl b+j) F) (nl b+j) _ rfl (cu.alloc _) [Value.int .u64 0] rfl (by simp) cy (by simp[Value.oneCell']) (by omega) (by omega) (by simp;omega) ?_;intro q1 w1 ct a0 cg);go_wp2;go_roundg k
       case measure=>omega
       case rel=>
        have bp:∀g,g<wr.1.size->(Value.slice (some ⟨z,0,none⟩) (nl b+j) F).ownBlock≠some g->q1.ownBlock≠some g:=by
         intro g hg hn e;rcases cg with h|h
         ·rw[h] at e;exact hn e
         ·rw[h] at e;simp at e;omega
        refine⟨j+1,?_,?_,bp _ co a3,bp _ cx bq,?_,?_,?_⟩
        ·have:=HJ.out;unfold Hid;omega
        ·unfold OwnN;have e:(dg b++List.replicate (j+1) (0:Int)).map (Value.int .u64)=(dg b++List.replicate j (0:Int)).map (Value.int .u64)++[Value.int .u64 0]:=by
          rw[aqW,<-eK,aq7];rfl
         rw[e,dA,aK,dB,<-bxE];exact ct
        ·exact World.ownsRow.kept (World.ownsRow.alloc a5 _) a0 (.inr (fun h=>a3 h.symm))
        ·exact(I.alloc _).ke (a0.block _ (by simp;omega) (fun h=>bq h.symm))
        ·exact(ag.alloc ag.size _).grown a0 (by simp;omega) (fun g hg=>by
          have:z=g:=by simpa [Value.ownBlock] using hg
          omega))
