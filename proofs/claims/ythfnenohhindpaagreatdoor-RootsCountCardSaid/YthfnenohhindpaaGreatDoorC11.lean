/-
  Contracts, laws: MulB, MulC, ShiftP, ShiftA, ShiftB, DivP.
-/
import Derived.Test.YthfnenohhindpaaGreatDoorC10
import Derived.Deep.RegionWith
import Derived.Deep.RegionHeld3
import Derived.Deep.DeepCutAuto
set_option linter.all false
set_option maxHeartbeats 8000000
set_option maxRecDepth 100000
namespace Go.Proofs.YthfnenohhindpaaGreatDoor
open Go.RowKit Sos
def aI:Nat:=17592186044416
def MulOK (N:Nat):Prop:=∀(x y:Nat) (a b:Value) (w:World),nl x+nl y<N->nl x+nl y<=aI->NatAt w a x->NatAt w b y->Calls Tryz.prog 168 #[a,b] w (gS w [a,b] (x*y))
theorem LR (x s e:Nat) (h:s<=e):x%BN^e=x%BN^s+BN^s*(x/BN^s%BN^(e-s)):=by
 have a:BN^e=BN^s*BN^(e-s):=by rw[<-Nat.pow_add];congr 1;omega
 rw[a,Nat.mod_mul]
theorem Only.join {g k n:Nat} {b a:World} {zs ts:List Int} (f:Only g k (n-k) b a) (c:Cells .u64 b g 0 zs) (l:zs.length=n) (j:k<=n) (h:Cells .u64 a g k ts):
  Cells .u64 a g 0 (zs.take k++ts):=by
 have e:(zs.take k).length=k:=by rw[aZ];omega
 refine Cells.append (fun i d=> ?_) (by rw[e,aS];exact h);rw[f.rest (0+i) (.inl (by omega))];exact c.take k i d
theorem LT (x y k e:Nat) (b:e=k+nl y∨e=nl x) (a:e<=k+nl y):x%BN^(k+nl y)=x%BN^e:=by
 rcases b with rfl|rfl
 ·rfl
 ·rw[Nat.mod_eq_of_lt (cJ x),Nat.mod_eq_of_lt (aU (cJ x) (cE (by decide) a))]
theorem LU (x y:Nat) (v C:Value) (w:World) (hx:NatAt w v x) (hy:NatAt w C y) (h0:0<nl y) (am:nl x+nl y<=aI) (bh:nl y<=nl x) (ih:MulOK (2*nl y+1)):
  Calls Tryz.prog 196 #[v,C] w (gS w [v,C] (x*y)):=by
 unfold aI at am;obtain⟨A,c,rfl,hc,av,bc⟩:=hx;obtain⟨B,d,rfl,hd,aw,I⟩:=hy;obtain⟨p,u,rfl,r,ah⟩:=av.at_ (by rw[aJ];omega);obtain⟨n,a9,ba,U⟩:∃n,nl x+nl y<=n∧n<=nl x+nl y∧Hid (nl x+nl y=n):=⟨_,aE,aE,rfl⟩;go_enter Tryz.func196,Tryz.ntmps196;go_wp2_with (at_make;refine iE rfl rfl .u64 181 8 Tryz.underlying57 fO (n) rfl rfl (by omega) (by omega) (by omega) (by omega) ?_;intro w1 az ax ad ab)
 go_loopw [6] (fun i wr=>∃(k:Nat) (a:List Int),k<=n∧i= .int .i64 k∧Hid (a.length=n)∧InR aA a∧Hid (aF aA a=((x%BN^k*y:Nat):Int))∧Cells .u64 wr w.heap.size 0 a∧
   Soft wr w.heap.size∧Below w.heap.size w wr∧w.heap.size<wr.heap.size) (fun i _=>n-(intOf i).toNat)
 case atStart=>exact⟨0,_,Nat.zero_le _,rfl,by simp[Hid],InR.replicate aP _,by simp[Hid,jN,Nat.mod_one],ad,ax,ab,az⟩
 case round=>
  obtain⟨k,a,hk,rfl,h,l,O,m,ay,f,b⟩:=hrel;by_cases a6:k<nl x
  ·obtain⟨e,a3,a4,ai,aj,a7⟩:∃e:Nat,k<e∧e<=nl x∧e<=k+nl y∧Hid (e=k+nl y∨e=nl x)∧min ((k:Int)+nl y) (nl x)=(e:Int):=by
    by_cases a5:k+nl y<=nl x
    ·exact⟨k+nl y,by omega,by omega,by omega,.inl rfl,by omega⟩
    ·exact⟨nl x,by omega,by omega,by omega,.inr rfl,by omega⟩
   have F:(((dg x).drop k).take (e-k)).length=e-k:=by rw[aZ,List.length_drop,aJ];omega
   have K:Rd .u64 wr.drew (some ⟨p,u+k,none⟩) (((dg x).drop k).take (e-k)):=Rd.mk (aU r f.size) (((ah.below f r).drop k).take (e-k));have al:InR aA (((dg x).drop k).take (e-k)):=((bV x).drop k).take (e-k)
   have ao:NatAt wr.drew (.slice (some ⟨p,u+k,none⟩) (trimL (((dg x).drop k).take (e-k))).length (c-k)) (x/BN^k%BN^(e-k)):=
    NatAt.trim K al (by rw[oR,nN]) (by omega) (Old.mk (aU r f.size))
   have aq:(Value.slice (some ⟨p,u+k,none⟩) (trimL (((dg x).drop k).take (e-k))).length (c-k)).ownBlock≠some w.heap.size:=by simp[Value.ownBlock];omega
   have af:Cells .u64 wr.drew w.heap.size k (a.drop k):=by have:=m.drop k;rwa [aS] at this
   have L:Soft wr.drew w.heap.size:=ay;have G:Below w.heap.size w wr.drew:=f.drew;have ag:Cells .u64 wr.drew w.heap.size 0 a:=m;have ap:NatAt wr.drew (.slice B (nl y) d) y:=⟨B,d,rfl,hd,Rd.drew (aw.below f),I.mono f.size⟩;have bf:=nO (x/BN^k) (e-k);have s:=LR x k e (by omega);generalize J:x/BN^k%BN^(e-k)=q at *;generalize N:((dg x).drop k).take (e-k)=us at *;have a8:=dJ q y;have T:=aB F;have a1:=aB s;have HQ:=aB J;have HU:=aB N;have P:(a.drop k).length=n-k:=by rw[List.length_drop,h.out]
   have Y:=aB P;have t:aF aA a+aA^k*((q*y:Nat):Int)=((x%BN^e*y:Nat):Int):=by
    rw[O.out,s,Nat.add_mul,Nat.mul_assoc];simp only[Int.natCast_add,Int.natCast_mul,Int.natCast_pow];rw[show((BN:Nat):Int)=aA from rfl]
   have j:((x%BN^e*y:Nat):Int)<aA^(n):=by
    rw[<-U.out,<-gK,Nat.pow_add];have E:x%BN^e<=x:=Nat.mod_le _ _;have h2:=Nat.mul_lt_mul'' (Nat.lt_of_le_of_lt E (cJ x)) (cJ y);omega
   have H:=CD (z:=0) a l (by have:=h.out;omega) h.out t j;have X:=aB t;have S:=aB H;have an:nl (q*y)<=n-k:=by
    refine bW ?_;have h0:=eQ aP (l.drop k);have:((q*y:Nat):Int)<((BN^(n-k):Nat):Int):=by rw[gK];omega
    omega
   clear F s J N P t j H;have ar:(Value.slice B (nl y) d).ownBlock≠some w.heap.size:=I.ne aE;have i1:(0:Int)<=(k:Int):=by omega
   have i2:(k:Int)<=((n:Nat):Int):=by omega
   have i3:(k:Int)<=(e:Int):=by omega
   have i4:(e:Int)<=(c:Int):=by omega
   have i5:¬n=k:=by omega
   have i7:k<=n:=by omega
   have i8:e<=c:=by omega
   have i9:k<=e:=by omega
   have i6:¬c=k:=by omega
   go_wp2
   go_region_held3 (fun _=>True) (trivial) (first
    |(go_at_call 172;refine(eM _ us (e-k) (c-k) _ T.out K (by omega) (by omega)).mono ?_;rintro D w' ⟨rfl,rfl⟩)
    |(go_at_call 168;refine(ih q y _ _ _ (by omega) (by unfold aI;omega) ao ap).mono ?_;rintro D Q ⟨v2,rfl,⟨R,Z,rfl,a2,au,bb⟩,ak,g⟩)
    |(go_at_call 197;refine(sM w.heap.size k (n-k) (a.drop k) (n-k) R (nl (q*y)) (dg (q*y)) Z Q Y.out rfl (af.below g b) (L.below g b) aE (by omega) au (vW (ak.ne2 b aq ar)) an (l.drop k) (bV _) (by rw[cB];exact S.out)).mono ?_;rintro D w3 ⟨rfl,ts,j,ht,M,ae,o⟩))
   have V:=aB j;have W:=aB M;clear j M;have ac:Below w.heap.size w Q:=aC G g;go_wp2;go_roundw
   case rel=>
    have a0:=h.out;have bg:=V.out;refine⟨k+nl y,a.take k++ts,by omega,by go_num,?_,(l.take k).append ht,?_,o.join (ag.below g b) a0 (by omega) ae,o.soft (L.below g b),o.belowOf ac aE,?_⟩
    ·unfold Hid;rw[aY,aZ];omega
    ·unfold Hid;rw[LT x y k e aj.out ai,<-X.out,iP,aZ,Nat.min_eq_left (by omega),W.out,cB,j6 aA a k (by omega),Int.mul_add,Int.add_assoc]
    ·have E:=o.grown.size;have h2:=g.size;have h3:w.heap.size<wr.drew.heap.size:=b;omega
   case measure=>simp[intOf];omega
  ·go_wp2_with fail;refine(eM _ a (n) (n) wr h.out (Rd.mk b m) aE (by omega)).mono ?_;rintro e w4 ⟨rfl,rfl⟩;go_wp2;go_ret;refine⟨_,rfl,NatAt.trim (Rd.mk b m) l ?_ (by rw[h.out];exact aE) (Old.mk b),From.new aE,f⟩;rw[O.out,Nat.mod_eq_of_lt];exact aU (cJ x) (cE (by decide) (by omega))
theorem MulOK.mono {M N:Nat} (h:MulOK N) (g:M<=N):MulOK M:=fun x y d e w f a b c=>h x y d e w (by omega) a b c
theorem LP (N:Nat) (ih:MulOK N):MulOK (N+1):=by
 intro x y vx vy w hN cg hx hy;unfold aI at cg;obtain⟨A,c,rfl,hc,a8,a5⟩:=hx;obtain⟨B,d,rfl,O,a9,a6⟩:=hy;go_enter Tryz.func168,Tryz.ntmps168;go_upto_if 21 with (fail)
 go_cut [0,1] (fun a b wx=>w=wx∧∃(p s:Nat) (A' B':Option Addr) (C F:Nat),a= .slice A' (nl p) C∧b= .slice B' (nl s) F∧nl s<=nl p∧nl p+nl s<N+1∧nl p+nl s<=17592186044416∧Hid (p*s=x*y)∧
  NatAt w (.slice A' (nl p) C) p∧NatAt w (.slice B' (nl s) F) s∧(∀v,From w [.slice A' (nl p) C,.slice B' (nl s) F] v->From w [.slice A (nl x) c,.slice B (nl y) d] v))
 case first=>
  by_cases ag:nl x<nl y
  ·go_wp2;go_meet
   case rel=>exact⟨rfl,y,x,B,A,d,c,rfl,rfl,by omega,by omega,by omega,dD _ _,⟨B,d,rfl,O,a9,a6⟩,⟨A,c,rfl,hc,a8,a5⟩,fun v h=>h.swap⟩
  ·go_wp2;go_meet
   case rel=>exact⟨rfl,x,y,A,B,c,d,rfl,rfl,by omega,by omega,by omega,rfl,⟨A,c,rfl,hc,a8,a5⟩,⟨B,d,rfl,O,a9,a6⟩,fun v h=>h⟩
 case rest=>
  obtain⟨rfl,p,s,A',B',C,F,rfl,rfl,d7,eo,ep,X,hp,hs,ca⟩:=hcut;obtain⟨_,_,I,b0,aj,ah⟩:=hp;injection I with I _ e3;subst I e3;obtain⟨_,_,I,dn,a7,cl⟩:=hs;injection I with I _ e3;subst I e3;have bm:=aB ca;clear ca;clear a8 a9 a5 a6 hc O hN cg;rcases Nat.eq_zero_or_pos (nl s) with T|T
  ·have hq:((nl s:Int)==0)=true:=by simp;omega
   have H0:=aB (mQ T);clear T;go_wp2;go_ret;refine⟨_,rfl,?_,From.none,aH _ _⟩;rw[<-X.out,H0.out,Nat.mul_zero];exact NatAt.nil _
  ·have hq:((nl s:Int)==0)=false:=by simp;omega
   obtain⟨bs,os,rfl,aq,ax⟩:=a7.at_ (by rw[aJ];omega);obtain⟨bp,op,rfl,ae,b5⟩:=aj.at_ (by rw[aJ];omega);have af:=ax 0 (by rw[aJ];omega);rw[Nat.add_zero] at af;by_cases L:nl s=1∧(dg s).getD 0 0=1
   ·have Q:((nl s:Int)==1)=true:=by simp;omega
    have H1:Hid (s=1):=by
     have e:=cB s;have hl:(dg s).length=1:=L.1;match O:dg s,hl with
     |[a],_=>
      rw[O,sK] at e;have:a=1:=by have:=L.2;rw[O] at this;exact this
      unfold Hid;omega
    rw[L.2] at af;clear L;go_wp2;go_ret;refine⟨_,rfl,?_,bm.out _ (From.mem (by simp)),aH _ _⟩;rw[<-X.out,H1.out,Nat.mul_one];exact⟨_,_,rfl,b0,aj,ah⟩
   ·generalize br:(dg s).getD 0 0=a0 at *;have HA:=aB br;clear br;have Q:((nl s:Int)==1)=false∨((nl s:Int)==1)=true∧(a0==1)=false:=by
     by_cases e:nl s=1
     ·right;simp[e];intro h;exact L ⟨e,h⟩
     ·left;simp;omega
    clear L;have er:nl p≠0:=by omega
    by_cases ee:nl s<40
    ·go_upto_region 6 with (fail);go_cut [32] (fun t wx=>t= .bool false∧w=wx)
     case first=>
      rcases Q with Q|⟨Q,d3⟩
      ·go_wp2;go_meet
       case rel=>exact⟨rfl,rfl⟩
      ·go_wp2;go_meet
       case rel=>exact⟨rfl,rfl⟩
     case rest=>
      obtain⟨rfl,rfl⟩:=hcut;clear Q af;obtain⟨n,d0,d1,bo⟩:∃n,nl p+nl s<=n∧n<=nl p+nl s∧Hid (nl p+nl s=n):=⟨_,aE,aE,rfl⟩;go_wp2_with (at_make;refine iE rfl rfl .u64 181 8 Tryz.underlying57 fO n rfl rfl (by omega) (by omega) (by omega) (by omega) ?_;intro H d9 d5 ar D)
      go_loopw [55] (fun i wr=>∃(k:Nat) (zs:List Int),k<=nl s∧i= .int .i64 k∧Hid (zs.length=n)∧InR aA zs∧Hid (aF aA zs=p*aF aA ((dg s).take k))∧Hid (∀j,k+nl p<=j->zs.getD j 0=0)∧
        Cells .u64 wr w.heap.size 0 zs∧Soft wr w.heap.size∧Below w.heap.size w wr∧w.heap.size<wr.heap.size) (fun i _=>nl s-(intOf i).toNat)
      case atStart=>exact⟨0,_,Nat.zero_le _,rfl,by simp[Hid],InR.replicate aP _,by simp[Hid,jN],fun j _=>by simp[List.getElem?_replicate];split<;>rfl,ar,d5,D,d9⟩
      case round=>
       obtain⟨k,zs,hk,rfl,al,hz,ab,cy,W,bb,V,ag⟩:=hrel;by_cases em:k<nl s
       ·have eg:=(ax.below V aq) k (by rw[aJ];omega);have E:=(bV s).getD aP k;have cr:=gY aA (dg s) k (by rw[aJ];omega);generalize cw:(dg s).getD k 0=g at *;have ed:=aB cw;have c9:=aB cr;clear cw cr;have bg:=al.out;have cp:((zs.drop k).take (nl p)).length=nl p:=by rw[aZ,List.length_drop];omega
        have dl:Cells .u64 wr w.heap.size k ((zs.drop k).take (nl p)):=by have:=(W.drop k).take (nl p);rwa [aS] at this
        have c6:=aB cp;clear cp;have aw:=W (k+nl p) (by omega);rw[aS] at aw;have HZ:=aB aw;clear bg aw;go_wp2_with fail;refine(CE w.heap.size k ((zs.drop k).take (nl p)) (n-k) (some ⟨bp,op,none⟩) (dg p) C (nl p) g wr c6.out rfl dl bb (by omega) (Rd.mk (aU ae V.size) (b5.below V ae)) (vW (ah.ne (c:=C) aE)) ((hz.drop k).take _) (bV p) E).mono ?_;rintro e J ⟨ts,c2,rfl,dj,dk,ak,ht,Z,au,G⟩;have c8:=aB ak;have da:=aB Z;clear ak Z;have eh:J.cell? ⟨w.heap.size,k+nl p,none⟩=some (.int .u64 (zs.getD (k+nl p) 0)):=(G.rest _ (.inr aE)).trans HZ.out;have ei:=(G.soft bb).free (k+nl p);go_wp2;go_roundw
        case rel=>
         have bg:=al.out;have cq:=c8.out;have cm:=iG (zs:=zs) (ts:=ts) (k:=k) (by omega);have b6:=(G.patch W cq au (by omega)).set (i:=k+nl p) (by omega) c2;rw[aS] at b6;refine⟨k+1,(patch zs ts k).set (k+nl p) c2,by omega,by go_num,?_,(nQ hz ht k).set dj dk _,?_,?_,b6,(G.soft bb).set _ _,?_,?_⟩
         ·unfold Hid;rw[List.length_set];omega
         ·unfold Hid;have h9:=da.out;rw[cB] at h9;rw[LC bg (by omega) cq h9 (cy.out _ aE),ab.out,c9.out];grind
         ·intro j hj;rw[kI _ _ _ _ (by omega),wE (by omega) (by omega)];exact cy.out j (by omega)
         ·exact(G.belowOf V aE).setCell aE _
         ·rw[lC];have:=G.grown.size;omega
        case measure=>simp[intOf];omega
       ·obtain rfl:k=nl s:=by omega
        go_wp2_with fail;refine(eM _ zs n n wr al.out (Rd.mk ag W) aE (by omega)).mono ?_;rintro e w4 ⟨rfl,rfl⟩;go_wp2;go_ret;refine⟨_,rfl,NatAt.trim (Rd.mk ag W) hz ?_ (by rw[al.out];exact aE) (Old.mk ag),From.new aE,V⟩;rw[ab.out,cA (by rw[aJ];exact aE),cB,<-X.out,Int.natCast_mul]
    ·have d3:((nl s:Int)==1)=false:=by simp;omega
     clear Q af;obtain⟨f,ej,ek,el⟩:∃f:Nat,nl p<=2*f∧2*f<=nl p+1∧((nl p:Int)+1)/2=(f:Int):=⟨(nl p+1)/2,by omega,by omega,by omega⟩;by_cases en:nl s<=f
     ·go_wp2_with fail;refine(LU p s _ _ w ⟨_,_,rfl,b0,aj,ah⟩ ⟨_,_,rfl,dn,a7,cl⟩ T (by unfold aI;omega) d7 (ih.mono (by omega))).mono ?_;rintro e H ⟨v1,rfl,d8,ay,D⟩;go_wp2;go_ret;exact⟨_,rfl,by rw[<-X.out];exact d8,bm.out _ ay,D⟩
     ·have cd:((dg p).take f).length=f:=by rw[aZ,aJ];omega
      have ce:((dg s).take f).length=f:=by rw[aZ,aJ];omega
      have R:Rd .u64 w (some ⟨bp,op,none⟩) ((dg p).take f):=aj.take f;have S:Rd .u64 w (some ⟨bs,os,none⟩) ((dg s).take f):=a7.take f;have bh:NatAt w (.slice (some ⟨bp,op,none⟩) (trimL ((dg p).take f)).length C) (p%BN^f):=NatAt.trim R ((bV p).take _) (nN p f) (by omega) ah;have bi:NatAt w (.slice (some ⟨bs,os,none⟩) (trimL ((dg s).take f)).length F) (s%BN^f):=NatAt.trim S ((bV s).take _) (nN s f) (by omega) cl
      have cz:NatAt w (.slice (some ⟨bp,op+f,none⟩) (nl p-f) (C-f)) (p/BN^f):=
       ⟨_,_,by rw[iQ],by rw[iQ];omega,by rw[<-oR];exact Rd.mk ae (b5.drop f),Old.mk ae⟩
      have c0:NatAt w (.slice (some ⟨bs,os+f,none⟩) (nl s-f) (F-f)) (s/BN^f):=
       ⟨_,_,by rw[iQ],by rw[iQ];omega,by rw[<-oR];exact Rd.mk aq (ax.drop f),Old.mk aq⟩
      have et:=nO p f;have ev:=nO s f;have eu:nl (p/BN^f)<=nl p-f:=by rw[iQ];exact aE
      have ew:nl (s/BN^f)<=nl s-f:=by rw[iQ];exact aE
      have cc:=LB p s (BN^f) (Nat.pow_pos (by decide));generalize p%BN^f=l at *;generalize p/BN^f=r at *;generalize s%BN^f=g at *;generalize s/BN^f=u at *;have c4:=aB cd;have c5:=aB ce;have HK:=aB cc;clear cd ce cc;generalize (dg p).take f=us at *;generalize (dg s).take f=vs at *;have i1:¬C=f:=by omega
      have i2:¬F=f:=by omega
      have i3:f<=nl p:=by omega
      have i4:f<=nl s:=by omega
      have i5:f<=C:=by omega
      have i6:f<=F:=by omega
      go_wp2;go_quiet ((go_at_call 172;exact sJ (eM _ us f C _ c4.out (R.drewN _) i5 (by omega))));go_wp2;go_quiet ((go_at_call 172;exact BX (eM _ vs f F _ c5.out (S.drewN _) i6 (by omega))));go_wp2_with fail;refine(ih l g _ _ _ (by omega) (by unfold aI;omega) (bh.drewN _) (bi.drewN _)).mono ?_;rintro e H ⟨v1,rfl,⟨A1,c1,rfl,ar,R,d2⟩,ay,bt⟩;have D:Below w.heap.size w H:=(dH (aH _ _) _).trans bt;clear bt ay;have cj:=bh.below D;have a2:=cz.below D;have ck:=bi.below D;have a3:=c0.below D;have ci:NatAt H (.slice A1 (nl (l*g)) c1) (l*g):=⟨_,_,rfl,ar,R,d2⟩;clear bh cz bi c0;go_wp2_with fail;refine(ih r u _ _ _ (by omega) (by unfold aI;omega) a2 a3).mono ?_;rintro e J ⟨v2,rfl,⟨A2,c2,rfl,au,S,G⟩,dp,E⟩;clear dp;have cb:NatAt J (.slice A2 (nl (r*u)) c2) (r*u):=⟨_,_,rfl,au,S,G⟩;go_wp2_with fail;refine(oU l r _ _ _ (cj.below E) (a2.below E) (by omega) (by omega)).mono ?_;rintro e w3 ⟨v3,rfl,cs,dq,M⟩;clear dq;go_wp2_with fail;refine(oU g u _ _ _ ((ck.below E).below M) ((a3.below E).below M) (by omega) (by omega)).mono ?_;rintro e w4 ⟨v4,rfl,ct,dr,ac⟩;clear dr;have ea:=oP l r;have eb:=oP g u;go_wp2_with fail;refine(ih (l+r) (g+u) _ _ _ (by omega) (by unfold aI;omega) (cs.below ac) ct).mono ?_;rintro e w5 ⟨v5,rfl,cu,ds,bw⟩;clear ds;have lm:=dJ (l+r) (g+u);have U:Below J.heap.size J w5:=(aC M ac).trans (bw.mono (aG M.size ac.size));have bv:Below H.heap.size H w5:=aC E U;clear cs ct cj a2 ck a3;go_wp2_with fail;refine(nU ((l+r)*(g+u)) (l*g) _ _ _ cu (ci.below bv) (by omega) HK.out.2.1).mono ?_;rintro e w6 ⟨v6,rfl,cv,dt,ad⟩;clear dt;have ec:=bX (Nat.sub_le ((l+r)*(g+u)) (l*g));go_wp2_with fail;refine(nU ((l+r)*(g+u)-l*g) (r*u) _ _ _ cv ((cb.below U).below ad) (by omega) HK.out.2.2).mono ?_;rintro e q ⟨v7,rfl,⟨A7,c7,rfl,ef,cn,eq⟩,du,bz⟩;clear du;have bx:Below w5.heap.size w5 q:=aC ad bz;have ao:Below J.heap.size J q:=aC U bx;have an:Below H.heap.size H q:=aC E ao;have am:Below w.heap.size w q:=aC D an;have d4:=R.below an;have co:=S.below ao;clear cu cv E M ac bw ad bz U bv bx ao an D R S ci cb ea eb lm ec;have ll:=dJ l g;have lh:=dJ r u;have b8:=HK.out.1;generalize dx:(l+r)*(g+u)-l*g-r*u=m at *;clear dx;generalize l*g=lo at *;generalize r*u=hi at *;have c3:=aB b8;clear b8 HK;obtain⟨n,d0,d1,bo⟩:∃n,nl p+nl s<=n∧n<=nl p+nl s∧Hid (nl p+nl s=n):=⟨_,aE,aE,rfl⟩;have j1:¬n=2*f:=by omega
      have j2:¬n=f:=by omega
      have j3:2*f<=n:=by omega
      have j4:f<=n:=by omega
      go_wp2_with (first
       |(at_make;refine iE rfl rfl .u64 181 8 Tryz.underlying57 fO n rfl rfl (by omega) (by omega) (by omega) (by omega) ?_;intro w8 es ba di ap)
       |(with_reducible refine jM rfl (d:= .tmp 125) (s:= .tmp 126) rfl .u64 181 Tryz.underlying57 j9 rfl rfl q.heap.size 0 (List.replicate n 0) (dg lo) (by simp) rfl (fun _=>rfl) di ba (d4.below ap) ?_;intro w9 av P;generalize cx:cK (List.replicate n 0) (dg lo)=K at av;have bq:=aB cx;clear cx;have b4:Cells .u64 w9 q.heap.size (2*f) (K.drop (2*f)):=(by have:=av.drop (2*f);rwa [aS] at this))
       |(with_reducible refine jM rfl (d:= .tmp 131) (s:= .tmp 132) rfl .u64 181 Tryz.underlying57 j9 rfl rfl q.heap.size (2*f) (K.drop (2*f)) (dg hi) (by rw[<-bq.out,List.length_drop,j5,cN]) rfl (fun _=>rfl) b4 (P.soft ba) (P.rd (co.below ap) (fun b o e h=>(co.lt_of e h))) ?_;intro bj b1 Y))
      have b9:=LD (lo:=lo) (hi:=hi) (h:=f) (n:=n) (by omega) j3 (by omega);rw[bq.out] at b9;obtain⟨f1,f2,f3,f4,f5⟩:=b9;have b7:(K.drop (2*f)).length=n-2*f:=by rw[List.length_drop,f4]
      rw[b7] at Y;rw[cN] at P;have b2:=Y.patch av f1 b1 (by omega);have cm:=iG (zs:=K) (ts:=cK (K.drop (2*f)) (dg hi)) (k:=2*f) (by omega);have ai:=nQ f3 f2 (2*f);generalize patch K (cK (K.drop (2*f)) (dg hi)) (2*f)=zs at *;clear f1 f2 b1 b7 b4;have de:Below q.heap.size q w9:=P.belowOf ap aE;have bu:Below q.heap.size q bj:=Y.belowOf de aE;have d6:=Y.soft (P.soft ba);have bf:aF aA zs+aA^f*(m:Int)=((p*s:Nat):Int):=by
       rw[f5,c3.out];simp only[Int.natCast_add,Int.natCast_mul,Int.natCast_pow];rw[show((BN:Nat):Int)=aA from rfl,show(2*f)=f+f by omega,Int.pow_add];grind
      have ak:((p*s:Nat):Int)<aA^n:=by
       rw[<-bo.out,<-gK,Nat.pow_add];have h2:=Nat.mul_lt_mul'' (cJ p) (cJ s);omega
      have dv:=CD (z:=0) zs ai (by omega) (by omega) bf ak;have dy:nl m<=n-f:=by
       refine bW ?_;have T:=eQ aP (ai.drop f);have:(m:Int)<((BN^(n-f):Nat):Int):=by rw[gK];omega
       omega
      have dm:Cells .u64 bj q.heap.size f (zs.drop f):=by have:=b2.drop f;rwa [aS] at this
      have a1:zs.length=n:=by omega
      refine(sM q.heap.size f (n-f) (zs.drop f) (n-f) A7 (nl m) (dg m) c7 bj (by rw[List.length_drop,a1]) rfl dm d6 aE (by omega) (cn.below bu) (fun b o e h=>cn.lt_of e h) dy (ai.drop f) (bV m) (by rw[cB];exact dv)).mono ?_;rintro e bk ⟨rfl,ts,bc,ht,Z,dh,a4⟩;have b3:=a4.patch b2 bc dh (by omega);have ab:aF aA (patch zs ts f)=((p*s:Nat):Int):=by
       rw[oS (by omega),Z,bc,cA (by rw[List.length_drop];omega),cB,<-bf];grind
      have ch:(patch zs ts f).length=n:=by rw[iG (by omega),a1]
      have dw:=nQ ai ht f;generalize patch zs ts f=dc at *;have az:q.heap.size<bk.heap.size:=by have:=a4.grown.size;have:=Y.grown.size;have:=P.grown.size;omega
      have df:Below q.heap.size q bk:=a4.belowOf bu aE;have db:=aB ab;have bn:=aB ch;clear ab ch Z bc bf a1 cm f5 f4;go_wp2_with fail;refine(eM _ dc n n bk bn.out (Rd.mk az b3) aE (by omega)).mono ?_;rintro e ex ⟨rfl,rfl⟩;go_wp2;go_ret;exact⟨_,rfl,NatAt.trim (Rd.mk az b3) dw (by rw[db.out,X.out]) (by rw[bn.out];exact aE) (Old.mk az),From.new am.size,aC am df⟩
theorem LQ (N:Nat):MulOK N:=by
 induction N with
 |zero=>intro x y b c w h;omega
 |succ N a=>exact LP N a
theorem nV (x y:Nat) (a b:Value) (w:World) (d:NatAt w a x) (e:NatAt w b y) (c:nl x+nl y<=aI):
  Calls Tryz.prog 168 #[a,b] w (gS w [a,b] (x*y)):=LQ _ x y a b w (Nat.lt_succ_self _) c d e
theorem kL (x:Int):IntKind.u64.wrap x=dE x:=by
 unfold dE;simp[IntKind.wrap,IntKind.bits,IntKind.signed]
theorem kM {sh:Nat} (h:sh<=64):(2:Int)^sh*2^(64-sh)=aA:=by
 rw[<-Int.pow_add,show sh+(64-sh)=64 by omega];rfl
theorem dM (n:Nat):(0:Int)<2^n:=Int.pow_pos (by decide)
theorem CI (a:Int) {sh:Nat} (h:sh<=64):a/2^(64-sh)=fN (a*2^sh):=by
 unfold fN;have e:=kM h;have b:=dM sh;have c:=dM (64-sh);rw[show(18446744073709551616:Int)=2^(64-sh)*2^sh by rw[Int.mul_comm,e];rfl];rw[Int.mul_ediv_mul_of_pos_left _ _ b]
theorem wH {a:Int} (b:0<=a) (c:a<aA) (sh:Nat):0<=fN (a*2^sh)∧fN (a*2^sh)<2^sh:=
 qB (Int.mul_nonneg b (Int.le_of_lt (dM sh))) (Int.mul_lt_mul_of_pos_right c (dM sh))
theorem CJ (a:Int) {sh:Nat} (h:sh<=64):∃q,dE (a*2^sh)=2^sh*q:=by
 have e:=wC (a*2^sh);have b:=kM h;refine⟨a-2^(64-sh)*fN (a*2^sh),?_⟩;rw[Int.mul_sub,<-Int.mul_assoc,b];rw[Int.mul_comm (2^sh) a];omega
theorem wI {z y:Int} {sh:Nat} (h:sh<=64) (b:0<=z) (k:z<2^sh) (j:0<=y) (i:y<aA) (d:∃q,y=2^sh*q):bits .or .u64 z y=z+y:=by
 have f:(2:Int)^sh<=aA:=by
  have e:=kM h;have n:=dM (64-sh);have m:=dM sh;have:(2:Int)^sh*1<=2^sh*2^(64-sh):=eZ (by omega) (by omega);omega
 rw[u64_or z y b (by unfold aA at f;omega) j (by unfold aA at i;omega)];obtain⟨q,rfl⟩:=d;have g:0<=q:=by
  rcases Int.lt_or_le q 0 with a|a
  ·have:=Int.mul_neg_of_pos_of_neg (dM sh) a;omega
  ·exact a
 obtain⟨q,rfl⟩:=Int.eq_ofNat_of_zero_le g;obtain⟨z,rfl⟩:=Int.eq_ofNat_of_zero_le b;have c:((2:Int)^sh*(q:Int))=((2^sh*q:Nat):Int):=by simp
 rw[c,Int.toNat_natCast,Int.toNat_natCast,<-Int.natCast_add];congr 1;have l:z<2^sh:=by
  have:(z:Int)<((2^sh:Nat):Int):=by simpa using k
  omega
 rw[Nat.or_comm,<-Nat.two_pow_add_eq_or_of_lt l q];omega
theorem qG:BN=2^64:=rfl
theorem qH (sk sh:Nat):(2:Nat)^(64*sk+sh)=BN^sk*2^sh:=by rw[Nat.pow_add,Nat.pow_mul,qG]
theorem wJ (b:Int) {sh:Nat} (h:sh<=64):dE (b*2^(64-sh))=b%2^sh*2^(64-sh):=by
 have e:=kM h;have f:=dM sh;have g:=dM (64-sh);have a:=Int.emod_add_mul_ediv b (2^sh);have i:=Int.emod_nonneg b (show(2:Int)^sh≠0 by omega);have j:=Int.emod_lt_of_pos b f;refine Split.lo (c:=b/2^sh) ⟨?_,Int.mul_nonneg i (by omega),?_⟩
 ·rw[<-e];generalize b%2^sh=r at *;generalize b/2^sh=d at *;rw[<-a];grind
 ·rw[<-e];exact Int.mul_lt_mul_of_pos_right j g
theorem LN {zs us:List Int} {k sh:Nat} {z r0:Int} (h:sh<=64) (g:k<us.length) (i:k<zs.length) (c:zs.getD k 0=0)
  (f:z=us.getD k 0/2^sh+us.getD (k+1) 0%2^sh*2^(64-sh))
  (hv:2^sh*aF aA zs+r0=aF aA (us.take k)+us.getD k 0%2^sh*aA^k):
  2^sh*aF aA (zs.set k z)+r0=aF aA (us.take (k+1))+us.getD (k+1) 0%2^sh*aA^(k+1):=by
 rw[lG _ _ _ _ i,c,gY _ _ _ g,f,Int.pow_succ];have e:=kM h;have a:=Int.emod_add_mul_ediv (us.getD k 0) (2^sh);generalize us.getD k 0=u at *;generalize us.getD (k+1) 0%2^sh=r at *;generalize u%2^sh=t at *;generalize u/2^sh=d at *;generalize (2:Int)^(64-sh)=q at *;generalize (2:Int)^sh=p at *;generalize aA^k=m at *;generalize aF aA zs=s at *;generalize aF aA (us.take k)=u0 at *;generalize aA=b at *;subst e a;grind
theorem LO {zv a r0:Int} {sh:Nat} (h:2^sh*zv+r0=a) (b:0<=r0) (c:r0<2^sh):zv=a/2^sh:=by
 rw[<-h,Int.add_comm,Int.add_mul_ediv_left _ _ (by have:=dM sh;omega),Int.ediv_eq_zero_of_lt b c,Int.zero_add]
theorem MJ {zs xs:List Int} {k sk sh:Nat} {a L H:Int} (d:k<xs.length) (c:xs.getD k 0=a) (g:k+sk+1<zs.length) (f:Split (a*2^sh) L H) (b:zs.getD (k+sk+1) 0=0)
  (hv:aF aA zs=aA^sk*2^sh*aF aA (xs.take k)):
  aF aA ((zs.set (k+sk) (zs.getD (k+sk) 0+L)).set (k+sk+1) H)=aA^sk*2^sh*aF aA (xs.take (k+1)):=by
 rw[lG _ _ _ _ (by rw[List.length_set];exact g),kI _ _ _ _ (by omega),b,lG _ _ _ _ (by omega),hv,gY _ _ _ d,c];have e:=f.1;rw[Int.pow_succ,Int.pow_add];have h:aA^k*aA^sk*(L+aA*H)=aA^k*aA^sk*(a*2^sh):=by rw[e]
 grind
theorem qJ (x:Nat) (n:Nat) (z:Value) (w:World) (hx:NatAt w z x) (hn:n<18446744073709551616) (F:nl x+n/64+1<=aI):
  Calls Tryz.prog 140 #[z,.int .u64 n] w (gS w [z] (x*2^n)):=by
 unfold aI at F;obtain⟨A,c,rfl,D,v,I⟩:=hx;by_cases B:nl x=0
 ·have S:((nl x:Int)==0)=true:=by simp;omega
  have U:=aB (mQ B);clear B;go_enter Tryz.func140,Tryz.ntmps140;go_wp2;go_ret;refine⟨_,rfl,?_,From.mem (by simp),aH _ _⟩;rw[show x*2^n=x by rw[U.out,Nat.zero_mul]];exact⟨A,c,rfl,D,v,I⟩
 ·by_cases r:n=0
  ·have S:((nl x:Int)==0)=false:=by simp;omega
   subst r;go_enter Tryz.func140,Tryz.ntmps140;go_wp2;go_ret;refine⟨_,rfl,?_,From.mem (by simp),aH _ _⟩;rw[Nat.pow_zero,Nat.mul_one];exact⟨A,c,rfl,D,v,I⟩
  ·have S:((nl x:Int)==0)=false:=by simp;omega
   have q1:((n:Int)==0)=false:=by simp;omega
   obtain⟨b,az,rfl,hb,ae⟩:=v.at_ (by rw[aJ];omega);obtain⟨sk,av,aw,Y⟩:∃sk:Nat,nl x+sk+1<=17592186044416∧(n:Int)/64=(sk:Int)∧Hid (n/64=sk):=⟨n/64,F,by omega,rfl⟩;obtain⟨sh,ar,au,X⟩:∃sh:Nat,sh<64∧(n:Int)%64=(sh:Int)∧Hid (n%64=sh):=⟨n%64,by omega,by omega,rfl⟩;obtain⟨m,ao,ap,HM⟩:∃m,nl x+sk+1<=m∧m<=nl x+sk+1∧Hid (nl x+sk+1=m):=⟨_,aE,aE,rfl⟩;go_enter Tryz.func140,Tryz.ntmps140;go_wp2_with (at_make;refine iE rfl rfl .u64 181 8 Tryz.underlying57 fO m rfl rfl (by omega) (by omega) (by omega) (by omega) ?_;intro w1 ai af ad ac)
   go_loopw [31] (fun i wr=>∃(k:Nat) (d:List Int),k<=nl x∧i= .int .i64 k∧Hid (d.length=m)∧InR aA d∧Hid (d.getD (k+sk) 0<2^sh)∧Hid (∀j,k+sk+1<=j->d.getD j 0=0)∧
    Hid (aF aA d=aA^sk*2^sh*aF aA ((dg x).take k))∧Cells .u64 wr w.heap.size 0 d∧Soft wr w.heap.size∧Below w.heap.size w wr∧w.heap.size<wr.heap.size) (fun i _=>nl x-(intOf i).toNat)
   case atStart=>
    have J:∀j,(List.replicate m (0:Int)).getD j 0=0:=fun j=>by simp[List.getElem?_replicate];split<;>rfl
    exact⟨0,_,Nat.zero_le _,rfl,by simp[Hid],InR.replicate aP _,by unfold Hid;rw[J];exact dM sh,fun j _=>J j,by simp[Hid,jN],ad,af,ac,ai⟩
   case round=>
    obtain⟨k,d,hk,rfl,l,y,G,R,O,h,M,t,p⟩:=hrel;by_cases an:k<nl x
    ·have g1:=(ae.below t hb) k (by rw[aJ];omega);have g2:=h (k+sk) (by have:=l.out;omega);have g3:=h (k+sk+1) (by have:=l.out;omega);rw[aS] at g2 g3;have hf:=fun j=>M.free j;have o:=(bV x).getD aP k;have ah:=(y.getD aP (k+sk)).1;generalize s:(dg x).getD k 0=a at *;obtain⟨L,H,f⟩:=gE (a*2^sh);have ay:a/2^(64-sh)=H:=by rw[CI a (by omega),f.hi]
     have ax:IntKind.u64.wrap (a*2^sh)=L:=by rw[kL,f.lo]
     have aq:bits .or .u64 (d.getD (k+sk) 0) L=d.getD (k+sk) 0+L:=by
      rw[<-f.lo];exact wI (by omega) ah G.out (j8 _).1 (j8 _).2 (CJ a (by omega))
     have g:=wH o.1 o.2 sh;rw[f.hi] at g;have ag:d.getD (k+sk) 0+L<aA:=by
      obtain⟨q,u⟩:=CJ a (show sh<=64 by omega);rw[f.lo] at u;have e:=kM (show sh<=64 by omega);have C:=f.2.2;have hl:=G.out;rw[u,<-e] at C;have h9:q<2^(64-sh):=Int.lt_of_mul_lt_mul_left C (Int.le_of_lt (dM sh));have ab:(2:Int)^sh*(q+1)<=2^sh*2^(64-sh):=eZ (by omega) (Int.le_of_lt (dM sh));rw[Int.mul_add,Int.mul_one] at ab;rw[u];omega
     have N:=MJ (k:=k) (sk:=sk) (sh:=sh) (by rw[aJ];omega) s (by have:=l.out;omega) f (R.out _ aE) O.out;generalize P:d.getD (k+sk) 0=T at *;generalize Q:d.getD (k+sk+1) 0=z1 at *;have Z:=aB N;have ak:=aB s;have al:=aB P;have am:=aB Q;have W:=aB f;have V:=aB h;clear N s P Q f h g;go_wp2;go_roundw
     case rel=>
      have K:=W.out;have g:=wH o.1 o.2 sh;rw[K.hi] at g;have aj:=l.out;have hp:(2:Int)^sh<=aA:=by
       have e:=kM (show sh<=64 by omega);have h2:=dM (64-sh);have r:=dM sh;have:(2:Int)^sh*1<=2^sh*2^(64-sh):=eZ (by omega) (by omega);omega
      have E:=(V.out.set (i:=k+sk) (by omega) (T+L)).set (i:=k+sk+1) (by rw[List.length_set];omega) H;rw[aS,aS] at E;refine⟨k+1,(d.set (k+sk) (T+L)).set (k+sk+1) H,by omega,by go_num,?_,(y.set (by have:=K.2.1;omega) ag _).set g.1 (by omega) _,?_,?_,Z,E,(M.set _ _).set _ _,(t.setCell aE _).setCell aE _,?_⟩
      ·unfold Hid;rw[List.length_set,List.length_set];exact aj
      ·unfold Hid;rw[show k+1+sk=k+sk+1 by omega,dF,List.getElem?_set_self (by rw[List.length_set];omega)];exact g.2
      ·intro j hj;rw[kI _ _ _ _ (by omega),kI _ _ _ _ (by omega)];exact R.out j (by omega)
      ·rw[lC,lC];exact p
     case measure=>simp[intOf];omega
    ·obtain rfl:k=nl x:=by omega
     go_wp2_with fail;refine(eM _ d m m wr l.out (Rd.mk p h) aE (by omega)).mono ?_;rintro e w4 ⟨rfl,rfl⟩;go_wp2;go_ret;refine⟨_,rfl,NatAt.trim (Rd.mk p h) y ?_ (by rw[l.out];exact aE) (Old.mk p),From.new aE,t⟩;have e:n=64*sk+sh:=by have r:=Y.out;have h2:=X.out;omega
     rw[O.out,cA (by rw[aJ];exact aE),cB,e,qH];simp only[Int.natCast_mul,Int.natCast_pow];rw[show((BN:Nat):Int)=aA from rfl,Int.mul_comm];rfl
theorem CX (x:Nat) (n:Nat) (L:Value) (w:World) (hx:NatAt w L x) (hn:n<18446744073709551616) (ak:nl x<=aI):
  Calls Tryz.prog 241 #[L,.int .u64 n] w (gS w [L] (x/2^n)):=by
 unfold aI at ak;obtain⟨A,c,rfl,hc,ao,a3⟩:=hx;obtain⟨a,a6,a7,ad⟩:∃a:Nat,a<18446744073709551616∧(n:Int)/64=(a:Int)∧Hid (n/64=a):=⟨n/64,by omega,by omega,rfl⟩;obtain⟨sh,a4,a5,ac⟩:∃sh:Nat,sh<64∧(n:Int)%64=(sh:Int)∧Hid (n%64=sh):=⟨n%64,by omega,by omega,rfl⟩;have M:Hid (n=64*a+sh):=by have t:=ad.out;have o:=ac.out;unfold Hid;omega
 by_cases h0:nl x<=a
 ·have HZ:Hid (x/2^n=0):=by
   unfold Hid;rw[M.out,qH];refine Nat.div_eq_of_lt ?_;have t:=cJ x;have o:BN^nl x<=BN^a:=cE (by decide) h0;have O:BN^a*1<=BN^a*2^sh:=dL _ (Nat.pow_pos (by decide));omega
  go_enter Tryz.func241,Tryz.ntmps241;go_wp2;go_ret;refine⟨_,rfl,?_,From.none,aH _ _⟩;rw[HZ.out];exact NatAt.nil _
 ·obtain⟨b,au,rfl,P,Q⟩:=ao.at_ (by rw[aJ];omega);obtain⟨m,az,a0,Z⟩:∃m,nl x<=m+a∧m+a<=nl x∧Hid (nl x-a=m):=⟨nl x-a,by omega,by omega,rfl⟩;go_enter Tryz.func241,Tryz.ntmps241;go_wp2_with (at_make;refine iE rfl rfl .u64 181 8 Tryz.underlying57 fO m rfl rfl (by omega) (by omega) (by omega) (by omega) ?_;intro w1 ar ap aj ai)
  go_loopw [27] (fun i wr=>∃(k:Nat) (zs:List Int),k<=m∧i= .int .i64 k∧Hid (zs.length=m)∧InR aA zs∧Hid (∀j,k<=j->zs.getD j 0=0)∧
   Hid (2^sh*aF aA zs+((dg x).drop a).getD 0 0%2^sh=aF aA (((dg x).drop a).take k)+((dg x).drop a).getD k 0%2^sh*aA^k)∧
   Cells .u64 wr w.heap.size 0 zs∧Soft wr w.heap.size∧Below w.heap.size w wr∧w.heap.size<wr.heap.size) (fun i _=>m-(intOf i).toNat)
  case atStart=>
   have an:∀j,(List.replicate m (0:Int)).getD j 0=0:=fun j=>by simp[List.getElem?_replicate];split<;>rfl
   exact⟨0,_,Nat.zero_le _,rfl,by simp[Hid],InR.replicate aP _,fun j _=>an j,by simp[Hid,jN],aj,ap,ai,ar⟩
  case round=>
   obtain⟨k,zs,hk,rfl,f,H,K,V,g,u,p,r⟩:=hrel;by_cases av:k<m
   ·have h:∀j,((dg x).drop a).getD j 0=(dg x).getD (j+a) 0:=fun j=>by simp only[dF,List.getElem?_drop,Nat.add_comm]
    have N:=(Q.below p P) (k+a) (by rw[aJ];omega);have D:=g k (by have:=f.out;omega);rw[aS] at D;have hf:=fun j=>u.free j;have F:=(bV x).getD aP (k+a);have ah:=(bV x).getD aP (k+a+1);have I:=K.out k aE;rw[<-h k] at F N;rw[show k+a+1=k+1+a by omega,<-h (k+1)] at ah
    have v:=fun (z:Int) (he:z=((dg x).drop a).getD k 0/2^sh+((dg x).drop a).getD (k+1) 0%2^sh*2^(64-sh))=>
     LN (zs:=zs) (z:=z) (by omega) (by rw[List.length_drop,aJ];omega) (by have:=f.out;omega) I he V.out
    have U:0<=((dg x).drop a).getD k 0/2^sh:=Int.ediv_nonneg F.1 (Int.le_of_lt (dM sh));have am:((dg x).drop a).getD k 0/2^sh<2^(64-sh):=by
     refine Int.ediv_lt_of_lt_mul (dM sh) ?_;rw[Int.mul_comm,kM (by omega)];exact F.2
    have hp:(2:Int)^(64-sh)<=aA:=by
     have e:=kM (show sh<=64 by omega);have t:=dM sh;have o:=dM (64-sh);have:1*(2:Int)^(64-sh)<=2^sh*2^(64-sh):=dG (by omega) (by omega);omega
    by_cases aw:k+a+1<nl x
    ·have E:=(Q.below p P) (k+a+1) (by rw[aJ];omega);rw[show k+a+1=k+1+a by omega,<-h (k+1),show k+1+a=k+a+1 by omega] at E;have ay:IntKind.u64.wrap (((dg x).drop a).getD (k+1) 0*2^(64-sh))=((dg x).drop a).getD (k+1) 0%2^sh*2^(64-sh):=by rw[kL,wJ _ (by omega)]
     have a2:bits .or .u64 (((dg x).drop a).getD k 0/2^sh) (((dg x).drop a).getD (k+1) 0%2^sh*2^(64-sh))=((dg x).drop a).getD k 0/2^sh+((dg x).drop a).getD (k+1) 0%2^sh*2^(64-sh):=by
      rw[<-wJ _ (by omega)];exact wI (by omega) U am (j8 _).1 (j8 _).2 ⟨((dg x).drop a).getD (k+1) 0%2^sh,by rw[wJ _ (by omega),Int.mul_comm]⟩
     have X:0<=((dg x).drop a).getD k 0/2^sh+((dg x).drop a).getD (k+1) 0%2^sh*2^(64-sh)∧((dg x).drop a).getD k 0/2^sh+((dg x).drop a).getD (k+1) 0%2^sh*2^(64-sh)<aA:=by
      have t:=Int.emod_nonneg (((dg x).drop a).getD (k+1) 0) (show(2:Int)^sh≠0 by have:=dM sh;omega);have o:=Int.emod_lt_of_pos (((dg x).drop a).getD (k+1) 0) (dM sh);have O:(((dg x).drop a).getD (k+1) 0%2^sh+1)*2^(64-sh)<=2^sh*2^(64-sh):=dG (by omega) (Int.le_of_lt (dM _));rw[kM (by omega),Int.add_mul,Int.one_mul] at O;have h4:=Int.mul_nonneg t (Int.le_of_lt (dM (64-sh)));omega
     have l:=v _ rfl;generalize ((dg x).drop a).getD (k+1) 0%2^sh*2^(64-sh)=S at *;generalize al:((dg x).drop a).getD k 0/2^sh=d at *;generalize s:((dg x).drop a).getD k 0=u0 at *;generalize W:((dg x).drop a).getD (k+1) 0=u1 at *;generalize J:zs.getD k 0=z0 at *;have C:=aB l;have af:=aB s;have ag:=aB W;have B:=aB g;clear l v s W J g h I;have a1:b≠w.heap.size:=by omega
     go_wp2;have k1:(wr.setCell ⟨w.heap.size,k,none⟩ (.int .u64 d)).cell? ⟨w.heap.size,k,none⟩=some (.int .u64 d):=World.cell?_setCell_same _ _ _ D;have k2:(wr.setCell ⟨w.heap.size,k,none⟩ (.int .u64 d)).cell? ⟨b,au+(k+a+1),none⟩=some (.int .u64 u1):=(World.cell?_setCell_other _ _ _ _ (by intro e;injection e;omega)).trans E;have k3:∀j,(wr.setCell ⟨w.heap.size,k,none⟩ (.int .u64 d)).frozen? ⟨w.heap.size,j,none⟩=false:=fun j=>(u.set _ _).free j;have T:Only w.heap.size 0 m wr (wr.setCell ⟨w.heap.size,k,none⟩ (.int .u64 d)):=by have:=(Only.refl w.heap.size 0 m wr).set (i:=k) (by omega) (.int .u64 d);rwa [aS] at this
     have R:Cells .u64 (wr.setCell ⟨w.heap.size,k,none⟩ (.int .u64 d)) w.heap.size 0 (zs.set k d):=by have:=B.out.set (i:=k) (by have:=f.out;omega) d;rwa [aS] at this
     generalize wr.setCell ⟨w.heap.size,k,none⟩ (.int .u64 d)=w2 at *;have Y:=aB R;have ab:=aB T;clear R T N D E hf;go_region;go_wp2;go_roundw
     case rel=>
      have q:=Y.out.set (i:=k) (by rw[List.length_set];have:=f.out;omega) (d+S);rw[aS,List.set_set] at q;have G:=ab.out;have aq:=G.grown.size;refine⟨k+1,zs.set k (d+S),by omega,by go_num,?_,H.set X.1 X.2 _,?_,?_,q,((G.soft u).set _ _),?_,?_⟩
      ·unfold Hid;rw[List.length_set];exact f.out
      ·intro j hj;rw[kI _ _ _ _ (by omega)];exact K.out j (by omega)
      ·unfold Hid;rw[ag.out];exact C.out
      ·exact((G.belowOf p aE).drew).setCell aE _
      ·show _<((w2.drew).setCell _ _).heap.size
       rw[lC];exact aU r aq
     case measure=>simp[intOf];omega
    ·have y:((dg x).drop a).getD (k+1) 0=0:=by
      rw[h,dF,eF (by rw[aJ];omega)];rfl
     have l:=v (((dg x).drop a).getD k 0/2^sh) (by rw[y];simp);rw[y] at l;generalize al:((dg x).drop a).getD k 0/2^sh=d at *;generalize s:((dg x).drop a).getD k 0=u0 at *;generalize J:zs.getD k 0=z0 at *;have C:=aB l;have af:=aB s;have ae:=aB y;have B:=aB g;clear l v s J g h I y;go_wp2;go_roundw
     case rel=>
      have q:=B.out.set (i:=k) (by have:=f.out;omega) d;rw[aS] at q;refine⟨k+1,zs.set k d,by omega,by go_num,?_,H.set U (by omega) _,?_,?_,q,u.set _ _,p.setCell aE _,?_⟩
      ·unfold Hid;rw[List.length_set];exact f.out
      ·intro j hj;rw[kI _ _ _ _ (by omega)];exact K.out j (by omega)
      ·unfold Hid;rw[ae.out];exact C.out
      ·rw[lC];exact r
     case measure=>simp[intOf];omega
   ·obtain rfl:k=m:=by omega
    go_wp2_with fail;refine(eM _ zs k k wr f.out (Rd.mk r g) aE (by omega)).mono ?_;rintro e w4 ⟨rfl,rfl⟩;go_wp2;go_ret;refine⟨_,rfl,NatAt.trim (Rd.mk r g) H ?_ (by rw[f.out];exact aE) (Old.mk r),From.new aE,p⟩;have hv:=V.out;have ax:((dg x).drop a).length=k:=by rw[List.length_drop,aJ];exact Z.out
    rw[cA (by omega),dF (i:=k),eF (by omega),qC] at hv;have o:=LO (sh:=sh) hv (Int.emod_nonneg _ (by have:=dM sh;omega)) (Int.emod_lt_of_pos _ (dM sh));rw[o,M.out,qH,<-Nat.div_div_eq_div_mul];simp
theorem MG (f:Nat):Lib.bitLenAux f 0=0:=by cases f<;>simp[Lib.bitLenAux]
theorem MH (f x:Nat) (h:x<2^f):x<2^Lib.bitLenAux f x∧(x≠0->2^(Lib.bitLenAux f x-1)<=x∧0<Lib.bitLenAux f x):=by
 induction f generalizing x with
 |zero=>simp at h;subst h;simp[Lib.bitLenAux]
 |succ f d=>
  by_cases a:x=0
  ·subst a;simp[Lib.bitLenAux]
  ·have c:=d (x/2) (by rw[cU] at h;omega);simp only[Lib.bitLenAux,a,if_false];by_cases b:x/2=0
   ·rw[b,MG];refine⟨by omega,fun _=>⟨by simp;omega,by omega⟩⟩
   ·have g:=c.2 b;generalize Lib.bitLenAux f (x/2)=m at *;refine⟨?_,fun _=>⟨?_,by omega⟩⟩
    ·rw[Nat.add_comm,cU];omega
    ·have e:1+m-1=m-1+1:=by omega
     rw[e,cU];omega
theorem sX (y:Nat) (a:y≠0) (h:y<BN):∃s:Nat,s<64∧Lib.bitLen y+s=64∧2^63<=y*2^s∧y*2^s<BN:=by
 have e:=MH 64 y (by rw[qG] at h;exact h);have g:Lib.bitLenAux 64 y<=64:=Lib.bitLenAux_le 64 y 64 (by rw[qG] at h;exact h);obtain⟨b,c⟩:=e;obtain⟨d,f⟩:=c a;unfold Lib.bitLen;generalize Lib.bitLenAux 64 y=m at *;refine⟨64-m,by omega,by omega,?_,?_⟩
 ·have:2^(m-1)*2^(64-m)=2^63:=by rw[<-Nat.pow_add];congr 1;omega
  rw[<-this];exact cZ _ d
 ·have:2^m*2^(64-m)=BN:=by rw[<-Nat.pow_add,show m+(64-m)=64 by omega];rfl
  rw[<-this];exact Nat.mul_lt_mul_of_pos_right b (Nat.pow_pos (by decide))
theorem MI {b U d q r c a e f:Int} (m:0<b) (g:q*c+r=U) (t:0<=a) (o:0<=d) (s:e*(c*b+a)+f=U*b+d) (p:0<=f) (l:0<c*b+a) (n:b*r+d<q*a):e+1<=q:=by
 rcases Int.lt_or_le q (e+1) with h|h
 ·have i:q*(c*b+a)<=e*(c*b+a):=dG (by omega) (by omega);have j:q*(c*b+a)=(U-r)*b+q*a:=by rw[<-g];grind
  have k:(U-r)*b=U*b-b*r:=by grind
  omega
 ·exact h
theorem CV {b U d q r c a e f:Int} (i:q*c+r=U) (o:e*(c*b+a)+f=U*b+d) (n:f<c*b+a) (l:0<c*b+a) (m:q*a<=b*r+d):q<=e:=by
 rcases Int.lt_or_le e q with h|h
 ·have g:(e+1)*(c*b+a)<=q*(c*b+a):=dG (by omega) (by omega);have j:q*(c*b+a)=(U-r)*b+q*a:=by rw[<-i];grind
  have k:(U-r)*b=U*b-b*r:=by grind
  rw[Int.add_mul,Int.one_mul] at g;omega
 ·exact h
structure Dig (U d y1 y0 t q r:Int):Prop where
 eq:q*y1+r=U
 r0:0<=r
 r1:r<4294967296
 up:t<=q
 q0:0<=q
 q1:q<=4294967297
theorem Dig.down {U d b a t R q r:Int} (h:q*b+r=U) (g:t*(b*4294967296+a)+R=U*4294967296+d) (c:R<b*4294967296+a) (e:0<b*4294967296+a) (f:q*a<=4294967296*r+d):q<=t:=
 CV h g c e f
theorem Dig.next {U d a b t R q r:Int} (h:Dig U d a b t q r) (l:0<a) (j:0<=b) (g:0<=d) (i:t*(a*4294967296+b)+R=U*4294967296+d) (e:0<=R) (f:0<a*4294967296+b) (k:t<4294967296)
  (c:4294967296<=q∨4294967296*r+d<q*b):t<=q-1∧(q-1)*a+(r+a)=U:=by
 refine⟨?_,?_⟩
 ·rcases c with c|c
  ·omega
  ·have:=MI (by decide) h.eq j g i e f c;omega
 ·have:=h.eq;rw[Int.sub_mul];omega
theorem Dig.stop {U d b a t R q r:Int} (h:(q-1)*b+(r+b)=U) (f:0<=q-1) (k:q<=4294967297) (i:0<=a) (m:a<4294967296) (j:0<=d) (g:t*(b*4294967296+a)+R=U*4294967296+d)
  (c:R<b*4294967296+a) (e:0<b*4294967296+a) (l:4294967296<=r+b):q-1<=t:=by
 refine CV h g c e ?_;have:=(jO f (show q-1<=4294967296 by omega) i (show a<=4294967295 by omega)).2;omega
theorem CW {U d Y t R:Int} (e:0<=U) (c:U<Y) (f:0<=d) (g:d<4294967296) (i:t*Y+R=U*4294967296+d) (a:0<=R) (b:R<Y):0<=t∧t<4294967296:=by
 constructor
 ·rcases Int.lt_or_le t 0 with h|h
  ·have:t*Y<= -1*Y:=dG (by omega) (by omega);omega
  ·exact h
 ·rcases Int.lt_or_le t 4294967296 with h|h
  ·exact h
  ·have:4294967296*Y<=t*Y:=dG h (by omega);omega
