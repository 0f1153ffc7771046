/- Laws. -/
import Derived.Test.YtmiaanioldpfgaaGreatDoorX04
import Derived.Deep.LoopGhost
import Derived.Deep.RegionLaw
set_option linter.all false
set_option maxHeartbeats 8000000
set_option maxRecDepth 99999
namespace Go.Proofs.YtmiaanioldpfgaaGreatDoor
open Go.RowKit Sos Tryz
variable{k n:Nat}{v:Int}
def pE(w:World)(vs:List Value)(x y:Nat)(e:Ending)(w':World):Prop:=
 ∃v u,e= .returned (.tuple #[v,u])∧NatAt w' v (x/y)∧NatAt w' u (x%y)∧From w vs v∧From w vs u∧Below w.1.size w w'
def GT(x y:Nat)(vx vy:Value)(w:World)(hx:NatAt w vx x)(hy:NatAt w vy y)(W:y≠0)(e5:nl x+2<=aJ)(e6:nl y+2<=aJ):
  Calls prog 192 #[vx,vy] w (pE w [vx,vy] x y):=by
 unfold aJ at e5 e6;have ah:=hx;have a6:=hy;obtain⟨A,c,rfl,hc,gi,ge⟩:=hx;obtain⟨B,d,rfl,hd,db,gf⟩:=hy;have h0:=gS W;by_cases dy:x<y
 ·have er:decide (bZ (x:Int) y<0)=true:=by rw[jL (by omega)];rfl
  go_enter func192,ntmps192;go_wp2_with fail;refine(QF x y _ _ w ah a6 (by omega) (by omega)).mono ?_;rintro e Y ⟨rfl,z⟩;go_wp2;go_ret2;refine⟨_,_,rfl,?_,?_,From.none,From.mem (by simp),z⟩
  ·rw[azT dy];exact NatAt.nil _
  ·rw[jJ dy];exact ah.be z
 ·have er:decide (bZ (x:Int) y<0)=false:=by
   rcases kJ (x:Int) y with ⟨h,_⟩|⟨_,e⟩|⟨_,e⟩
   ·omega
   ·rw[e];rfl
   ·rw[e];rfl
  have e8:=cK (show y<=x by omega);by_cases v:nl y=1
  ·have c0:((nl y:Int)==1)=true:=by simp;omega
   obtain⟨ab,oy,rfl,bg,an⟩:=db.at_ (by rw[aK];omega);have g0:=an 0 (by rw[aK];omega);have ai:y<BN:=by have:=cyD y;rw[v,bxG] at this;exact this
   rw[gQ,pC W ai] at g0;have ee:w.cell? ⟨ab,oy,none⟩=some (.int .u64 (y:Int)):=g0;clear an g0 v;go_enter func192,ntmps192;go_wp2_with fail;refine(QF x y _ _ w ah a6 (by omega) (by omega)).mono ?_;rintro e Y ⟨rfl,z⟩;have g1:Y.cell? ⟨ab,oy,none⟩=some (.int .u64 (y:Int)):=(z.cell (p:=⟨ab,oy,none⟩) bg).trans ee;go_wp2_with fail;refine(bqX x y _ Y (ah.be z) (by omega) ai (by unfold aJ;omega)).mono ?_;rintro e S ⟨v2,rfl,a5,bp,a0⟩;go_wp2_with fail;refine(sX (x%y) (by8 (dI _ (by omega)) ai) S).mono ?_;rintro e w3 ⟨v3,rfl,fl,ew,ac⟩;have bf:Below w.1.size w S:=aC z a0;go_wp2;go_ret2;exact⟨_,_,rfl,a5.be ac,fl,bp.trans z.size (by simp),ew.trans bf.size (by simp),aC bf ac⟩
  ·have c0:((nl y:Int)==1)=false:=by simp;omega
   obtain⟨ab,oy,rfl,bg,an⟩:=db.at_ (by rw[aK];omega);obtain⟨dr,d0,ai⟩:=wH W;obtain⟨s,ff,fg,au,af⟩:=wK (y/BN^(nl y-1)) d0 ai;have br:nl (y*2^s)=nl y:=GI W (by omega) af;have fk:=QP W au br;have dk:=QQ (x:=x) (s:=s) W e8;have a9:=an (nl y-1) (by rw[aK];omega);rw[dr] at a9;have eg:=kU;generalize y/BN^(nl y-1)=a at *;have gm:=fI x (2^s);have fr:nl (2^s)<=1:=cJ (by rw[bxG,sY];exact by9 (by decide) ff);have ej:(a:Int)<aA:=by omega
   have ei:0<(a:Int):=by omega
   have b6:=aB br;have d7:=aB dk;clear an dr au af d0 ai br dk eg;obtain⟨N,fw,fx,HN⟩:∃N,nl x+1<=N∧N<=nl x+1∧Hid (nl x+1=N):=⟨_,aE,aE,rfl⟩;obtain⟨M,fu,fv,HM⟩:∃M,nl x+1<=M+nl y∧M+nl y<=nl x+1∧Hid (nl x-nl y+1=M):=⟨nl x-nl y+1,by omega,by omega,rfl⟩;go_enter func192,ntmps192;go_wp2_with fail;refine(QF x y _ _ w ah a6 (by omega) (by omega)).mono ?_;rintro e Y ⟨rfl,z⟩;have g1:Y.cell? ⟨ab,oy+(nl y-1),none⟩=some (.int .u64 (a:Int)):=(z.cell (p:=⟨ab,oy+(nl y-1),none⟩) bg).trans a9;go_wp2_with fail;refine(rR a s ei ej (by rw[j9];exact fg) Y).mono ?_;rintro e go ⟨rfl,rfl⟩;go_wp2_with fail;refine(tC y s _ Y (a6.be z) (by omega) (by unfold aJ;omega)).mono ?_;rintro e S ⟨v2,rfl,⟨P,c2,a5,el,bt,ap⟩,bp,a0⟩;rw[b6.out] at a5 el;subst a5;have aj:Below w.1.size w S:=aC z a0;go_wp2_with (at_make;refine kG rfl rfl .u64 143 8 underlying75 gZ N rfl rfl (by omega) (by omega) (by omega) (by omega) ?_;intro w3 b3 au ch ac);have az:Below w.1.size w w3:=aC aj ac;refine(tC x s _ w3 (ah.be az) (by omega) (by unfold aJ;omega)).mono ?_;rintro e w4 ⟨v4,rfl,⟨A4,c4,rfl,em,c3,fc⟩,ex,ad⟩;have af:=au.be ad b3;have ci:=ch.be ad b3
   go_wp2_with (first
    |(with_reducible refine mK rfl rfl .u64 143 underlying75 V5 rfl rfl S.1.size 0 (List.replicate N 0) (dg (x*2^s)) (by simp) rfl (fun _=>rfl) ci af c3 ?_;intro w5 cj ae)
    |(at_make;refine kG rfl rfl .u64 143 8 underlying75 gZ M rfl rfl (by omega) (by omega) (by omega) (by omega) ?_;intro w6 d2 de ck ak))
   rw[dB] at ae;have cb:Below w.1.size w w4:=aC az ad;have bc:Below w.1.size w w5:=ae.belowOf cb aj.size;have cd:Below w.1.size w w6:=aC bc ak;have cv:S.1.size<w5.1.size:=aZ b3 (aH ad.size ae.grown.size);have c5:Rd .u64 w6 P (dg (y*2^s)):=(ae.rd ((bt.be ac).be ad) (fun b o e h=>bt.lt_of e h)).be ak;have cl:=cj.be ak cv;have df:=(ae.soft af).be ak cv;have dw:aF aA (cV (List.replicate N 0) (dg (x*2^s)))=((x*2^s:Nat):Int):=by rw[mN _ _ (by rw[aK];omega),cU]
   have cs:InR aA (cV (List.replicate N 0) (dg (x*2^s))):=sW (InR.replicate aQ _) (cI _);have cu:(cV (List.replicate N 0) (dg (x*2^s))).length=N:=by rw[lN,dB]
   generalize cV (List.replicate N 0) (dg (x*2^s))=fo at *;have cy:∀b o,P=some ⟨b,o,none⟩->0<nl y->b≠S.1.size:=AH (ap.ne (c:=c2) aE);have ay:=aj.size;have fb:=ap;unfold Old at ap;generalize S.1.size=G at *;clear fb;generalize w5.1.size=K at *;have bm:(dg (y*2^s)).length=nl y:=by rw[aK,b6.out]
   have bn:=cU (y*2^s);have a2:=cI (y*2^s);generalize dg (y*2^s)=f at *;have Z:=aB bm;have a7:=aB bn;have T:=aB cy;have b8:=aB dw;have d5:=aB cu;have b9:aF aA f<aA^nl y:=by have:=iO aQ a2;rwa [bm] at this
   have eh:0<aF aA f:=by
    rw[bn];have:0<y*2^s:=aqZ (by omega) (eQ (by decide));omega
   have b5:=aB b9;clear bm bn cy dw cu b9 z a0 ac ad ak aj az cb bc bt c3 ch ci cj ae au af bp ex a9 g1 fc em
   go_loopw [13] (fun i wr=>∃(q:Int) (zs I:List Int), -1<=q∧q<M∧i= .int .i64 q∧Hid (zs.length=N)∧Hid (I.length=M)∧InR aA zs∧InR aA I∧
     Hid (aF aA zs+aF aA f*aA^(q+1).toNat*aF aA (I.drop (q+1).toNat)=((x*2^s:Nat):Int))∧Hid (aF aA zs<aF aA f*aA^(q+1).toNat)∧
     Cells .u64 wr G 0 zs∧Soft wr G∧Cells .u64 wr K 0 I∧Soft wr K∧Rd .u64 wr P f∧Below w.1.size w wr∧K<wr.1.size) (fun i _=>(intOf i+1).toNat)
   case atStart=>
    refine⟨(nl x:Int)-nl y,fo,List.replicate M 0,by omega,by omega,rfl,d5,by simp[Hid],cs,InR.replicate aQ _,?_,?_,cl,df,ck,de,c5,cd,d2⟩
    ·rw[show((nl x:Int)-nl y+1).toNat=M by omega];unfold Hid;rw[gO (by simp),b8.out];simp
    ·rw[show((nl x:Int)-nl y+1).toNat=M by omega];unfold Hid;rw[b8.out,a7.out,<-HM.out];exact d7.out
   case round=>
    clear cl df ck de c5 cd d2 cs;obtain⟨q,zs,I,c0,gh,rfl,O,L,E,bs,a3,bq,V,fj,bi,fh,c9,al,R⟩:=hrel;by_cases ef:0<=q
    ·obtain⟨j,rfl⟩:=j7 ef;rw[show((j:Int)+1).toNat=j+1 by omega] at a3 bq;have b4:=O.out;have ba:=QL (k:=1) E (by omega) bq.out;rw[Int.pow_one] at ba;have bb:aF aA (zs.drop j)<aA^(nl y+1):=by
      have v:=b5.out;have h2:aF aA f*aA<=aA^nl y*aA:=eH (by omega) (fP aQ);rw[gR];omega
     have dx:=GH zs j (nl y) (by omega) E bb
     obtain⟨X,rt,c1,da,a4⟩:∃q r,q*aF aA f+r=aF aA (zs.drop j)∧0<=r∧r<aF aA f:=
      ⟨aF aA (zs.drop j)/aF aA f,aF aA (zs.drop j)%aF aA f,by have:=aqR (aF aA (zs.drop j)) (aF aA f);rw[fD];omega,aqG _ (by omega),aqF _ eh⟩
     have fd:0<=X:=by
      rcases azO X 0 with h|h
      ·have v:X*aF aA f<= -1*aF aA f:=eH (by omega) (by omega);have h2:=y9 aQ (E.drop j);omega
      ·exact h
     have et:Cells .u64 wr G j ((zs.drop j).take (nl y+1)):=by have:=(V.drop j).take (nl y+1);rwa [bA] at this
     have cw:((zs.drop j).take (nl y+1)).length=nl y+1:=by rw[bK,gG];omega
     have F:G<wr.1.size:=by omega
     have ax:=aB c1;have HW:=aB dx;have d6:=aB cw;have b7:=aB bb;have d8:=aB ba;clear c1 dx cw bb ba b4;have f8:j+nl y+1-j=nl y+1:=by omega
     have i1:¬N=j:=by omega
     have i2:j<=N:=by omega
     have i3:j+nl y<=N:=by omega
     have i4:j+nl y+1<=N:=by omega
     go_wp2_with fail;refine(QJ _ P ((zs.drop j).take (nl y+1)) f (N-j) c2 (nl y) wr (by omega) d6.out Z.out (Rd.mk F et) c9 ((E.drop j).take _) a2 fk (by rw[HW.out.2,fD];exact d8.out) (by omega) X rt (by rw[HW.out.2];exact ax.out) da a4 fd).mono ?_;rintro e w7 ⟨D,rfl,cq,bk,f4,f5,C⟩;go_wp2_with fail;have f3:D<=18446744073709551615:=by unfold aA at bk;omega
     have cn:Cells .u64 w7 G j ((zs.drop j).take (nl y)):=by have:=((V.be C F).drop j).take (nl y);rwa [bA] at this
     have cx:((zs.drop j).take (nl y)).length=nl y:=by rw[bK,gG,O.out];omega
     have dh:=fj.be C F;have c6:=c9.be C;go_wp2_with fail;refine(Q3 G j ((zs.drop j).take (nl y)) (N-j) P f c2 (nl y) D w7 cx Z.out cn dh (by omega) c6 T.out ((E.drop j).take _) a2 ⟨cq,bk⟩).mono ?_;rintro e l ⟨ts,bo,rfl,fy,fz,bx,ht,bz,bh,J⟩;have eo:=QM (nW aQ (nl y)) HW.out.1 bz (y9 aQ ht) (by have:=iO aQ ht;rwa [bx] at this) ax.out da a4 (fP b5.out) (show D=X∨D=X+1 by omega);have cr:l.cell? ⟨G,j+nl y,none⟩=some (.int .u64 (zs.getD (j+nl y) 0)):=by
      rw[J.rest _ (.inr aE)];have:=(V.be C F) (j+nl y) (by have:=O.out;omega);rwa [bA] at this
     have f1:=E.getD aQ (j+nl y);have bv:=J.soft dh;have ey:=fun k=>bv.free k;have gb:G<l.1.size:=aZ (aZ F C.size) J.grown.size;have ca:K<l.1.size:=aZ (aZ R C.size) J.grown.size;have bj:Cells .u64 l K 0 I:=J.cells (bi.be C R) (aZ R C.size) (.inl (by omega));have bw:Soft l K:=(fh.be C R).ke (J.grown.block K (aZ R C.size) (by intro e;injection e;omega));have ct:=bj j (by have:=L.out;omega);rw[bA] at ct;have e0:=fun k=>bw.free k;have fs:¬G=K:=by omega
     have ft:¬K=G:=by omega
     have c7:Rd .u64 l P f:=J.rd c6 (fun b o e h=>T.out b o e (by omega));have ce:Below w.1.size w l:=J.belowOf (aC al C) ay;generalize dm:zs.getD (j+nl y) 0=t at *;generalize I.getD j 0=kq at *;have fp:=aB dm;clear dm;have U:=aB bx;have fq:=aB bz;clear bx bz cx cn;rcases eo with ⟨e1,e2,e3⟩|⟨e1,e2,e3⟩
     ·have aw:=aB e1;have a8:=aB e3;clear e1 e3;subst e2;have ev:decide (bo<bo)=false:=by simp
      go_wp2;go_roundw
      case rel=>
       have b4:=O.out;have dn:=U.out;have cz:=RB (zs:=zs) (ts:=ts) (k:=j) (by omega);have ar:=GJ (by omega) dn E b7.out ax.out a4 a8.out (by have:=L.out;omega) a3.out;have cp:=(J.patch (V.be C F) dn bh (by omega)).set (i:=j+nl y) (by omega) 0;rw[bA] at cp;have am:=(bj.far (a:=⟨G,j+nl y,none⟩) (.inl (by simp;omega)) (.int .u64 0)).set (i:=j) (by have:=L.out;omega) D;rw[bA] at am;have bu:Rd .u64 ((l.setCell ⟨G,j+nl y,none⟩ (.int .u64 0)).setCell ⟨K,j,none⟩ (.int .u64 D)) P f:=by
        refine Only.rd (g:=K) (off:=0) (n:=M) ?_ (Only.rd (g:=G) (off:=j) (n:=nl y+1) ((Only.refl _ _ _ _).set (i:=nl y) (by omega) (.int .u64 0)) c7 (fun b o e h=>T.out b o e (by omega))) (fun b o e h=> ?_)
        ·have:=(Only.refl K 0 M (l.setCell ⟨G,j+nl y,none⟩ (.int .u64 0))).set (i:=j) (by omega) (.int .u64 D);rwa [bA] at this
        ·have v:=ap ⟨b,o,none⟩ e;have h2:b<G:=v;omega
       refine⟨(j:Int)-1,_,_,by omega,by omega,rfl,?_,?_,(qL E ht j).set (by decide) (by decide) _,bs.set cq bk _,?_,?_,cp.far (.inl (by simp;omega)) _,(bv.set _ _).set _ _,am,(bw.set _ _).set _ _,bu,(ce.setCell (by show _<=G;omega) _).setCell (by show _<=K;omega) _,?_⟩
       ·unfold Hid;rw[eM];omega
       ·unfold Hid;rw[eM];exact L.out
       ·rw[show((j:Int)-1+1).toNat=j by omega,aw.out];exact ar.1
       ·rw[show((j:Int)-1+1).toNat=j by omega];exact ar.2
       ·rw[nU,nU];exact ca
      case measure=>simp[intOf]
     ·have aw:=aB e1;have a8:=aB e3;clear e1 e3;subst e2;have gl:IntKind.u64.wrap (t-(t+1))=18446744073709551615:=by rw[nB];unfold g8;omega
      have ev:t<t+1:=by omega
      have f2:1<=D:=by have:=aw.out;omega
      obtain⟨wo,rfl⟩:∃wo:World,wo=wr:=⟨_,rfl⟩;go_wp2;have aq:Only G j (nl y+1) l (l.setCell ⟨G,j+nl y,none⟩ (.int .u64 18446744073709551615)):=(Only.refl _ _ _ _).set (i:=nl y) (by omega) (.int .u64 18446744073709551615);have en:Cells .u64 (l.setCell ⟨G,j+nl y,none⟩ (.int .u64 18446744073709551615)) G j ts:=bh.far (.inr (.inr (by show _<=j+nl y;have:=U.out;omega))) _;have e7:(l.setCell ⟨G,j+nl y,none⟩ (.int .u64 18446744073709551615)).cell? ⟨G,j+nl y,none⟩=some (.int .u64 18446744073709551615):=World.cell?_setCell_same _ _ _ cr;have eu:Cells .u64 (l.setCell ⟨G,j+nl y,none⟩ (.int .u64 18446744073709551615)) G 0 ((patch zs ts j).set (j+nl y) 18446744073709551615):=by
       have cz:=RB (zs:=zs) (ts:=ts) (k:=j) (by have:=U.out;have:=O.out;omega);have:=(J.patch (V.be C F) U.out bh (by have:=O.out;omega)).set (i:=j+nl y) (by have:=O.out;omega) 18446744073709551615;rwa [bA] at this
      have c8:=aq.rd c7 (fun b o e h=>T.out b o e (by omega));have es:=aq.cells bj ca (.inl (by omega));have fi:Soft _ K:=bw.set ⟨G,j+nl y,none⟩ (.int .u64 18446744073709551615);have di:=aq.soft bv;have gc:=aq.grown.size;generalize l.setCell ⟨G,j+nl y,none⟩ (.int .u64 18446744073709551615)=w9 at *;clear cr ey e0 ct
      go_loopw [17,115] (fun t i wr=>∃(k:Nat) (us:List Int) (c:Int),k<=nl y∧i= .int .i64 k∧t= .int .u64 c∧0<=c∧c<=1∧Hid (us.length=nl y)∧InR aA us∧
        Hid (aF aA us+c*aA^k=aF aA ts+aF aA (f.take k))∧Cells .u64 wr G j us∧Only G j (nl y) w9 wr) (fun _ i _=>nl y-(intOf i).toNat)
      case atStart=>exact⟨0,ts,0,dC _,rfl,rfl,by decide,by decide,U,ht,by simp[Hid],en,Only.refl _ _ _ _⟩
      case round=>
       obtain⟨k,us,Q,hk,rfl,rfl,ep,eq,ag,av,dt,a1,H⟩:=hrel;by_cases f9:k<nl y
       ·obtain⟨b,o,rfl,f0,d1⟩:=(H.rd c8 (fun b o e h=>T.out b o e (by omega))).at_ (by have:=Z.out;omega);have k1:=d1 k (by have:=Z.out;omega);have k2:=a1 k (by have:=ag.out;omega);have hf:=fun m=>(H.soft di).free m;have b1:=av.getD aQ k;have b2:=a2.getD aQ k;have dl:=eqS (y:=f.getD k 0) (show k<us.length by have:=ag.out;omega) dt.out;have dp:=jV aA f k (by have:=Z.out;omega);generalize fm:us.getD k 0=x1 at *;generalize fn:f.getD k 0=y1 at *;have HS:=aB dl;have HT:=aB dp;have HC:=aB a1;obtain⟨ea,eb⟩:=b1;obtain⟨ec,ed⟩:=b2;have j1:j+k<=N:=by omega
        clear d1 fm fn dl dp a1;go_wp2_with (simp only[eqA x1 y1 Q ea ec ep eq eb ed]);go_roundw
        case rel=>
         have hl:=G5 (x1+y1+Q);have hh:=sS (x:=x1+y1+Q) (m:=2) (by omega) (by omega);refine⟨k+1,us.set k (g8 (x1+y1+Q)),gY (x1+y1+Q),by omega,by go_num,rfl,hh.1,by omega,?_,av.set hl.1 hl.2 k,?_,HC.out.set (by have:=ag.out;omega) _,H.set (by omega) _⟩
         ·unfold Hid;rw[eM];exact ag.out
         ·have:=HS.out;have:=HT.out;unfold Hid;omega
        case measure=>simp[intOf];omega
       ·obtain rfl:k=nl y:=by omega
        have ao:Q=1∧aF aA us=rt:=by
         have v:=dt.out;rw[cZ (by have:=Z.out;omega),a8.out] at v;have h2:=y9 aQ av;have h3:=iO aQ av;rw[ag.out] at h3;have h4:Q=0∨Q=1:=by omega
         rcases h4 with rfl|rfl
         ·simp at v;omega
         ·simp at v;exact⟨rfl,v⟩
        obtain⟨rfl,du⟩:=ao;have d9:=aB du;clear du;have gd:wr.cell? ⟨G,j+nl y,none⟩=some (.int .u64 18446744073709551615):=(H.rest _ (.inr aE)).trans e7;have dc:=H.soft di;have f6:=fun m=>dc.free m;have ga:=H.grown.size;have cm:=H.cells es (by omega) (.inl (by omega));have dj:Soft wr K:=fi.ke (H.grown.block K (by omega) (by intro e;injection e;omega));have e4:=cm j (by have:=L.out;omega);rw[bA] at e4;have f7:=fun m=>dj.free m;have fe:=H.rd c8 (fun b o e h=>T.out b o e (by omega));have ek:Below w.1.size w wr:=H.belowOf (aq.belowOf ce ay) ay;have gj:IntKind.u64.wrap (18446744073709551615+1)=0:=by rw[nB];rfl
        generalize I.getD j 0=gn at *;go_wp2;go_roundw
        case rel=>
         have b4:=O.out;have b0:=ag.out;have cz:=RB (zs:=zs) (ts:=us) (k:=j) (by omega);have ar:=GJ (by omega) b0 E b7.out ax.out a4 d9.out (by have:=L.out;omega) a3.out;have gg:=RB (zs:=zs) (ts:=ts) (k:=j) (by have:=U.out;omega);have co:=(H.patch eu b0 a1 (by rw[eM];omega)).set (i:=j+nl y) (by rw[RB (by rw[eM];omega),eM];omega) 0;rw[bA,QS U.out b0 (by omega)] at co;have am:=(cm.far (a:=⟨G,j+nl y,none⟩) (.inl (by simp;omega)) (.int .u64 0)).set (i:=j) (by have:=L.out;omega) (D-1);rw[bA] at am;have bu:Rd .u64 ((wr.setCell ⟨G,j+nl y,none⟩ (.int .u64 0)).setCell ⟨K,j,none⟩ (.int .u64 (D-1))) P f:=by
          refine Only.rd (g:=K) (off:=0) (n:=M) ?_ (Only.rd (g:=G) (off:=j) (n:=nl y+1) ((Only.refl _ _ _ _).set (i:=nl y) (by omega) (.int .u64 0)) fe (fun b o e h=>T.out b o e (by omega))) (fun b o e h=> ?_)
          ·have:=(Only.refl K 0 M (wr.setCell ⟨G,j+nl y,none⟩ (.int .u64 0))).set (i:=j) (by omega) (.int .u64 (D-1));rwa [bA] at this
          ·have v:=ap ⟨b,o,none⟩ e;have h2:b<G:=v;omega
         refine⟨(j:Int)-1,_,_,by omega,by omega,rfl,?_,?_,(qL E av j).set (by decide) (by decide) _,bs.set (by omega) (by omega) _,?_,?_,co.far (.inl (by simp;omega)) _,(dc.set _ _).set _ _,am,(dj.set _ _).set _ _,bu,(ek.setCell (by show _<=G;omega) _).setCell (by show _<=K;omega) _,?_⟩
         ·unfold Hid;rw[eM];omega
         ·unfold Hid;rw[eM];exact L.out
         ·rw[show((j:Int)-1+1).toNat=j by omega,show D-1=X by have:=aw.out;omega];exact ar.1
         ·rw[show((j:Int)-1+1).toNat=j by omega];exact ar.2
         ·rw[nU,nU];omega
        case measure=>simp[intOf]
    ·obtain rfl:q= -1:=by omega
     have ao:=QR (x:=x) (y:=y) (s:=s) (zv:=aF aA zs) (qv:=aF aA I) W (by have:=a3.out;rw[a7.out] at this;simpa using this) (y9 aQ E) (by have:=bq.out;rw[a7.out] at this;simpa using this);have d3:=aB ao.1;have d4:=aB ao.2;clear ao;have F:G<wr.1.size:=by omega
     go_wp2_with fail;refine(gC _ I M M wr L.out (Rd.mk R bi) aE (by omega)).mono ?_;rintro e l ⟨rfl,rfl⟩;go_wp2_with fail;refine(gC _ zs N N wr O.out (Rd.mk F V) aE (by omega)).mono ?_;rintro e l ⟨rfl,rfl⟩;have fa:NatAt wr (.slice (some ⟨G,0,none⟩) (trimL zs).length N) (x%y*2^s):=NatAt.trim (Rd.mk F V) E d4.out (by rw[O.out];exact aE) (Old.mk F);have e9:NatAt wr (.slice (some ⟨K,0,none⟩) (trimL I).length M) (x/y):=NatAt.trim (Rd.mk R bi) bs d3.out (by rw[L.out];exact aE) (Old.mk R);go_wp2_with fail
     refine(GP (x%y*2^s) s _ wr fa (by omega) (by
      unfold aJ;have v:=fI (x%y) (2^s);have h2:=cK (bxP x y);omega)).mono ?_
     rintro e w9 ⟨v9,rfl,dv,ez,cg⟩;rw[Nat.mul_div_cancel _ (eQ (by decide))] at dv;go_wp2;go_ret2
     exact⟨_,_,rfl,e9.be cg,dv,From.new (by omega),ez.trans al.size (fun u hu=>by
      have:u= .slice (some ⟨G,0,none⟩) (trimL zs).length N:=by simpa using hu
      subst this;exact From.new ay),aC al cg⟩
def Cells.nil_{k:IntKind}{w:World}{g off:Nat}:Cells k w g off []:=fun i hi=>by simp at hi
def GS(a:Addr)(n:Nat):(a.add n).block=a.block:=by unfold Addr.add;split<;>rfl
def B8(x n:Nat)(a:Value)(w:World)(l:NatAt w a x)(j:nl x<=aJ)(hn:n<=aJ):
  Calls prog 207 #[a,.int .i64 n] w (jK w [a] (x%BN^n)):=by
 unfold aJ at j hn;obtain⟨A,c,rfl,p,g,k⟩:=l;obtain⟨m,q,r,s,f,i⟩:∃m:Nat,m<=n∧m<=nl x∧min (n:Int) (nl x:Int)=(m:Int)∧m<=c∧Hid (m=min n (nl x)):=⟨min n (nl x),by omega,by omega,by omega,by omega,rfl⟩;have d:((dg x).take m).length=m:=by rw[bK,aK];omega
 have b:=aB d;clear d;go_enter func207,ntmps207;go_wp2_with fail;refine(gC A ((dg x).take m) m c w b.out (g.take m) f (by omega)).mono ?_;rintro e t ⟨rfl,rfl⟩;go_wp2;go_ret;refine⟨_,rfl,?_,(From.mem (List.mem_singleton.2 rfl)).same,aG _ _⟩;have e:x%BN^n=x%BN^m:=by
  have o:=i.out;rcases Nat.le_total n (nl x) with h|h
  ·rw[show m=n by omega]
  ·rw[show m=nl x by omega,jJ (cyD x),jJ (aZ (cyD x) (fT (by decide) h))]
 rw[e];exact NatAt.trim (g.take m) ((cI x).take m) (qJ x m) (by rw[b.out];exact f) k
def wO(x n:Nat)(k:Value)(w:World)(B:NatAt w k x)(u:nl x<=aJ)(hn:n<=aJ):
  Calls prog 208 #[k,.int .i64 n] w (jK w [k] (x/BN^n)):=by
 unfold aJ at u hn;obtain⟨A,c,rfl,D,l,z⟩:=B;by_cases y:nl x<=n
 ·have m:x/BN^n=0:=azT (aZ (cyD x) (fT (by decide) y));rw[m];clear m;have v:min (n:Int) (nl x:Int)=(nl x:Int):=by omega
  have p:∀(f:Option Addr) (j:Nat),Old w f->NatAt w (.slice f 0 j) 0:=fun f j h=>⟨f,j,by rw[dO],by rw[dO];exact dC _,by rw[sR];exact Rd.nil,h⟩;have i:=aB p;clear p;cases A with
  |none=>
   have C:nl x<=0:=by
    rcases iB (nl x) with h|h
    ·omega
    ·obtain⟨_,_,e,_⟩:=l.at_ h;cases e
   go_enter func208,ntmps208;go_wp2;all_goals go_ret
   all_goals exact⟨_,rfl,by first|exact i.out _ _ Old.none|(rw[azV];exact i.out _ _ Old.none),by first|exact From.none|(simp;exact From.none),aG _ _⟩
  |some q=>
   obtain⟨b,o,s⟩:=q;have d:b<w.1.size:=z _ rfl;by_cases E:c<=nl x
   ·obtain rfl:c=nl x:=by omega
    go_enter func208,ntmps208;go_wp2;go_ret;exact⟨_,rfl,i.out _ _ (Old.mk d),(From.mem (List.mem_singleton.2 rfl)).same,aG _ _⟩
   ·have F:¬c=nl x:=by omega
    go_enter func208,ntmps208;go_wp2;go_ret;refine⟨_,rfl,i.out _ _ (fun a e=> ?_),fun g t G=>⟨_,List.mem_singleton.2 rfl,?_⟩,aG _ _⟩
    ·injection e with e;subst e;rw[GS];exact d
    ·have:(some ((⟨b,o,s⟩:Addr).add (nl x)).block)=some g:=t;rw[GS] at this;exact this
 ·obtain⟨b,o,rfl,d,r⟩:=l.at_ (by rw[aK];omega);have v:min (n:Int) (nl x:Int)=(n:Int):=by omega
  have H:¬c=n:=by omega
  have I:n<=nl x:=by omega
  go_enter func208,ntmps208;go_wp2;go_ret;exact⟨_,rfl,⟨_,_,by rw[S4];rfl,by rw[S4];omega,by rw[<-rM];exact Rd.mk d (r.drop n),Old.mk d⟩,(From.mem (List.mem_singleton.2 rfl)).shift,aG _ _⟩
def SF{lo hi m:Nat}(f:nl lo<=n)(j:n+nl hi<=m):
  let zs:=cV (List.replicate m 0) (dg lo)
  let us:=cV (zs.drop n) (dg hi)
  us.length=m-n∧InR aA us∧InR aA zs∧zs.length=m∧aF aA (patch zs us n)=lo+aA^n*hi:=by
 intro zs us;have e:zs=dg lo++List.replicate (m-nl lo) 0:=AS m (dg lo) (by rw[aK];omega);have a:zs.drop n=List.replicate (m-n) 0:=by
  rw[e,List.drop_append,gO (by rw[aK];exact f),aK,iM,bxL];congr 1;omega
 have c:zs.length=m:=by show(cV _ _).length=m;rw[lN,dB]
 have d:us.length=m-n:=by show(cV _ _).length=_;rw[lN,gG,c]
 have b:InR aA zs:=(cI lo).take _ |>.append ((InR.replicate aQ _).drop _);have g:InR aA us:=((cI hi).take _).append ((b.drop _).drop _);refine⟨d,g,b,c,?_⟩;have h:aF aA zs=lo:=by show aF aA (cV _ _)=_;rw[mN _ _ (by rw[aK];omega),cU]
 have i:aF aA us=hi:=by
  show aF aA (cV (zs.drop n) (dg hi))=_
  rw[a,mN _ _ (by rw[aK];omega),cU]
 rw[rN (by omega),d,a,h,i,cZ (by simp),mL];simp
def tF(hi lo n:Nat)(S vl:Value)(w:World)(V:NatAt w S hi)(X:NatAt w vl lo)(Z:nl lo<=n)(Y:nl hi+n<=aJ):
  Calls prog 210 #[S,vl,.int .i64 n] w (jK w [] (lo+BN^n*hi)):=by
 unfold aJ at Y;obtain⟨A,c,rfl,hc,v,ai⟩:=V;obtain⟨B,d,rfl,hd,P,aj⟩:=X;obtain⟨m,ag,ah,HM⟩:∃m,n+nl hi<=m∧m<=n+nl hi∧Hid (m=n+nl hi):=⟨_,aE,aE,rfl⟩;have i1:n<=m:=by omega
 by_cases O:m=n
 ·have h0:nl hi<=0:=by omega
  have U:=aB (p9 (show nl hi=0 by omega));subst O;go_enter func210,ntmps210
  go_wp2_with (first
   |(at_make;refine kG rfl rfl .u64 143 8 underlying75 gZ m rfl rfl (by omega) (by omega) (by omega) (by omega) ?_;intro w1 af t r j)
   |(with_reducible refine mK rfl (d:= .tmp 13) (s:= .tmp 14) rfl .u64 143 underlying75 V5 rfl rfl w.1.size 0 (List.replicate m 0) (dg lo) (by simp) rfl (fun _=>rfl) r t (P.be j) ?_;intro T l a)
   |(with_reducible refine mK rfl (d:= .tmp 18) (s:= .tmp 19) rfl .u64 143 underlying75 V5 rfl rfl w.1.size 0 [] (dg hi) rfl rfl (fun h=>absurd h (by simp)) Cells.nil_ (a.soft t) (a.rd (v.be j) (fun b o e h=>v.lt_of e h)) ?_;intro g u f))
  rw[dB] at a;have ad:=a.grown.size;have ae:=f.grown.size;have y:Below w.1.size w g:=f.belowOf (a.belowOf j aE) aE;have p:w.1.size<g.1.size:=by omega
  have I:Cells .u64 g w.1.size 0 (cV (List.replicate m 0) (dg lo)):=fun i hi=>(f.rest _ (.inr (by simp))).trans (l i hi);have Q:aF aA (cV (List.replicate m 0) (dg lo))=lo:=by rw[mN _ _ (by rw[aK];omega),cU]
  have W:InR aA (cV (List.replicate m 0) (dg lo)):=sW (InR.replicate aQ _) (cI _);have N:(cV (List.replicate m 0) (dg lo)).length=m:=by rw[lN,dB]
  generalize cV (List.replicate m 0) (dg lo)=zs at *;have x:=aB Q;have q:=aB N;clear Q N l r u;refine(gC _ zs m m g q.out (Rd.mk p I) aE (by omega)).mono ?_;rintro e w4 ⟨rfl,rfl⟩;go_wp2;go_ret;exact⟨_,rfl,NatAt.trim (Rd.mk p I) W (by rw[x.out,U.out];simp) (by rw[q.out];exact aE) (Old.mk p),From.new aE,y⟩
 ·have i2:¬m=n:=O;go_enter func210,ntmps210
  go_wp2_with (first
   |(at_make;refine kG rfl rfl .u64 143 8 underlying75 gZ m rfl rfl (by omega) (by omega) (by omega) (by omega) ?_;intro w1 af t r j)
   |(with_reducible refine mK rfl (d:= .tmp 13) (s:= .tmp 14) rfl .u64 143 underlying75 V5 rfl rfl w.1.size 0 (List.replicate m 0) (dg lo) (by simp) rfl (fun _=>rfl) r t (P.be j) ?_;intro T l a;generalize R:cV (List.replicate m 0) (dg lo)=zs at l;have z:=aB R;clear R;have J:Cells .u64 T w.1.size n (zs.drop n):=(by have:=l.drop n;rwa [bA] at this))
   |(with_reducible refine mK rfl (d:= .tmp 18) (s:= .tmp 19) rfl .u64 143 underlying75 V5 rfl rfl w.1.size n (zs.drop n) (dg hi) (by rw[<-z.out,gG,lN,dB]) rfl (fun _=>rfl) J (a.soft t) (a.rd (v.be j) (fun b o e h=>v.lt_of e h)) ?_;intro g u f))
  have M:=SF (lo:=lo) (hi:=hi) (n:=n) (m:=m) Z (by omega);rw[z.out] at M;obtain⟨C,D,E,F,G⟩:=M;have L:(zs.drop n).length=m-n:=by rw[gG,F]
  rw[L] at f;rw[dB] at a;have K:=f.patch l C u (by omega);have ab:=RB (zs:=zs) (ts:=cV (zs.drop n) (dg hi)) (k:=n) (by omega);have ac:=qL E D n;generalize patch zs (cV (zs.drop n) (dg hi)) n=H at *;have ad:=a.grown.size;have ae:=f.grown.size;have y:Below w.1.size w g:=f.belowOf (a.belowOf j aE) aE;have p:w.1.size<g.1.size:=by omega
  have x:=aB G;have q:Hid (H.length=m):=by unfold Hid;omega
  clear C D E F G L ab u J l r;refine(gC _ H m m g q.out (Rd.mk p K) aE (by omega)).mono ?_;rintro e w4 ⟨rfl,rfl⟩;go_wp2;go_ret;exact⟨_,rfl,NatAt.trim (Rd.mk p K) ac (by rw[x.out,<-iX];simp) (by rw[q.out];exact aE) (Old.mk p),From.new aE,y⟩
def S6(n:Nat):aF aA (List.replicate n 18446744073709551615)=aA^n-1:=by
 induction n with
 |zero=>rfl
 |succ n a=>
  rw[aqV,val_cons,a,gR];have:aA=18446744073709551616:=rfl;generalize aA^n=p;rw[this];omega
def S7(n:Nat):Canon aA (List.replicate n 18446744073709551615):=by
 refine⟨fun z a=> ?_,?_⟩
 ·have:=byK a;subst this;exact⟨by decide,by decide⟩
 ·unfold kH;cases n with
  |zero=>simp
  |succ n=>simp[List.getLast?_replicate]
def S8(a:k<=n):
  cV ((List.replicate k v++List.replicate (n-k) 0).drop k) (List.replicate k v)=List.replicate (min k (n-k)) v++List.replicate (n-k-k) 0:=by
 rw[List.drop_append,gO (by simp)];unfold cV;simp only[dB,iM,azV,azZ,bxL];rw[List.take_replicate];congr 2;omega
def S9(b:k<=n):
  patch (List.replicate k v++List.replicate (n-k) 0) (cV ((List.replicate k v++List.replicate (n-k) 0).drop k) (List.replicate k v)) k=
   List.replicate (k+min k (n-k)) v++List.replicate (n-(k+min k (n-k))) 0:=by
 rw[S8 b];unfold patch;have a:(List.replicate (min k (n-k)) v++List.replicate (n-k-k) 0).length=n-k:=by simp;omega
 rw[a,bzU (by simp),List.take_replicate,Nat.min_self,gO (by simp<;>omega),fH,<-eK,bz9];congr 2<;>omega
def SA(x y:Nat)(b:x<18446744073709551616)(c:y<18446744073709551616)(h:x*y<18446744073709551616)(w:World):
  Calls prog 40 #[.int .u64 x,.int .u64 y] w fun e w'=>e= .returned (.tuple #[.int .u64 0,.int .u64 ((x*y:Nat):Int)])∧w=w':=by
 refine(Tryz.bits_Mul x y b c w).mono fun e w' a=>⟨?_,a.2.symm⟩;rw[a.1,azT h,jJ h];rfl
def SC(n:Nat)(a:n<18446744073709551616)(w:World):
  Calls prog 40 #[.int .u64 1,.int .u64 n] w fun e w'=>e= .returned (.tuple #[.int .u64 0,.int .u64 n])∧w=w':=by
 have:=SA 1 n (by omega) a (by omega) w;rw[aqD] at this;exact this
def SD(v:Int)(n:Nat)(A:Option Addr)(c:Nat)(w:World)(t:1<=n)(N:n<=aJ)(P:Rd .u64 w A [v]):
  Calls prog 218 #[.slice A 1 c,.int .i64 n] w fun e w'=>∃g,e= .returned (.slice (some ⟨g,0,none⟩) n n)∧w.1.size<=g∧g<w'.1.size∧Cells .u64 w' g 0 (List.replicate n v)∧Below w.1.size w w':=by
 unfold aJ at N;have ad:Nat.min 1 n=1:=y8 t;have ae:¬(n:Int)<0:=by omega
 have V:decide ((9223372036854775807:Int)<(n:Int))=false:=by simp;omega
 go_enter func218,ntmps218
 go_wp2_with (first
  |(go_at_call 40;refine(SC n (by omega) _).mono ?_;rintro e w' ⟨rfl,rfl⟩)
  |(at_make;refine kG rfl rfl .u64 143 8 underlying75 gZ n rfl rfl (by omega) (by omega) (by omega) (by omega) ?_;intro w1 T q y j)
  |(with_reducible refine mK rfl (d:= .tmp 31) (s:= .tmp 32) rfl .u64 143 underlying75 V5 rfl rfl w.1.size 0 (List.replicate n 0) [v] (by simp) rfl (fun _=>rfl) y q (P.be j) ?_;intro r l f))
 rw[dB] at f;have z:Cells .u64 r w.1.size 0 (List.replicate 1 v++List.replicate (n-1) 0):=by
  have e:cV (List.replicate n (0:Int)) [v]=List.replicate 1 v++List.replicate (n-1) 0:=by
   rw[AS n _ (by simp;omega)];simp
  rw[e] at l;exact l
 have x:Below w.1.size w r:=f.belowOf j aE;have G:=f.soft q;have F:w.1.size<r.1.size:=aZ T f.grown.size;clear l y q j
 go_loopw [8] (fun i wr=>∃k:Nat,1<=k∧k<=n∧i= .int .i64 k∧Cells .u64 wr w.1.size 0 (List.replicate k v++List.replicate (n-k) 0)∧Soft wr w.1.size∧Below w.1.size w wr∧w.1.size<wr.1.size)
  (fun i _=>n-(intOf i).toNat)
 case atStart=>exact⟨1,aE,t,rfl,z,G,x,F⟩
 case round=>
  clear z G x F;obtain⟨k,W,X,rfl,b,Q,u,o⟩:=hrel;by_cases Y:k<n
  ·have E:Cells .u64 wr.drew w.1.size k ((List.replicate k (v:Int)++List.replicate (n-k) 0).drop k):=by have:=b.drop k;rwa [bA] at this
   have H:Rd .u64 wr.drew (some ⟨w.1.size,0,none⟩) (List.replicate k v):=by
    have:=b.take k;rw[bzU (by simp),cZ (by simp)] at this;exact Rd.mk o this
   have p:Soft wr.drew w.1.size:=Q;have M:Cells .u64 wr.drew w.1.size 0 (List.replicate k v++List.replicate (n-k) 0):=b;have D:((List.replicate k (v:Int)++List.replicate (n-k) 0).drop k).length=n-k:=by simp
   have i1:¬n=k:=by omega
   have U:k<=n:=by omega
   have h:=aB D;clear D;obtain⟨m,Z,ab,ac,J⟩:∃m:Nat,1<=m∧k+m<=n∧Nat.min k (n-k)=m∧Hid (min k (n-k)=m):=⟨min k (n-k),by omega,by omega,rfl,rfl⟩;go_wp2;go_region_law (refine OX rfl (d:= .tmp 41) (s:= .tmp 44) (dT:=75) (sT:=75) rfl .u64 143 underlying75 V5 (dp:=some ⟨w.1.size,k,none⟩) (dLen:=n-k) (dCap:=n-k) (sp:=some ⟨w.1.size,0,none⟩) (sLen:=k) (sCap:=n) (by go_simp) (by go_simp) w.1.size k _ (List.replicate k v) h.out dB (fun _=>rfl) E p H ?_;intro I B a);rw[h.out] at a;have C:=a.patch M (by rw[lN,h.out]) B (by simp);rw[S9 U,J.out] at C;have K:Below w.1.size w I:=a.belowOf (u.drew) aE;have R:=a.soft p;have O:w.1.size<I.1.size:=aZ o a.grown.size;clear B a E H p;go_wp2;have S:IntKind.i64.wrap ((k:Int)+(m:Int))=((k+m:Nat):Int):=by
    have:((k+m:Nat):Int)<9223372036854775808:=by omega
    simp[IntKind.wrap,IntKind.bits,IntKind.signed];omega
   simp[Act.put,S];go_roundw
   case rel=>exact⟨k+m,by omega,by omega,by simp,C,R,K,O⟩
   case measure=>simp[intOf];omega
  ·obtain rfl:k=n:=by omega
   have L:Cells .u64 wr w.1.size 0 (List.replicate k v):=by simpa using b
   clear b;go_wp2;go_ret;exact⟨_,rfl,aE,o,L,u⟩
def SE(n:Nat)(A:Option Addr)(c:Nat)(w:World)(d:1<=n)(j:n<=aJ)(k:Rd .u64 w A [18446744073709551615]):
  Calls prog 218 #[.slice A 1 c,.int .i64 n] w (jK w [] (BN^n-1)):=by
 refine(SD 18446744073709551615 n A c w d j k).mono ?_;rintro e m ⟨g,rfl,i,a,h,f⟩;have l:1<=BN^n:=eQ (by decide);have b:=NatAt.of (n:=BN^n-1) (Rd.mk a h) (S7 n) (by rw[S6,<-iX];omega) (c:=n) (by simp) (Old.mk a);rw[dB] at b;exact⟨_,rfl,b,From.new i,f⟩
