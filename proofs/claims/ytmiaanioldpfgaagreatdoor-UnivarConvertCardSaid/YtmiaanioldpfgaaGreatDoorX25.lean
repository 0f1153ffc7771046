/- Laws. -/
import Derived.Test.YtmiaanioldpfgaaGreatDoorX24
set_option linter.all false
set_option maxHeartbeats 8000000
set_option maxRecDepth 99999
namespace Go.Proofs.YtmiaanioldpfgaaGreatDoor
open Go.RowKit Sos Tryz
variable{w:World}{vars:Int}
def lB(vars:Int)(ts:List Te)(i:Int):List (List UInt8)×Int:=
 if tN vars ts=false then ([],1) else if i<0∨vars<=i then ([],3) else if ts.all (fun t=>pB i.toNat t.2)=false then ([],8) else (gH [48] i.toNat (sF ts+1).toNat ts,0)
abbrev G6(l:List (List UInt8)):List Value:=l.map (fun x=>Value.string ⟨x.toArray⟩)
def gyJ(l:List (List UInt8))(i:Nat)(x:List UInt8):(G6 l).set i (.string ⟨x.toArray⟩)=G6 (l.set i x):=by
 unfold G6;rw[List.map_set]
def VC.strs{g n c:Nat}{l:List (List UInt8)}(h:VC w g 0 (G6 l))(b:g<w.1.size)(hn:l.length=n)(a:n<=c):StrsAt w (.slice (some ⟨g,0,none⟩) n c) l:=by
 subst hn;exact⟨_,c,rfl,a,.inr ⟨g,0,rfl,b,fun i x d=>h i _ (by unfold G6;rw[iK,d];rfl)⟩⟩
def VC.far{g off b o:Nat}{cs:List Value}(h:VC w g off cs)(a:b≠g)(v:Value):VC (w.setCell ⟨b,o,none⟩ v) g off cs:=fun i u c=>by
 rw[World.cell?_setCell_other _ _ _ _ (by intro e;injection e with e1;exact a (by first|exact e1|exact e1.symm))];exact h i u c
def fx5{ts:List Te}(h:tN vars ts=true): -1<=sF ts∧sF ts<=24:=by
 cases ts with
 |nil=>exact⟨by decide,by decide⟩
 |cons t r=>
  have:=(ezJ.1 h).top t rfl;have:=ezE this;show -1<=gX t.2∧gX t.2<=24
  omega
def gyK{ts:List Te}(h:PV vars ts){j i:Nat}{t:Te}(a:ts[j]? =some t)(hi:(i:Int)<vars):∃d:Nat,t.2[i]? =some (d:Int)∧(d:Int)<sF ts+1∧d=(t.2.getD i 0).toNat:=by
 have m:(t.2.length:Int)=vars:=(h.ok t (dG a)).2.1;have b:t.2[i]? =some (t.2[i]'(by omega)):=aR (by omega);have k:=((h.ok t (dG a)).2.2 _ (dG b)).1;obtain⟨d,c⟩:∃d:Nat,t.2[i]'(by omega)=(d:Int):=⟨(t.2[i]'(by omega)).toNat,by omega⟩;refine⟨d,by rw[b,c],?_,?_⟩
 ·cases ts with
  |nil=>simp at a
  |cons u r=>
   have n:=h.sum a (u:=u) rfl;have l:=ezE (h.top u rfl);have g:=eqP (e:=t.2) (fun e f=>((h.ok t (dG a)).2.2 e f).1) i;rw[getD_some b,c] at g;show(d:Int)<gX u.2+1
   omega
 ·rw[getD_some b,c];rfl
def fyS(vars:Int)(ts:List Te)(i:Int)(v:Value)(w:World)(hG:Glob w)(hv:TesAt w v ts)(B:PolyOk vars ts)(hi:i64 i):
  Calls prog 7 #[.agg #[.int .i64 vars,v],.int .i64 i] w (eyY w (lB vars ts i).1 (lB vars ts i).2):=by
 have I:=fun W h hv=>fyP vars ts v W h hv B;obtain⟨bv,bw⟩:=B.v;obtain⟨i1,i2⟩:=hi;have bq:=B.len;obtain⟨A,c,rfl,hc⟩:=hv.form;obtain⟨W,G,f,X⟩:=bI w [.int .i64 vars,.slice A ts.length c] 24;have C:=X.g2;unfold eyY;cases hp:tN vars ts with
 |false=>
  have e:lB vars ts i=([],1):=by unfold lB;rw[if_pos hp]
  rw[e];rw[hp] at I;clear hp e B;go_enter func7,ntmps7;go_wp2_with fail;(try rw[G]);clear G;refine(I _ (hG.be f) (hv.be f)).mono ?_;rintro e1 w1 ⟨rfl,D⟩;go_wp2;go_ret2;exact⟨_,rfl,StrsAt.nil _ _ _,aC f D⟩
 |true=>
  rw[hp] at I;by_cases R:i<0∨vars<=i
  ·have e:lB vars ts i=([],3):=by unfold lB;rw[if_neg (by rw[hp];decide),if_pos R]
   rw[e];clear hp e B;go_enter func7,ntmps7;go_wp2_with fail;(try rw[G]);clear G;refine(I _ (hG.be f) (hv.be f)).mono ?_;rintro e1 w1 ⟨rfl,D⟩;replace X:=X.be D;have C:=X.g2;replace f:=aC f D;by_cases r1:i<0
   ·go_wp2;go_ret2;exact⟨_,rfl,StrsAt.nil _ _ _,f⟩
   ·have r2:vars<=i:=by omega
    clear R;go_wp2;go_ret2;exact⟨_,rfl,StrsAt.nil _ _ _,f⟩
  ·obtain⟨m,rfl⟩:∃m:Nat,i=(m:Int):=⟨i.toNat,by omega⟩;have hm:(m:Int)<vars:=by omega
   have Q:=fun W h hv=>gyB vars ts (.slice A ts.length c) W h hv B hp;have a6:=fx5 hp;have ar:=ezJ.1 hp;obtain⟨N,hN⟩:∃N:Nat,sF ts+1=(N:Int):=⟨(sF ts+1).toNat,by omega⟩;have bk:N<=25:=by omega
   have f1:(∀t∈ts,pB m t.2=true)->lB vars ts m=(gH [48] m N ts,0):=fun h=>by
    unfold lB;rw[if_neg (by rw[hp];decide),if_neg R,if_neg (by rw[Bool.not_eq_false,List.all_eq_true];exact h),hN];rfl
   have f2:(∃t∈ts,pB m t.2=false)->lB vars ts m=([],8):=fun h=>by
    unfold lB;rw[if_neg (by rw[hp];decide),if_neg R,if_pos (by rw[List.all_eq_false];obtain⟨t,M,O⟩:=h;exact⟨t,M,by rw[j9,O];decide⟩)]
   obtain⟨⟨L0,c0⟩,he⟩:∃p,lB vars ts m=p:=⟨_,rfl⟩;have aw:(∀t∈ts,pB m t.2=true)->L0=gH [48] m N ts∧c0=0:=fun h=>by
    have:=he.symm.trans (f1 h);injection this with M O;exact⟨M,O⟩
   have ap:(∃t∈ts,pB m t.2=false)->L0=[]∧c0=8:=fun h=>by
    have:=he.symm.trans (f2 h);injection this with M O;exact⟨M,O⟩
   clear f1 f2;rw[he];have HY:=aB (And.intro aw ap);have Z:=aB ar;have az:=aB B;have ay:=aB hN;have an:∀W,Glob W->TesAt W (.slice A ts.length c) ts->Calls prog 20 #[.agg #[.int .i64 vars,.slice A ts.length c]] W fun e w'=>e= .returned (.int .i64 ((N:Int)-1))∧Below W.1.size W w':=fun W h hv=>by
    rw[show(N:Int)-1=sF ts by omega];exact Q W h hv
   have n1:IntKind.i64.wrap ((N:Int)-1+1)=(N:Int):=by
    rw[show(N:Int)-1+1=(N:Int) by omega];exact IntWalk.i64_in _ ⟨by omega,by omega⟩
   have m1:¬(m:Int)<0:=by omega
   have m2:¬vars<=(m:Int):=by omega
   have m3:decide ((m:Int)<0)=false:=decide_eq_false m1;have m4:decide (vars<=(m:Int))=false:=decide_eq_false m2;have au:=fun W A c hA=>gyF ⟨#[48]⟩ N A c W (by omega) hA;clear aw ap ar B he hN hp R a6 Q;go_enter func7,ntmps7;go_wp2_with fail;(try rw[G]);clear G;refine(I _ (hG.be f) (hv.be f)).mono ?_;rintro e1 w1 ⟨rfl,D⟩;replace X:=X.be D;replace f:=aC f D;obtain⟨w2,e2,ae,Y⟩:=bI w1 [.string ⟨#[48]⟩] 9;have C:=aa X.g2 (X.be ae).g2;clear I;go_wp2_with fail;(try rw[e2]);clear e2;replace X:=X.be ae;replace f:=aC f ae;refine(an _ (hG.be f) (hv.be f)).mono ?_;rintro e3 w3 ⟨rfl,af⟩;replace X:=X.be af;replace Y:=Y.be af;replace f:=aC f af;have C:=X.g2;have a4:w.1.size<w3.1.size:=X.lt;clear an;go_wp2_with fail;refine(au _ _ _ ⟨_,_,rfl,Y.lt,Y.cell 0 rfl⟩).mono ?_;rintro e4 w4 ⟨g,rfl,a9,E,s,F,ag⟩;replace X:=X.be ag;replace f:=aC f ag;have bf:w.1.size<g:=aZ a4 a9;have am:VC w4 g 0 (G6 (gH [48] m N (ts.take 0))):=by
    have e:G6 (gH [48] m N (ts.take 0))=List.replicate N (.string ⟨#[48]⟩):=by
     show List.map _ (List.replicate N [48])=_
     rw[List.map_replicate]
    rw[e];exact s
   have C:=X.g2;clear au s ag;go_wp2_with fail;go_loopg [30] ts.length (fun k vi wr=>∃j:Nat,Hid (j+k=ts.length)∧vi= .int .i64 j∧VC wr g 0 (G6 (gH [48] m N (ts.take j)))∧Soft wr g∧g<wr.1.size∧Hid (∀t∈ts.take j,pB m t.2=true)∧Bx wr w.1.size [.int .i64 vars,.slice A ts.length c] 24∧Below w.1.size w wr)
   case atStart=>exact⟨0,by unfold Hid;omega,rfl,am,F,E,fun t r=>by simp at r,X,f⟩
   case round=>
    clear am F E X f C;obtain⟨j,HJ,rfl,s,F,E,HP,X,f⟩:=hrel;generalize wr=wy at *;have C:=X.g2;have bp:(0:Int)<=(j:Int):=by omega
    cases gk with
    |zero=>
     have hj:j=ts.length:=HJ.out;obtain⟨rfl,rfl⟩:=HY.out.1 (fun t r=>HP.out t (by rw[hj,aq9];exact r));have hs:StrsAt wy (.slice (some ⟨g,0,none⟩) N N) (gH [48] m N ts):=by
      rw[hj,aq9] at s;exact s.strs E U6 aE
     subst hj;go_wp2;go_ret2;exact⟨_,rfl,hs,f⟩
    |succ k=>
     have bg:j<ts.length:=by have:=HJ.out;omega
     have q1:(j:Int)<(ts.length:Int):=by omega
     obtain⟨t,r⟩:∃t,ts[j]? =some t:=⟨_,aR bg⟩;have T:=dG r;obtain⟨b,bj,u,rfl,lb,c1,c2,ai⟩:=hv.at_ r;obtain⟨Au,cu,rfl,bn⟩:=ai.form;have hu:=ai.be f;replace c1:=(f.cell (p:=⟨b,_,none⟩) lb).trans c1;replace c2:=(f.cell (p:=⟨b,_,none⟩) lb).trans c2;obtain⟨d,hd,a8,Q⟩:=gyK Z.out r hm;have HT:=aB (And.intro r T);have HD:=aB (And.intro hd Q);have a3:=ay.out;have bo:(d:Int)<(N:Int):=by omega
     have br:m<t.2.length:=by have:=(Z.out.ok t T).2.1;omega
     have bs:(m:Int)<(t.2.length:Int):=by omega
     have bt:t.2.length<=6:=by have:=(Z.out.ok t T).2.1;have:=Z.out.v6;omega
     have HR:=aB (az.out.ex t T);clear r T hd Q a8 a3;go_upto_region 9 with fail;obtain⟨n,e6,H,P⟩:=bI wy [.string ⟨t.1.toArray⟩,.slice Au t.2.length cu] 40;(try rw[e6]);clear e6;replace X:=X.be H;replace hu:=hu.be H;replace s:VC n g 0 _:=s.be H E;replace F:=F.be H E;have bc:wy.1.size≠g:=by omega
     have ba:g<n.1.size:=aZ E H.size;replace f:=aC f H;have C:=aa X.g2 P.g2;go_wp2_with fail;go_loopg [37] t.2.length (fun k vi wr=>∃a:Nat,Hid (a+k=t.2.length)∧vi= .int .i64 a∧Hid (∀x<a,x≠m->t.2.getD x 0=0)∧n=wr)
     case atStart=>exact⟨0,by unfold Hid;omega,rfl,fun x z=>by omega,rfl⟩
     case round=>
      obtain⟨a,J,rfl,HZ,rfl⟩:=hrel;have bm:(0:Int)<=(a:Int):=by omega
      cases gk with
      |succ k2=>
       have al:a<t.2.length:=by have:=J.out;omega
       have q2:(a:Int)<(t.2.length:Int):=by omega
       obtain⟨x,z⟩:∃x,t.2[a]? =some x:=⟨_,aR al⟩;obtain⟨L,ou,rfl,lu,ad⟩:=hu.at_ z;have av:=getD_some z;obtain⟨x1,x2⟩:=HR.out x (dG z);have HX:=aB av;clear z av;by_cases U:a=m
       ·have z1:((a:Int) != (m:Int))=false:=by rw[U];exact bne_self_eq_false _
        have ac:=aB U;clear U;go_wp2;go_roundg k2
        case rel=>exact⟨a+1,by have:=J.out;unfold Hid;omega,by go_num,fun y hy hn=>HZ.out y (by have:=ac.out;omega) hn,rfl⟩
        case measure=>omega
       ·have z1:((a:Int) != (m:Int))=true:=bne_iff_ne.2 (by omega);have ac:=aB U;clear U;by_cases V:x=0
        ·have z2:(x != 0)=false:=by rw[V];rfl
         have a1:=aB V;clear V;go_wp2;go_roundg k2
         case rel=>exact⟨a+1,by have:=J.out;unfold Hid;omega,by go_num,fun y hy hn=>by
          rcases dE y a with h|h
          ·exact HZ.out y h hn
          ·obtain rfl:y=a:=by omega
           rw[HX.out];exact a1.out,rfl⟩
         case measure=>omega
        ·have z2:(x != 0)=true:=bne_iff_ne.2 V
         obtain⟨rfl,rfl⟩:=HY.out.2 ⟨t,HT.out.2,by
          cases hpb:pB m t.2 with
          |false=>rfl
          |true=>exact absurd (HX.out.symm.trans (ezK.1 hpb a al ac.out)) V⟩
         go_wp2;go_ret2;exact⟨_,rfl,StrsAt.nil _ _ _,f⟩
      |zero=>
       have ha:a=t.2.length:=J.out;have aq:pB m t.2=true:=ezK.2 (fun v hv hn=>HZ.out v (by omega) hn);have a0:=aB aq;subst ha;clear aq J HZ;obtain⟨L,ou,rfl,bi,a2⟩:=ai.at_ HD.out.1;have ad:=(f.cell (p:=⟨L,_,none⟩) bi).trans a2;have a7:g≠L:=by omega
       have ao:(G6 (gH [48] m N (ts.take j))).length=N:=by unfold G6;rw[cH,U6]
       have ah:d<(G6 (gH [48] m N (ts.take j))).length:=by rw[ao];omega
       have ak:=s d _ (aR ah);rw[bA] at ak;have ax:∃y,n.drew.cell? ⟨g,d,none⟩=some y:=⟨_,ak⟩;obtain⟨y,ax⟩:=ax;have bx:n.drew.frozen? ⟨g,d,none⟩=false:=F.free d;have aj:=s.set ah (.string ⟨t.1.toArray⟩);rw[bA,gyJ,HD.out.2,<-fxW HT.out.1] at aj;have ab:Hid (VC (n.setCell ⟨g,(t.2.getD m 0).toNat,none⟩ (.string ⟨t.1.toArray⟩)) g 0 (G6 (gH [48] m N (ts.take (j+1))))):=aj;rw[<-HD.out.2] at ab;clear aj ah ao ak;go_wp2_with fail;refine wp_region_noPanic ?_;refine wp_region_held_drew (S:=(fun w'=>C2 w' wy.1.size (.string ⟨t.1.toArray⟩) (.slice (some ⟨L,ou,none⟩) t.2.length cu)∧w'.cell? ⟨L,ou+m,none⟩=some (.int .i64 d))) (by kernel_rfl) (by(try dsimp only);(exact⟨P.k2,ad⟩)) (fun q=> ?_);refine b6 (v:= ?_) 0 50 rfl rfl (by kernel_rfl) (fun _ _ _ h=>h) (by rfl) q ?_ ?_;rotate_left;focus (intro w l;(try dsimp only at l);go_simp;(try with_reducible rfl);done)
       (try simp only[Act.put,List.setIfInBounds_toArray,bzS,List.set_cons_succ]);refine b6 (v:= ?_) 1 51 rfl rfl (by kernel_rfl) (fun _ _ _ h=>h) (by rfl) q ?_ ?_;rotate_left;focus (intro w l;(try dsimp only at l);go_simp;(try with_reducible rfl);done)
       (try simp only[Act.put,List.setIfInBounds_toArray,bzS,List.set_cons_succ]);refine b6 (v:= ?_) 2 52 rfl rfl (by kernel_rfl) (fun _ _ _ h=>h) (by rfl) q ?_ ?_;rotate_left;focus (intro w l;(try dsimp only at l);go_simp;(try with_reducible rfl);done)
       (try simp only[Act.put,List.setIfInBounds_toArray,bzS,List.set_cons_succ]);refine b6 (v:= ?_) 3 53 rfl rfl (by kernel_rfl) (fun _ _ _ h=>h) (by rfl) q ?_ ?_;rotate_left;focus (intro w l;(try dsimp only at l);go_simp;(try with_reducible rfl);done)
       (try simp only[Act.put,List.setIfInBounds_toArray,bzS,List.set_cons_succ]);refine b6 (v:= ?_) 4 54 rfl rfl (by kernel_rfl) (fun _ _ _ h=>h) (by rfl) q ?_ ?_;rotate_left;focus (intro w l;(try dsimp only at l);go_simp;(try with_reducible rfl);done)
       (try simp only[Act.put,List.setIfInBounds_toArray,bzS,List.set_cons_succ]);refine b6 (v:= ?_) 5 55 rfl rfl (by kernel_rfl) (fun _ _ _ h=>h) (by rfl) q ?_ ?_;rotate_left;focus (intro w l;(try dsimp only at l);go_simp;(try with_reducible rfl);done)
       (try simp only[Act.put,List.setIfInBounds_toArray,bzS,List.set_cons_succ]);refine b6 (v:= ?_) 6 56 rfl rfl (by kernel_rfl) (fun _ _ _ h=>h) (by rfl) q ?_ ?_;rotate_left;focus (intro w l;(try dsimp only at l);go_simp;(try with_reducible rfl);done)
       (try simp only[Act.put,List.setIfInBounds_toArray,bzS,List.set_cons_succ]);refine b6 (v:= ?_) 7 57 rfl rfl (by kernel_rfl) (fun _ _ _ h=>h) (by rfl) q ?_ ?_;rotate_left;focus (intro w l;(try dsimp only at l);go_simp;(try with_reducible rfl);done)
       (try simp only[Act.put,List.setIfInBounds_toArray,bzS,List.set_cons_succ]);refine b6 (v:= ?_) 8 58 rfl rfl (by kernel_rfl) (fun _ _ _ h=>h) (by rfl) q ?_ ?_;rotate_left;focus (intro w l;(try dsimp only at l);go_simp;(try with_reducible rfl);done)
       (try simp only[Act.put,List.setIfInBounds_toArray,bzS,List.set_cons_succ]);refine wpAnyH_ready (rs:=[9]) (by kernel_rfl) (by simp) (AllReadyH.cons (o:=_) rfl (fun K hK=> ?_) AllReadyH.nil);go_simp;go_wp2_with fail;refine hK.out _ _ (by(try dsimp only);(exact⟨fQ (Ne.symm bc) P.k2,(aL _ _ _ _ _ _ a7).trans ad⟩)) (fun q=> ?_);clear hK K;(try simp only[Act.put,List.setIfInBounds_toArray,bzS,List.set_cons_succ]);refine wpAnyH_done (by kernel_rfl) ?_ _;refine NoPanic.normal ?_;go_wp2_with fail;replace ab:VC (n.setCell ⟨g,d,none⟩ (.string ⟨t.1.toArray⟩)).drew g 0 (G6 (gH [48] m N (ts.take (j+1)))):=ab.out;have X9:Bx (n.setCell ⟨g,d,none⟩ (.string ⟨t.1.toArray⟩)).drew w.1.size [.int .i64 vars,.slice (some ⟨b,bj,none⟩) ts.length c] 24:=X.far d _ (by omega);have a5:=(f.setCell (p:=⟨g,d,none⟩) (iE bf) (.string ⟨t.1.toArray⟩)).drew;have bh:Soft (n.setCell ⟨g,d,none⟩ (.string ⟨t.1.toArray⟩)).drew g:=F.set _ _;have bb:g<(n.setCell ⟨g,d,none⟩ (.string ⟨t.1.toArray⟩)).drew.1.size:=aZ ba (by simp[World.setCell,World.drew]);generalize (n.setCell ⟨g,d,none⟩ (.string ⟨t.1.toArray⟩)).drew=w9 at *;go_roundg k
       case rel=>exact⟨j+1,by have:=HJ.out;unfold Hid;omega,by go_num,ab,bh,bb,fun x z=>by
        rw[Q9,HT.out.1,aqO] at z;rcases List.mem_append.1 z with h|h
        ·exact HP.out x h
        ·rw[List.mem_singleton.1 h];exact a0.out,X9,a5⟩
       case measure=>omega
end Go.Proofs.YtmiaanioldpfgaaGreatDoor
namespace Go.Proofs.YtmiaanioldpfgaaGreatDoor
open Sos Lib
variable{K:Nat}{q:Rat}{a:List (List UInt8)}
def iG(h:1<=K):RL K 0:=⟨by show nl 0<=K;rw[dO];omega,by show nl 1<=K;exact aH (cJ (by decide)) h⟩
def bU{L:Nat}(h:RL K q)(a:K<=L):RL L q:=⟨aH h.1 a,aH h.2 a⟩
def JA{n k:Nat}(h:(decDigits n).length<=k)(d:k<=18):nl n<=1:=by
 refine cJ ?_;have a:=tI (oL n);rw[mQ] at a;have b:10^(decDigits n).length<=10^18:=fT (by decide) (by omega);have c:10^18<BN^1:=by decide
 omega
def lS{t:List UInt8}(h:cG t=some q)(c:t.length<=18):RL 1 q:=by
 have e:=tL h;have a:(cW q).length<=18:=by rw[e];exact c
 unfold cW at a;rw[bN,bN] at a;refine⟨JA (k:=18) (by omega) (by decide),?_⟩;by_cases b:q.den=1
 ·rw[b];exact cJ (by decide)
 ·rw[if_neg b,eG] at a;exact JA (k:=18) (by omega) (by decide)
def pI(h:∀l∈a,l.length<=18):∀q∈aU a,RL 1 q:=fun q c=>by
 obtain⟨l,b,rfl⟩:=List.mem_map.1 c;cases hr:cG l with
 |none=>exact iG (mC 1)
 |some q=>exact lS hr (h l b)
def cx1(h:RL K q):(cW q).length<=40*K+4:=by
 have a:=wR q.num.natAbs K h.1;have b:=wR q.den K h.2;unfold cW;rw[bN,bN];have c:(if q.num<0 then [(45:UInt8)] else []).length<=1:=by split<;>simp
 have d:(if q.den=1 then [] else (47:UInt8) :: decDigits q.den).length<=(decDigits q.den).length+1:=by split<;>simp
 omega
def gyL(h:a.all rd=true):(aU a).map cW=a:=by
 unfold aU;rw[List.map_map];refine(by3 (g:=id) (fun l c=> ?_)).trans (List.map_id _);have d:rd l=true:=List.all_eq_true.1 h l c;obtain⟨q,b⟩:=Option.isSome_iff_exists.1 d;show cW ((cG l).getD 0)=l
 rw[b];exact tL b
end Go.Proofs.YtmiaanioldpfgaaGreatDoor
namespace Go.Proofs.YtmiaanioldpfgaaGreatDoor
open Go.RowKit Sos Tryz
variable{v:Value}{B I K KB L V i j:Nat}{p q:List Rat}{a b c d g l q0 r xs ys:List Int}{w w':World}{E F m m0 n vars x:Int}
def gyG(v i:Nat)(p:List Rat):ez6 v i p.length (fun k=>p.getD k 0)=kW v i p:=by
 unfold kW tG;rw[List.map_map];rfl
def mT(u:List (List UInt8))(vars i:Int):(Int×List Te)×Int:=
 if vl u=false then ((0,[]),1) else if vars<1∨6<vars∨i<0∨vars<=i then ((0,[]),3) else if 25<u.length then ((0,[]),2) else ((vars,kW vars.toNat i.toNat (aU u)),0)
def fx4(w:World)(r:(Int×List Te)×Int)(e:Ending)(w':World):Prop:=∃v,e= .returned (.tuple #[.agg #[.int .i64 r.1.1,v],.int .i64 r.2])∧TesAt w' v r.1.2∧Below w.1.size w w'
def TesAt.nil(w:World)(c:Nat):TesAt w (.slice none 0 c) []:=⟨none,c,rfl,dC _,.inl rfl⟩
def gyH{v:Nat}(hi:i<v)(hv:v<=6)(g:p.length<=25)(k:aN p):lB v (kW v i p) i=(p.map cW,0):=by
 have j:=fxY hv hi g;have c:=ezJ.2 j;have d:sF (kW v i p)+1=(p.length:Int):=by
  rcases iB p.length with b|b
  ·have:p=[]:=bX b;subst this;rfl
  ·obtain⟨n,hn⟩:∃n,p.length=n+1:=⟨p.length-1,by omega⟩;have f:p.getD n 0≠0:=by
    refine k _ ?_;rw[byO,hn,eF,mD,aR (by omega)];rfl
   have e:∃r,tP p=n :: r:=by
    unfold tP;rw[hn,List.range_succ,List.filter_append,List.filter_cons_of_pos (by simpa using f),List.filter_nil,List.reverse_append];exact⟨_,rfl⟩
   obtain⟨r,e⟩:=e;have a:∃r,kW v i p=(cW (p.getD n 0),bG v i n) :: r:=by
    unfold kW tG;rw[e];exact⟨_,rfl⟩
   obtain⟨o,a⟩:=a;rw[a,hn];show gX (bG v i n)+1=_
   have m:=dz1 n hi;unfold gX;rw[kE,if_neg (by omega),eq2 (fun x l=>by rcases I6 l with h|h<;>omega) (by omega)];omega
 unfold lB;rw[if_neg (by rw[c];decide),if_neg (by omega),if_neg (by rw[Bool.not_eq_false,List.all_eq_true];exact fun t h=>by rw[j9];exact fq4 hi t h),d,j9,j9];have h:=fxX cW (z:=0) (i:=i) (n:=p.length) (ts:=tG v i p);rw[dxV,fq5 hi rfl] at h;exact Prod.ext h.symm rfl
def gyI{v:Nat}(hv:v<=6)(hi:i<v)(s:p.length<=25)(l:∀q∈p,RL 1 q):PolyOk v (kW v i p):=by
 have b:∀t∈kW v i p,∃k,t=(cW (p.getD k 0),bG v i k)∧k<p.length:=fun t a=>by
  obtain⟨j,g,rfl⟩:=List.mem_iff_getElem.1 a;obtain⟨k,r,e,f, -⟩:=U7 (aR g);exact⟨k,e,f⟩
 have d:∀k<p.length,RL 1 (p.getD k 0):=fun k c=>by
  rw[eF,aR c];exact l _ (aq0 c)
 refine⟨⟨by omega,by omega⟩,?_,fun t a=> ?_,fun t a q m=> ?_,fun t a x n=> ?_⟩
 ·rw[eq6];have:=eq5 p;omega
 ·obtain⟨k,rfl,h⟩:=b t a;exact aH (cx1 (d k h)) (by decide)
 ·obtain⟨k,rfl,h⟩:=b t a;have:cG (cW (p.getD k 0))=some q:=m;rw[SU] at this;injection this with this;rw[<-this];exact d k h
 ·obtain⟨k,rfl,h⟩:=b t a;have o:x∈bG v i k:=n;rcases I6 o with h|h<;>(unfold i64;omega)
def S0(u:List (List UInt8))(k:Nat):List UInt8:=u.getD k []
def fqW{a:Nat->List UInt8}:P7 V I (j+1) a=P7 V I j a++[(a j,bG V I j)]:=by
 unfold P7;rw[List.range_succ,aq7];rfl
def fqX(u:List (List UInt8))(vars i:Int)(v:Value)(w:World)(t:Glob w)(hv:StrsAt w v u)(hl:u.length<=1073741824)(ad:∀l∈u,l.length<=1073741824)(hK:∀q∈aU u,RL 1 q):
  Calls prog 9 #[v,.int .i64 vars,.int .i64 i] w (fx4 w (mT u vars i)):=by
 obtain⟨A,c,rfl,hc⟩:=hv.form;have af:=fun W t h=>dq0 u (.slice A u.length c) W t h (by omega) (fun _=>ad);obtain⟨⟨⟨O,N⟩,J⟩,Z⟩:∃r,mT u vars i=r:=⟨_,rfl⟩;rw[Z];have E:=aB Z;have ag:=aB (And.intro ad hK);obtain⟨V,U⟩:∃V,vl u=V:=⟨_,rfl⟩;rw[U] at af;have F:=aB U;clear Z ad hK U;obtain⟨W,eW,a,R⟩:=bI w [.int .i64 0,.slice none 0 0] 24;have G:=R.g2;go_enter func9,ntmps9;go_wp2_with fail;(try rw[eW]);clear eW;refine(af _ (t.be a) (hv.be a)).mono ?_;rintro e1 D ⟨rfl,B⟩;replace R:=R.be B;replace G:=R.g2;replace a:=aC a B;clear af;cases V with
 |false=>
  have e:mT u vars i=((0,[]),1):=by unfold mT;rw[if_pos F.out]
  obtain⟨⟨rfl,rfl⟩,rfl⟩:(O=0∧N=[])∧J=1:=by
   have:=E.out.symm.trans e;simpa using this
  clear e;go_wp2_with fail;obtain⟨C,d,m,g, -, -⟩:=R.st2 a aE (fun k z e=>by cases e) (.int .i64 0) (.slice none 0 0);rw[d];exact aM (v:= .tuple #[.agg #[.int .i64 0,.slice none 0 0],.int .i64 1]) (by simp[results,results9,go_sem,m.k2]) rfl ⟨_,rfl,TesAt.nil _ _,g⟩
 |true=>
  by_cases f:vars<1∨6<vars∨i<0∨vars<=i
  ·have e:mT u vars i=((0,[]),3):=by unfold mT;rw[if_neg (by rw[F.out];decide),if_pos f]
   obtain⟨⟨rfl,rfl⟩,rfl⟩:(O=0∧N=[])∧J=3:=by
    have:=E.out.symm.trans e;simpa using this
   clear e;by_cases r1:vars<1
   ·clear f;go_wp2_with fail;obtain⟨C,d,m,g, -, -⟩:=R.st2 a aE (fun k z e=>by cases e) (.int .i64 0) (.slice none 0 0);rw[d];exact aM (v:= .tuple #[.agg #[.int .i64 0,.slice none 0 0],.int .i64 3]) (by simp[results,results9,go_sem,m.k2]) rfl ⟨_,rfl,TesAt.nil _ _,g⟩
   by_cases r2:6<vars
   ·clear f;go_wp2_with fail;obtain⟨C,d,m,g, -, -⟩:=R.st2 a aE (fun k z e=>by cases e) (.int .i64 0) (.slice none 0 0);rw[d];exact aM (v:= .tuple #[.agg #[.int .i64 0,.slice none 0 0],.int .i64 3]) (by simp[results,results9,go_sem,m.k2]) rfl ⟨_,rfl,TesAt.nil _ _,g⟩
   by_cases r3:i<0
   ·clear f;go_wp2_with fail;obtain⟨C,d,m,g, -, -⟩:=R.st2 a aE (fun k z e=>by cases e) (.int .i64 0) (.slice none 0 0);rw[d];exact aM (v:= .tuple #[.agg #[.int .i64 0,.slice none 0 0],.int .i64 3]) (by simp[results,results9,go_sem,m.k2]) rfl ⟨_,rfl,TesAt.nil _ _,g⟩
   have r4:vars<=i:=by omega
   clear f;go_wp2_with fail;obtain⟨C,d,m,g, -, -⟩:=R.st2 a aE (fun k z e=>by cases e) (.int .i64 0) (.slice none 0 0);rw[d];exact aM (v:= .tuple #[.agg #[.int .i64 0,.slice none 0 0],.int .i64 3]) (by simp[results,results9,go_sem,m.k2]) rfl ⟨_,rfl,TesAt.nil _ _,g⟩
  ·have r1:¬vars<1:=fun h=>f (.inl h);have r2:¬6<vars:=fun h=>f (.inr (.inl h));have r3:¬i<0:=fun h=>f (.inr (.inr (.inl h)));have r4:¬vars<=i:=fun h=>f (.inr (.inr (.inr h)));by_cases ah:25<u.length
   ·have e:mT u vars i=((0,[]),2):=by unfold mT;rw[if_neg (by rw[F.out];decide),if_neg f,if_pos ah]
    obtain⟨⟨rfl,rfl⟩,rfl⟩:(O=0∧N=[])∧J=2:=by
     have:=E.out.symm.trans e;simpa using this
    have r5:(25:Int)<(u.length:Int):=by omega
    clear e f;go_wp2_with fail;obtain⟨C,d,m,g, -, -⟩:=R.st2 a aE (fun k z e=>by cases e) (.int .i64 0) (.slice none 0 0);rw[d];exact aM (v:= .tuple #[.agg #[.int .i64 0,.slice none 0 0],.int .i64 2]) (by simp[results,results9,go_sem,m.k2]) rfl ⟨_,rfl,TesAt.nil _ _,g⟩
   ·have e:mT u vars i=((vars,kW vars.toNat i.toNat (aU u)),0):=by unfold mT;rw[if_neg (by rw[F.out];decide),if_neg f,if_neg ah]
    obtain⟨V,rfl⟩:∃V:Nat,vars=V:=⟨vars.toNat,by omega⟩;obtain⟨I,rfl⟩:∃I:Nat,i=I:=⟨i.toNat,by omega⟩;rw[j9,j9] at e;obtain⟨⟨rfl,rfl⟩,rfl⟩:(O=(V:Int)∧N=kW V I (aU u))∧J=0:=by
     have:=E.out.symm.trans e;simpa using this
    have K:I<V:=by omega
    have h6:V<=6:=by omega
    have r5:¬(25:Int)<(u.length:Int):=by omega
    have r6:(0:Int)<=(I:Int):=by omega
    have r7:(I:Int)<(V:Int):=by omega
    have bb:w.1.size<D.1.size:=R.lt;have s1:decide ((V:Int)<1)=false:=decide_eq_false r1;have s2:decide ((6:Int)<(V:Int))=false:=decide_eq_false r2;have s3:decide ((I:Int)<0)=false:=decide_eq_false r3;have s4:decide (V<=I)=false:=decide_eq_false (by omega);have s5:decide ((25:Int)<(u.length:Int))=false:=decide_eq_false r5;clear e f E;go_wp2_with fail;clear s1 s2 s3 s4 s5;go_loopg [8,41] u.length (fun k vt vi wr=>∃j:Nat,Hid (j+k=u.length)∧vi= .int .i64 j∧RowE wr D.1.size vt (P7 V I j (S0 u))∧Bx wr w.1.size [.int .i64 0,.slice none 0 0] 24∧Below D.1.size D wr∧Below w.1.size w wr)
    case atStart=>exact⟨0,by unfold Hid;omega,rfl,RowE.nil _ _,R,aG _ _,a⟩
    case round=>
     clear R a G B;obtain⟨j,Q,rfl,f,R,B,a⟩:=hrel;generalize wr=y at *;have ax:=hv.be a;have G:=R.g2;obtain⟨At,nt,ct,rfl⟩:∃A n c,u8= .slice A n c:=by
      obtain⟨A,c,e, -⟩:=f.form;exact⟨A,_,c,e⟩
     cases gk with
     |zero=>
      have hj:j=u.length:=Q.out;subst hj;have aq:=VS u;have hp:∀k<u.length,cG (S0 u k)=some ((fun k=>(aU u).getD k 0) k)∧(S0 u k).length<=1073741824∧RL 1 ((fun k=>(aU u).getD k 0) k):=fun k hk=>by
       have ac:u[k]? =some u[k]:=aR hk;have a8:S0 u k=u[k]:=by unfold S0;rw[eF,ac];rfl
       have hm:=dG ac;have a6:rd u[k]=true:=List.all_eq_true.1 (pJ F.out).2.1 _ hm;obtain⟨q,hq⟩:∃q,cG u[k]=some q:=Option.isSome_iff_exists.1 a6;have hg:(aU u).getD k 0=q:=by
        unfold aU;rw[eF,iK,ac];show(cG u[k]).getD 0=q
        rw[hq];rfl
       have a4:q∈aU u:=by
        unfold aU;exact List.mem_map.2 ⟨_,hm,by rw[hq];rfl⟩
       show _=some ((aU u).getD k 0)∧_∧RL 1 ((aU u).getD k 0)
       rw[a8,hg];exact⟨hq,ag.out.1 _ hm,ag.out.2 q a4⟩
      have ae:=fun h=>gx2 I u.length V K h6 (by omega) (S0 u) (fun k=>(aU u).getD k 0) (.slice At nt ct) y h f.tesN.tes hp;have av:ez6 V I u.length (fun k=>(aU u).getD k 0)=kW V I (aU u):=by rw[<-aq];exact gyG V I (aU u)
      rw[av] at ae;have lR:=R.lt;clear av hp aq f;go_wp2_with fail;refine(ae (t.be a)).mono ?_;rintro e2 w2 ⟨u2,rfl,hN,am⟩;obtain⟨P,n4,T,rfl⟩:∃A n c,u2= .slice A n c:=by
       obtain⟨A,c,e, -⟩:=hN.form;exact⟨A,_,c,e⟩
      replace R:=R.be am;replace G:=R.g2;replace a:=aC a am;clear ae;go_wp2_with fail;obtain⟨C,d,m,g, -, -⟩:=R.st2 a aE (fun k z e=>by cases e) (.int .i64 V) (.slice P n4 T);have ai:=(hN.far lR 0 (.int .i64 V)).far lR 1 (.slice P n4 T);rw[d] at ai;rw[d];exact aM (v:= .tuple #[.agg #[.int .i64 V,.slice P n4 T],.int .i64 0]) (by simp[results,results9,go_sem,m.k2]) rfl ⟨_,rfl,ai.tes,g⟩
     |succ k=>
      have a3:j<u.length:=by have:=Q.out;omega
      have q1:(j:Int)<(u.length:Int):=by omega
      have q2:(0:Int)<=(j:Int):=by omega
      obtain⟨s,hs⟩:∃s,u[j]? =some s:=⟨_,aR a3⟩;have au:S0 u j=s:=by unfold S0;rw[eF,hs];rfl
      have a7:=ax.at_ hs;have az:=aB au;clear au hs;obtain⟨b,bf,rfl,lb,cb⟩:=a7;have lR:=R.lt;go_upto_region 12 with (at_make;refine kG rfl rfl .i64 3 8 underlying38 fx2 V rfl rfl (by first|rfl|omega) (by first|rfl|omega) (by omega) (by omega) ?_;intro w5 ay ar X an);have a2:=ar.free;have d5:w5.cell? ⟨y.1.size,I,none⟩=some (.int .i64 0):=by
       have:=X I (by simpa using K);rw[bA,eF,j6,if_pos K] at this;exact this
      have M:=X.set (i:=I) (by simpa using K) (j:Int);rw[bA] at M;have g:=an.setCell (p:=⟨y.1.size,I,none⟩) aE (.int .i64 j);go_upto_region 13 with fail;obtain⟨H,d⟩:∃H,w5.setCell ⟨y.1.size,I,none⟩ (.int .i64 j)=H:=⟨_,rfl⟩;rw[d] at M g;rw[d];have ba:y.1.size<H.1.size:=by rw[<-d];simpa using ay
      have aw:IntsAt H (.slice (some ⟨y.1.size,0,none⟩) (bG V I j).length V) (bG V I j):=⟨_,_,rfl,by rw[kE];exact aE,Rd.mk ba M⟩;rw[kE] at aw;clear d M d5 a2 an X ar ay G cb ax;obtain⟨w7,e7,ao,Y⟩:=bI H [.string ⟨s.toArray⟩,.slice (some ⟨y.1.size,0,none⟩) V V] 40;have L:=aC g ao;obtain⟨bc,t,hT⟩:=f.be L;have a9:=aw.be ao;have a0:D.1.size<=y.1.size:=B.size;have al:=aC B L;have aj:bc.length<=1073741824:=by rw[hT.1,fyB];omega
      have S:=aB (And.intro aj al.size);replace R:=R.be L;replace a:=aC a L;clear aj f;go_wp2_with (at_builtin;(try rw[e7]);refine yE rfl rfl 40 2 40 _ underlying22 fyC rfl fxK (by decide) (by decide) rfl t rfl Y rfl (fxL _ _ _ _) S.out.1 S.out.2 ?_;intro v8 w8 a1 _ ab _);have ap:=t.left ab S.out.2;have ak:=(hT.push (KM.grown t ab) (x:=s) (b:=y.1.size) (o:=0) (c:=V) (e:=bG V I j) a0 (by rw[kE];exact a9));rw[kE] at ak;have a5:RowE w8 D.1.size v8 (P7 V I (j+1) (S0 u)):=⟨_,a1,by rw[fqW,az.out];exact ak⟩;have R8:Bx w8 w.1.size _ _:=(ab.block _ R.lt (fun e=>by have:=(t.lt _ e.symm).1;omega)).trans R;go_roundg k
      case rel=>exact⟨j+1,by have:=Q.out;unfold Hid;omega,by go_num,a5,R8,al.trans ap,a.trans (ap.mono (iE bb))⟩
      case measure=>omega
def D8(V I:Nat)(q:List Rat)(j:Nat):List TQ:=(List.range j).map fun k=>(q.getD k 0,bG V I k)
def fxG(V I:Nat)(q:List Rat)(j:Nat):(D8 V I q j).length=j:=by unfold D8;rw[cH,bxZ]
def fzH:D8 V I q (j+1)=D8 V I q j++[(q.getD j 0,bG V I j)]:=by
 unfold D8;rw[List.range_succ,aq7];rfl
def ezW{t:TQ}(h:t∈D8 V I q j):∃k,k<j∧t=(q.getD k 0,bG V I k):=by
 unfold D8 at h;obtain⟨k,a,rfl⟩:=List.mem_map.1 h;exact⟨k,List.mem_range.1 a,rfl⟩
def fzI(d:I<V)(m:V<=6)(n:j<=64):Asc (D8 V I q j):=by
 refine⟨?_,fun t c=> ?_,fun t c u f=> ?_⟩
 ·unfold D8;rw[List.pairwise_map];refine List.pairwise_lt_range.imp fun {a b} h=> ?_;show eZ (bG V I a) (bG V I b)<0∧eZ (bG V I b) (bG V I a)≠0
  rw[eq3 a b d,eq3 b a d];unfold nA;rw[if_pos (by omega),if_neg (by omega),if_pos (by omega)];decide
 ·obtain⟨k,e,rfl⟩:=ezW c;refine⟨by show(bG V I k).length<=1024;rw[kE];omega,fun x g=> ?_⟩;have i:x∈bG V I k:=g;rcases I6 i with h|h<;>omega
 ·obtain⟨k,e,rfl⟩:=ezW c;obtain⟨l,o,rfl⟩:=ezW f;show(bG V I k).length=(bG V I l).length
  rw[kE,kE]
def fzJ(V I:Nat)(q:List Rat):F8 (D8 V I q q.length).reverse=tG V I q:=by
 unfold F8 D8 tG tP;rw[<-List.map_reverse,List.filter_map,List.filter_reverse];rfl
def fzK(V I:Nat)(q:List Rat):(tG V I q).map ez5=kW V I q:=rfl
def TRw.kmL{a w1:World}{rows:List (List Value)}{l:List TQ}(h:TRw a w rows l)(n:KM a w1):TRw w1 w rows l:=⟨h.1,fun i t o=>by
 obtain⟨r,b,p,e,s,c,q,f,d,g,j,k,m⟩:=h.2 i t o;exact⟨r,b,p,e,s,c,q,f,d,g,j,k,m.km n⟩⟩
def RowT.belowU{a:Nat}{l:List TQ}(h:RowT w w a v l)(b:Below w.1.size w w'):RowT w' w' a v l:=by
 obtain⟨e,c,d⟩:=h.be b;exact⟨e,c,d.kmL (KM.be b)⟩
def fzL(u:List (List UInt8))(vars i:Int)(v:Value)(w:World)(hv:StrsAt w v u)(hl:u.length<=1073741824)(av:∀l∈u,l.length<=1073741824)(hK:∀q∈aU u,RL 1 q):
  Calls prog 10 #[v,.int .i64 vars,.int .i64 i] w (fx4 w (mT u vars i)):=by
 obtain⟨A,c,rfl,hc⟩:=hv.form;have U:=fun W h=>VQ u (.slice A u.length c) W h hl av (fun q K=>bU (hK q K) (by decide));unfold qP at U;obtain⟨⟨⟨Z,X⟩,N⟩,he⟩:∃r,mT u vars i=r:=⟨_,rfl⟩;rw[he];have G:=aB he;have a1:=aB hK;obtain⟨V,hV⟩:∃V,vl u=V:=⟨_,rfl⟩;rw[hV] at U;have D:=aB hV;clear he av hK hV;obtain⟨W,eW,a,R⟩:=bI w [.int .i64 0,.slice none 0 0] 24;have F:=R.g2;go_enter func10,ntmps10;go_wp2_with fail;(try rw[eW]);clear eW;refine(U _ (hv.be a)).mono ?_;rintro e1 L ⟨v1,rfl,C,o⟩;replace R:=R.be o;replace F:=R.g2;replace a:=aC a o;obtain⟨Aq,nq,cq,rfl⟩:∃A n c,v1= .slice A n c:=by
  obtain⟨A,c,e, -⟩:=C.form;exact⟨A,_,c,e⟩
 clear U;cases V with
 |false=>
  have e:mT u vars i=((0,[]),1):=by unfold mT;rw[if_pos D.out]
  obtain⟨⟨rfl,rfl⟩,rfl⟩:(Z=0∧X=[])∧N=1:=by
   have:=G.out.symm.trans e;simpa using this
  clear e C;go_wp2_with fail;obtain⟨E,d,g,f, -, -⟩:=R.st2 a aE (fun k z e=>by cases e) (.int .i64 0) (.slice none 0 0);rw[d];exact aM (v:= .tuple #[.agg #[.int .i64 0,.slice none 0 0],.int .i64 1]) (by simp[results,results10,go_sem,g.k2]) rfl ⟨_,rfl,TesAt.nil _ _,f⟩
 |true=>
  rw[tW D.out] at C;by_cases b:vars<1∨6<vars∨i<0∨vars<=i
  ·have e:mT u vars i=((0,[]),3):=by unfold mT;rw[if_neg (by rw[D.out];decide),if_pos b]
   obtain⟨⟨rfl,rfl⟩,rfl⟩:(Z=0∧X=[])∧N=3:=by
    have:=G.out.symm.trans e;simpa using this
   clear e C;by_cases r1:vars<1
   ·clear b;go_wp2_with fail;obtain⟨E,d,g,f, -, -⟩:=R.st2 a aE (fun k z e=>by cases e) (.int .i64 0) (.slice none 0 0);rw[d];exact aM (v:= .tuple #[.agg #[.int .i64 0,.slice none 0 0],.int .i64 3]) (by simp[results,results10,go_sem,g.k2]) rfl ⟨_,rfl,TesAt.nil _ _,f⟩
   by_cases r2:6<vars
   ·clear b;go_wp2_with fail;obtain⟨E,d,g,f, -, -⟩:=R.st2 a aE (fun k z e=>by cases e) (.int .i64 0) (.slice none 0 0);rw[d];exact aM (v:= .tuple #[.agg #[.int .i64 0,.slice none 0 0],.int .i64 3]) (by simp[results,results10,go_sem,g.k2]) rfl ⟨_,rfl,TesAt.nil _ _,f⟩
   by_cases r3:i<0
   ·clear b;go_wp2_with fail;obtain⟨E,d,g,f, -, -⟩:=R.st2 a aE (fun k z e=>by cases e) (.int .i64 0) (.slice none 0 0);rw[d];exact aM (v:= .tuple #[.agg #[.int .i64 0,.slice none 0 0],.int .i64 3]) (by simp[results,results10,go_sem,g.k2]) rfl ⟨_,rfl,TesAt.nil _ _,f⟩
   have r4:vars<=i:=by omega
   clear b;go_wp2_with fail;obtain⟨E,d,g,f, -, -⟩:=R.st2 a aE (fun k z e=>by cases e) (.int .i64 0) (.slice none 0 0);rw[d];exact aM (v:= .tuple #[.agg #[.int .i64 0,.slice none 0 0],.int .i64 3]) (by simp[results,results10,go_sem,g.k2]) rfl ⟨_,rfl,TesAt.nil _ _,f⟩
  ·have r1:¬vars<1:=fun h=>b (.inl h);have r2:¬6<vars:=fun h=>b (.inr (.inl h));have r3:¬i<0:=fun h=>b (.inr (.inr (.inl h)));have r4:¬vars<=i:=fun h=>b (.inr (.inr (.inr h)));have ae:nq=u.length:=by
    obtain⟨A',c',e', -⟩:=C.form;injection e' with e1 e2 e3;rw[e2,VS]
   subst ae;have bc:u.length<=65:=(pJ D.out).1;have r7:IntKind.i64.wrap ((u.length:Int)-1)=(u.length:Int)-1:=IntWalk.i64_in _ ⟨by omega,by omega⟩;by_cases ak:25<u.length
   ·have e:mT u vars i=((0,[]),2):=by unfold mT;rw[if_neg (by rw[D.out];decide),if_neg b,if_pos ak]
    obtain⟨⟨rfl,rfl⟩,rfl⟩:(Z=0∧X=[])∧N=2:=by
     have:=G.out.symm.trans e;simpa using this
    have r5:(24:Int)<(u.length:Int)-1:=by omega
    clear e b C;go_wp2_with fail;obtain⟨E,d,g,f, -, -⟩:=R.st2 a aE (fun k z e=>by cases e) (.int .i64 0) (.slice none 0 0);rw[d];exact aM (v:= .tuple #[.agg #[.int .i64 0,.slice none 0 0],.int .i64 2]) (by simp[results,results10,go_sem,g.k2]) rfl ⟨_,rfl,TesAt.nil _ _,f⟩
   ·have e:mT u vars i=((vars,kW vars.toNat i.toNat (aU u)),0):=by unfold mT;rw[if_neg (by rw[D.out];decide),if_neg b,if_neg ak]
    obtain⟨V,rfl⟩:∃V:Nat,vars=V:=⟨vars.toNat,by omega⟩;obtain⟨I,rfl⟩:∃I:Nat,i=I:=⟨i.toNat,by omega⟩;rw[j9,j9] at e;obtain⟨⟨rfl,rfl⟩,rfl⟩:(Z=(V:Int)∧X=kW V I (aU u))∧N=0:=by
     have:=G.out.symm.trans e;simpa using this
    have O:I<V:=by omega
    have h6:V<=6:=by omega
    have r5:¬(24:Int)<(u.length:Int)-1:=by omega
    have r6:(0:Int)<=(I:Int):=by omega
    have r8:(I:Int)<(V:Int):=by omega
    have ba:w.1.size<L.1.size:=R.lt;have aw:=VS u;clear e b G;have s1:decide ((V:Int)<1)=false:=decide_eq_false r1;have s2:decide ((6:Int)<(V:Int))=false:=decide_eq_false r2;have s3:decide ((I:Int)<0)=false:=decide_eq_false r3;have s4:decide (V<=I)=false:=decide_eq_false (by omega);have s5:decide ((24:Int)<(u.length:Int)-1)=false:=decide_eq_false r5;have H:=aB aw;clear aw;go_wp2_with fail;clear r7 r5 s1 s2 s3 s4 s5;go_loopg [10,11] u.length (fun k vt vi wr=>∃j:Nat,Hid (j+k=u.length)∧vi= .int .i64 j∧RowT wr wr L.1.size vt (D8 V I (aU u) j)∧Bx wr w.1.size [.int .i64 0,.slice none 0 0] 24∧Below L.1.size L wr∧Below w.1.size w wr)
    case atStart=>exact⟨0,by unfold Hid;omega,rfl,RowT.nil _ _ _,R,aG _ _,a⟩
    case round=>
     clear R a F o;obtain⟨j,HJ,rfl,b,R,o,a⟩:=hrel;generalize wr=m at *;have F:=R.g2;obtain⟨At,nt,ct,rfl⟩:∃A n c,u10= .slice A n c:=by
      obtain⟨A,c,e, -⟩:=b.form;exact⟨A,_,c,e⟩
     cases gk with
     |zero=>
      have hj:j=u.length:=HJ.out;subst hj;have au:F8 (D8 V I (aU u) u.length).reverse=tG V I (aU u):=by
       have h:=fzJ V I (aU u);rwa [H.out] at h
      have af:∀k<u.length,RL 1 ((aU u).getD k 0):=fun k x=>by
       rw[eF,aR (by rw[H.out];exact x)];exact a1.out _ (aq0 _)
      have ag:=fzN V (D8 V I (aU u) u.length) (.slice At nt ct) m m (by rw[fxG];omega) b.tsR (aG _ _) (fzI O h6 (by omega)) (fun t y=>by
       obtain⟨k,x,rfl⟩:=ezW y;exact aH (af k x).1 (by decide))
      rw[au] at ag;have ah:∀t∈tG V I (aU u),∃k,k<u.length∧t=((aU u).getD k 0,bG V I k):=fun t y=>by
       unfold tG at y;obtain⟨k,x,rfl⟩:=List.mem_map.1 y;exact⟨k,by have:=(eq4.1 x).1;rwa [H.out] at this,rfl⟩
      have ai:=fun A n c W b a=>fqV V (tG V I (aU u)) A n c m W (by unfold tG;rw[cH];have:=eq5 (aU u);rw[H.out] at this;omega) b a (fun t y=>by
       obtain⟨k,x,rfl⟩:=ah t y;show 1<=(bG V I k).length∧(bG V I k).length<=1024
       rw[kE];omega) (fun t y=>by
       obtain⟨k,x,rfl⟩:=ah t y;exact af k x)
      rw[fzK] at ai;clear au ah af;go_wp2_with fail;refine ag.mono ?_;rintro e2 w2 ⟨A2,n2,c2,rfl,a6,P⟩;have lR:w.1.size<w2.1.size:=aZ R.lt P.size;replace R:=R.be P;replace F:=R.g2;replace a:=aC a P;go_wp2_with fail;refine(ai A2 n2 c2 w2 a6.tsR P).mono ?_;rintro e3 w3 ⟨u3,rfl,hN,ap⟩;obtain⟨A4,n4,c4,rfl⟩:∃A n c,u3= .slice A n c:=by
       obtain⟨A,c,e, -⟩:=hN.form;exact⟨A,_,c,e⟩
      replace R:=R.be ap;replace F:=R.g2;replace a:=aC a ap;clear ag ai;go_wp2_with fail;obtain⟨E,d,g,f, -, -⟩:=R.st2 a aE (fun k z e=>by cases e) (.int .i64 V) (.slice A4 n4 c4);have al:=(hN.far lR 0 (.int .i64 V)).far lR 1 (.slice A4 n4 c4);rw[d] at al;rw[d];exact aM (v:= .tuple #[.agg #[.int .i64 V,.slice A4 n4 c4],.int .i64 0]) (by simp[results,results10,go_sem,g.k2]) rfl ⟨_,rfl,al.tes,f⟩
     |succ k=>
      have a4:j<u.length:=by have:=HJ.out;omega
      have q1:(j:Int)<(u.length:Int):=by omega
      have q2:(0:Int)<=(j:Int):=by omega
      obtain⟨q,K⟩:∃q,(aU u)[j]? =some q:=⟨_,aR (by rw[H.out];exact a4)⟩;have ax:(aU u).getD j 0=q:=by rw[eF,K];rfl
      have aj:=aB (And.intro ax K);have lR:=R.lt;clear ax K;go_upto_region 13 with (at_make;refine kG rfl rfl .i64 3 8 underlying38 fx2 V rfl rfl (by first|rfl|omega) (by first|rfl|omega) (by omega) (by omega) ?_;intro w5 a0 ay ad aq);have a3:=ay.free;have d5:w5.cell? ⟨m.1.size,I,none⟩=some (.int .i64 0):=by
       have:=ad I (by simpa using O);rw[bA,eF,j6,if_pos O] at this;exact this
      have S:=ad.set (i:=I) (by simpa using O) (j:Int);rw[bA] at S;have f:=aq.setCell (p:=⟨m.1.size,I,none⟩) aE (.int .i64 j);go_upto_region 14 with fail;obtain⟨M,d⟩:∃M,w5.setCell ⟨m.1.size,I,none⟩ (.int .i64 j)=M:=⟨_,rfl⟩;rw[d] at S f;rw[d];have a9:m.1.size<M.1.size:=by rw[<-d];simpa using a0
      have az:IntsAt M (.slice (some ⟨m.1.size,0,none⟩) (bG V I j).length V) (bG V I j):=⟨_,_,rfl,by rw[kE];exact aE,Rd.mk a9 S⟩;rw[kE] at az;clear d S d5 a3 aq ad ay a0 F;obtain⟨bq,s,B,m1,d1,s',B',m2,d2,rfl,lq,bf,ae⟩:=(C.be (aC o f)).at_ aj.out.2;obtain⟨w7,e7,ac,Y⟩:=bI M [.bool s,.slice B m1 d1,.bool s',.slice B' m2 d2,.slice (some ⟨m.1.size,0,none⟩) V V] 64;have Q:=aC f ac;obtain⟨bb,J,hT⟩:=b.belowU Q;have a8:=az.be ac;have a5:=ae.k32 (K32.be ac);have ao:=aC o Q;have am:bb.length<=1073741824:=by rw[hT.1,fxG];omega
      have ab:=aB (And.intro am ao.size);replace R:=R.be Q;replace a:=aC a Q;clear am b;go_wp2_with (at_builtin;(try rw[e7]);refine yE rfl rfl 64 5 88 _ underlying51 ez9 rfl ezA (by decide) (by decide) rfl J rfl Y rfl (ezB _ _ _ _ _ _ _ _ _ _ _) ab.out.1 ab.out.2 ?_;intro v8 w8 a2 _ T _);have ar:=J.left T ab.out.2;have an:=((hT.push (K32.grown J T) (e:=bG V I j) a5 (by rw[kE];exact a8)).kmL (KM.grown J T));rw[kE] at an;have a7:RowT w8 w8 L.1.size v8 (D8 V I (aU u) (j+1)):=⟨_,a2,by rw[fzH,aj.out.1];exact an⟩;have R8:Bx w8 w.1.size _ _:=(T.block _ R.lt (fun e=>by have:=(J.lt _ e.symm).1;omega)).trans R;go_roundg k
      case rel=>exact⟨j+1,by have:=HJ.out;unfold Hid;omega,by go_num,a7,R8,ao.trans ar,a.trans (ar.mono (iE ba))⟩
      case measure=>omega
def ezQ(n d:Nat)(ts:List Te):Bool:=decide (ts.length<=n)&&ts.all (fun t=>decide (t.1.length<=d∧t.2.length<=12))
def gyM(vars:Int)(ts:List Te)(n d:Nat)(v:Value)(w:World)(hv:TesAt w v ts)(Z:ts.length<=9223372036854775807)(hn:n<=1024)(U:d<=1024)(B:∀t∈ts,t.1.length<=9223372036854775807∧t.2.length<=9223372036854775807):
  Calls prog 4 #[.agg #[.int .i64 vars,v],.int .i64 n,.int .i64 d] w fun e w'=>e= .returned (.bool (ezQ n d ts))∧Below w.1.size w w':=by
 obtain⟨A,c,rfl,S⟩:=hv.form;obtain⟨W,l,f,X⟩:=bI w [.int .i64 vars,.slice A ts.length c] 24;have P:=X.g2;have E:=aB B;clear B;obtain⟨i,o⟩:∃i,decide (ts.length<=n)=i:=⟨_,rfl⟩;obtain⟨V,p⟩:∃V,ts.all (fun t=>decide (t.1.length<=d∧t.2.length<=12))=V:=⟨_,rfl⟩;unfold ezQ;rw[o,p];have r:=aB o;have z:=aB p;clear o p;by_cases R:n<ts.length
 ·obtain rfl:false=i:=(decide_eq_false (by omega):decide (ts.length<=n)=false).symm.trans r.out;have I:(n:Int)<(ts.length:Int):=by omega
  go_enter func4,ntmps4;go_wp2_with fail;(try rw[l]);clear l;go_ret;exact⟨rfl,f⟩
 obtain rfl:true=i:=(decide_eq_true (by omega):decide (ts.length<=n)=true).symm.trans r.out;have I:¬(n:Int)<(ts.length:Int):=by omega
 go_enter func4,ntmps4;go_wp2_with fail;(try rw[l]);clear l;go_loopg [7] ts.length (fun k J wr=>∃j:Nat,Hid (j+k=ts.length)∧J= .int .i64 j∧Hid (∀t∈ts.take j,t.1.length<=d∧t.2.length<=12)∧W=wr)
 case atStart=>exact⟨0,by unfold Hid;omega,rfl,fun t a=>by simp at a,rfl⟩
 case round=>
  obtain⟨j,m,rfl,s,rfl⟩:=hrel;have Y:(0:Int)<=(j:Int):=by omega
  cases gk with
  |zero=>
   have C:j=ts.length:=m.out;have H:V=true:=by
    rw[<-z.out,List.all_eq_true];intro t a;exact decide_eq_true (s.out t (by rw[C,aq9];exact a))
   subst H C;go_wp2;go_ret;exact⟨rfl,f⟩
  |succ k=>
   have F:j<ts.length:=by have:=m.out;omega
   have q1:(j:Int)<(ts.length:Int):=by omega
   obtain⟨t,a⟩:∃t,ts[j]? =some t:=⟨_,aR F⟩;have q:=dG a;obtain⟨l1,l2⟩:=E.out t q;obtain⟨b,ac,u,rfl,lb,N,O,G⟩:=(hv.be f).at_ a;obtain⟨M,Q,rfl,T⟩:=G.form;have ab:(⟨t.1.toArray⟩:ByteArray).size=t.1.length:=by simp[ByteArray.size]
   have y:=aB (And.intro a q);clear a q;have g:¬(t.1.length<=d∧t.2.length<=12)->V=false:=fun h=>by
    rw[<-z.out,List.all_eq_false];exact⟨t,y.out.2,by simpa using h⟩
   by_cases y1:d<t.1.length
   ·obtain rfl:=g (by omega);have K:(d:Int)<(t.1.length:Int):=by omega
    clear g;go_wp2;go_ret;exact⟨rfl,f⟩
   ·have K:¬(d:Int)<(t.1.length:Int):=by omega
    by_cases y2:12<t.2.length
    ·obtain rfl:=g (by omega);have L:(12:Int)<(t.2.length:Int):=by omega
     clear g;go_wp2;go_ret;exact⟨rfl,f⟩
    ·have L:¬(12:Int)<(t.2.length:Int):=by omega
     clear g;go_wp2;go_roundg k
     case rel=>exact⟨j+1,by have:=m.out;unfold Hid;omega,by go_num,fun x D=>by
      rw[Q9,y.out.1,aqO] at D;rcases List.mem_append.1 D with h|h
      ·exact s.out x h
      ·rw[List.mem_singleton.1 h];omega,rfl⟩
     case measure=>omega
def gyN(a:List Int)(l m:Value)(w:World)(h:IntsAt w l a)(i:IntsAt w m a)(z:a.length<=1073741824):
  Calls prog 29 #[l,m] w fun e w'=>e= .returned (.bool true)∧Below w.1.size w w':=by
 obtain⟨A,c,rfl,u⟩:=h.form;obtain⟨B,d,rfl,v⟩:=i.form;have b:=aG w.1.size w;go_enter func29,ntmps29;go_wp2_with fail;go_loopg [5] a.length (fun k p wr=>∃j:Nat,Hid (j+k=a.length)∧p= .int .i64 j∧Below w.1.size w wr)
 case atStart=>exact⟨0,by unfold Hid;omega,rfl,b⟩
 case round=>
  clear b;obtain⟨j,f,rfl,b⟩:=hrel;generalize wr=H at *;have y:(0:Int)<=(j:Int):=by omega
  cases gk with
  |zero=>
   have n:j=a.length:=f.out;subst n;go_wp2;go_ret;exact⟨rfl,b⟩
  |succ k=>
   have o:j<a.length:=by have:=f.out;omega
   have G:(j:Int)<(a.length:Int):=by omega
   obtain⟨x,g⟩:∃x,a[j]? =some x:=⟨_,aR o⟩;obtain⟨q,E,rfl,C,s⟩:=(h.be b).at_ g;obtain⟨r,F,rfl,D,t⟩:=(i.be b).at_ g;clear g;go_wp2_with fail;go_region
   all_goals (
    go_wp2;go_roundg k
    case rel=>exact⟨j+1,by have:=f.out;unfold Hid;omega,by go_num,b.drew⟩
    case measure=>omega)
def gyO(vars:Int)(ts:List Te)(u v:Value)(w:World)(M:TesAt w u ts)(hv:TesAt w v ts)(hl:ts.length<=1073741824)(n:∀t∈ts,t.2.length<=1073741824):
  Calls prog 12 #[.agg #[.int .i64 vars,u],.agg #[.int .i64 vars,v]] w fun e w'=>e= .returned (.bool true)∧Below w.1.size w w':=by
 obtain⟨A,c,rfl,hc⟩:=M.form;obtain⟨B,d,rfl,hd⟩:=hv.form;have R:=aB n;clear n;obtain⟨W,J,g,X,Y⟩:=DA w [.int .i64 vars,.slice A ts.length c] 24 [.int .i64 vars,.slice B ts.length d] 24;have G:=aa X.g2 Y.g2;go_enter func12,ntmps12;go_wp2_with fail;(try rw[J]);clear J;go_loopg [5] ts.length (fun k vi wr=>∃j:Nat,Hid (j+k=ts.length)∧vi= .int .i64 j∧Bx wr w.1.size [.int .i64 vars,.slice A ts.length c] 24∧Bx wr (w.1.size+1) [.int .i64 vars,.slice B ts.length d] 24∧Below w.1.size w wr)
 case atStart=>exact⟨0,by unfold Hid;omega,rfl,X,Y,g⟩
 case round=>
  clear X Y g G;obtain⟨j,r,rfl,X,Y,g⟩:=hrel;generalize wr=i at *;have ae:(0:Int)<=(j:Int):=by omega
  have G:=aa X.g2 Y.g2;cases gk with
  |zero=>
   have Z:j=ts.length:=r.out;subst Z;go_wp2;go_ret;exact⟨rfl,g⟩
  |succ k=>
   have ab:j<ts.length:=by have:=r.out;omega
   have q1:(j:Int)<(ts.length:Int):=by omega
   obtain⟨t,q⟩:∃t,ts[j]? =some t:=⟨_,aR ab⟩;have n:=R.out t (dG q);obtain⟨l,s,ua,rfl,P,C,D,N⟩:=(M.be g).at_ q;obtain⟨m,x,ub,rfl,Q,E,F,O⟩:=(hv.be g).at_ q;obtain⟨y,H,rfl,ac⟩:=N.form;obtain⟨z,I,rfl,ad⟩:=O.form;have V:=fun W h T=>gyN t.2 (.slice y t.2.length H) (.slice z t.2.length I) W h T n;clear q;go_wp2_with fail;refine wp_region_noPanic ?_;refine wp_region_held_drew (S:=(fun w'=>C2 w' w.1.size (.int .i64 vars) (.slice (some ⟨l,s,none⟩) ts.length c)∧C2 w' (w.1.size+1) (.int .i64 vars) (.slice (some ⟨m,x,none⟩) ts.length d)∧w'.cell? ⟨l,s+j*2,none⟩=some (.string ⟨t.1.toArray⟩)∧w'.cell? ⟨l,s+j*2+1,none⟩=some (.slice y t.2.length H)∧w'.cell? ⟨m,x+j*2,none⟩=some (.string ⟨t.1.toArray⟩)∧w'.cell? ⟨m,x+j*2+1,none⟩=some (.slice z t.2.length I))) (by kernel_rfl) (by(try dsimp only);(exact⟨X.k2,Y.k2,C,D,E,F⟩)) (fun b=> ?_);refine b6 (v:= ?_) 0 27 rfl rfl (by kernel_rfl) (fun _ _ _ h=>h) (by rfl) b ?_ ?_;rotate_left;focus (intro w a;(try dsimp only at a);go_simp;(try with_reducible rfl);done)
   (try simp only[Act.put,List.setIfInBounds_toArray,bzS,List.set_cons_succ]);refine b6 (v:= ?_) 1 28 rfl rfl (by kernel_rfl) (fun _ _ _ h=>h) (by rfl) b ?_ ?_;rotate_left;focus (intro w a;(try dsimp only at a);go_simp;(try with_reducible rfl);done)
   (try simp only[Act.put,List.setIfInBounds_toArray,bzS,List.set_cons_succ]);refine b6 (v:= ?_) 2 29 rfl rfl (by kernel_rfl) (fun _ _ _ h=>h) (by rfl) b ?_ ?_;rotate_left;focus (intro w a;(try dsimp only at a);go_simp;(try with_reducible rfl);done)
   (try simp only[Act.put,List.setIfInBounds_toArray,bzS,List.set_cons_succ]);refine b6 (v:= ?_) 3 30 rfl rfl (by kernel_rfl) (fun _ _ _ h=>h) (by rfl) b ?_ ?_;rotate_left;focus (intro w a;(try dsimp only at a);go_simp;(try with_reducible rfl);done)
   (try simp only[Act.put,List.setIfInBounds_toArray,bzS,List.set_cons_succ]);refine b6 (v:= ?_) 4 31 rfl rfl (by kernel_rfl) (fun _ _ _ h=>h) (by rfl) b ?_ ?_;rotate_left;focus (intro w a;(try dsimp only at a);go_simp;(try with_reducible rfl);done)
   (try simp only[Act.put,List.setIfInBounds_toArray,bzS,List.set_cons_succ]);refine b6 (v:= ?_) 5 32 rfl rfl (by kernel_rfl) (fun _ _ _ h=>h) (by rfl) b ?_ ?_;rotate_left;focus (intro w a;(try dsimp only at a);go_simp;(try with_reducible rfl);done)
   (try simp only[Act.put,List.setIfInBounds_toArray,bzS,List.set_cons_succ]);refine b6 (v:= ?_) 6 33 rfl rfl (by kernel_rfl) (fun _ _ _ h=>h) (by rfl) b ?_ ?_;rotate_left;focus (intro w a;(try dsimp only at a);go_simp;(try with_reducible rfl);done)
   (try simp only[Act.put,List.setIfInBounds_toArray,bzS,List.set_cons_succ]);refine b6 (v:= ?_) 7 34 rfl rfl (by kernel_rfl) (fun _ _ _ h=>h) (by rfl) b ?_ ?_;rotate_left;focus (intro w a;(try dsimp only at a);go_simp;(try with_reducible rfl);done)
   (try simp only[Act.put,List.setIfInBounds_toArray,bzS,List.set_cons_succ]);refine b6 (v:= ?_) 8 35 rfl rfl (by kernel_rfl) (fun _ _ _ h=>h) (by rfl) b ?_ ?_;rotate_left;focus (intro w a;(try dsimp only at a);go_simp;(try with_reducible rfl);done)
   (try simp only[Act.put,List.setIfInBounds_toArray,bzS,List.set_cons_succ]);refine b6 (v:= ?_) 9 36 rfl rfl (by kernel_rfl) (fun _ _ _ h=>h) (by rfl) b ?_ ?_;rotate_left;focus (intro w a;(try dsimp only at a);go_simp;(try with_reducible rfl);done)
   (try simp only[Act.put,List.setIfInBounds_toArray,bzS,List.set_cons_succ]);refine b6 (v:= ?_) 10 37 rfl rfl (by kernel_rfl) (fun _ _ _ h=>h) (by rfl) b ?_ ?_;rotate_left;focus (intro w a;(try dsimp only at a);go_simp;(try with_reducible rfl);done)
   (try simp only[Act.put,List.setIfInBounds_toArray,bzS,List.set_cons_succ]);refine b6 (v:= ?_) 11 38 rfl rfl (by kernel_rfl) (fun _ _ _ h=>h) (by rfl) b ?_ ?_;rotate_left;focus (intro w a;(try dsimp only at a);go_simp;(try with_reducible rfl);done)
   (try simp only[Act.put,List.setIfInBounds_toArray,bzS,List.set_cons_succ]);refine b6 (v:= ?_) 12 39 rfl rfl (by kernel_rfl) (fun _ _ _ h=>h) (by rfl) b ?_ ?_;rotate_left;focus (intro w a;(try dsimp only at a);go_simp;(try with_reducible rfl);done)
   (try simp only[Act.put,List.setIfInBounds_toArray,bzS,List.set_cons_succ]);refine b6 (v:= ?_) 13 40 rfl rfl (by kernel_rfl) (fun _ _ _ h=>h) (by rfl) b ?_ ?_;rotate_left;focus (intro w a;(try dsimp only at a);go_simp;(try with_reducible rfl);done)
   (try simp only[Act.put,List.setIfInBounds_toArray,bzS,List.set_cons_succ]);refine b6 (v:= ?_) 14 41 rfl rfl (by kernel_rfl) (fun _ _ _ h=>h) (by rfl) b ?_ ?_;rotate_left;focus (intro w a;(try dsimp only at a);go_simp;(try with_reducible rfl);done)
   (try simp only[Act.put,List.setIfInBounds_toArray,bzS,List.set_cons_succ]);refine b6 (v:= ?_) 15 42 rfl rfl (by kernel_rfl) (fun _ _ _ h=>h) (by rfl) b ?_ ?_;rotate_left;focus (intro w a;(try dsimp only at a);go_simp;(try with_reducible rfl);done)
   (try simp only[Act.put,List.setIfInBounds_toArray,bzS,List.set_cons_succ]);refine b6 (v:= ?_) 16 43 rfl rfl (by kernel_rfl) (fun _ _ _ h=>h) (by rfl) b ?_ ?_;rotate_left;focus (intro w a;(try dsimp only at a);go_simp;(try with_reducible rfl);done)
   (try simp only[Act.put,List.setIfInBounds_toArray,bzS,List.set_cons_succ]);refine b6 (v:= ?_) 17 44 rfl rfl (by kernel_rfl) (fun _ _ _ h=>h) (by rfl) b ?_ ?_;rotate_left;focus (intro w a;(try dsimp only at a);go_simp;(try with_reducible rfl);done)
   (try simp only[Act.put,List.setIfInBounds_toArray,bzS,List.set_cons_succ]);refine b6 (v:= ?_) 18 45 rfl rfl (by kernel_rfl) (fun _ _ _ h=>h) (by rfl) b ?_ ?_;rotate_left;focus (intro w a;(try dsimp only at a);go_simp;(try with_reducible rfl);done)
   (try simp only[Act.put,List.setIfInBounds_toArray,bzS,List.set_cons_succ]);refine b6 (v:= ?_) 19 46 rfl rfl (by kernel_rfl) (fun _ _ _ h=>h) (by rfl) b ?_ ?_;rotate_left;focus (intro w a;(try dsimp only at a);go_simp;(try with_reducible rfl);done)
   (try simp only[Act.put,List.setIfInBounds_toArray,bzS,List.set_cons_succ]);refine b6 (v:= ?_) 20 47 rfl rfl (by kernel_rfl) (fun _ _ _ h=>h) (by rfl) b ?_ ?_;rotate_left;focus (intro w a;(try dsimp only at a);go_simp;(try with_reducible rfl);done)
   (try simp only[Act.put,List.setIfInBounds_toArray,bzS,List.set_cons_succ]);refine b6 (v:= ?_) 21 48 rfl rfl (by kernel_rfl) (fun _ _ _ h=>h) (by rfl) b ?_ ?_;rotate_left;focus (intro w a;(try dsimp only at a);go_simp;(try with_reducible rfl);done)
   (try simp only[Act.put,List.setIfInBounds_toArray,bzS,List.set_cons_succ]);refine b6 (v:= ?_) 22 49 rfl rfl (by kernel_rfl) (fun _ _ _ h=>h) (by rfl) b ?_ ?_;rotate_left;focus (intro w a;(try dsimp only at a);go_simp;(try with_reducible rfl);done)
   (try simp only[Act.put,List.setIfInBounds_toArray,bzS,List.set_cons_succ]);refine b6 (v:= ?_) 23 50 rfl rfl (by kernel_rfl) (fun _ _ _ h=>h) (by rfl) b ?_ ?_;rotate_left;focus (intro w a;(try dsimp only at a);go_simp;(try with_reducible rfl);done)
   (try simp only[Act.put,List.setIfInBounds_toArray,bzS,List.set_cons_succ]);refine b6 (v:= ?_) 24 51 rfl rfl (by kernel_rfl) (fun _ _ _ h=>h) (by rfl) b ?_ ?_;rotate_left;focus (intro w a;(try dsimp only at a);go_simp;(try with_reducible rfl);done)
   (try simp only[Act.put,List.setIfInBounds_toArray,bzS,List.set_cons_succ]);refine b6 (v:= ?_) 25 52 rfl rfl (by kernel_rfl) (fun _ _ _ h=>h) (by rfl) b ?_ ?_;rotate_left;focus (intro w a;(try dsimp only at a);go_simp;(try with_reducible rfl);done)
   (try simp only[Act.put,List.setIfInBounds_toArray,bzS,List.set_cons_succ]);refine wpAnyH_ready (rs:=[26]) (by kernel_rfl) (by simp) (AllReadyH.cons (o:=_) rfl (fun K L=> ?_) AllReadyH.nil);go_simp;(go_at_call 29;refine(V _ (N.be (aG i.1.size i).drew) (O.be (aG i.1.size i).drew)).mono ?_;rintro e4 w4 ⟨rfl,U⟩;have f:Below i.1.size i w4:=(aG i.1.size i).drew.trans (U.mono aE));go_wp2_with fail;refine L.out _ _ (by(try dsimp only);(exact⟨(X.be f).k2,(Y.be f).k2,(f.cell (p:=⟨l,_,none⟩) P).trans C,(f.cell (p:=⟨l,_,none⟩) P).trans D,(f.cell (p:=⟨m,_,none⟩) Q).trans E,(f.cell (p:=⟨m,_,none⟩) Q).trans F⟩)) (fun b=> ?_);clear L K;(try simp only[Act.put,List.setIfInBounds_toArray,bzS,List.set_cons_succ]);refine b6 (v:= ?_) 27 54 rfl rfl (by kernel_rfl) (fun _ _ _ h=>h) (by rfl) b ?_ ?_;rotate_left;focus (intro w a;(try dsimp only at a);go_simp;(try with_reducible rfl);done)
   (try simp only[Act.put,List.setIfInBounds_toArray,bzS,List.set_cons_succ]);refine b6 (v:= ?_) 28 55 rfl rfl (by kernel_rfl) (fun _ _ _ h=>h) (by rfl) b ?_ ?_;rotate_left;focus (intro w a;(try dsimp only at a);go_simp;(try with_reducible rfl);done)
   (try simp only[Act.put,List.setIfInBounds_toArray,bzS,List.set_cons_succ]);refine wpAnyH_done (by kernel_rfl) ?_ _;refine NoPanic.normal ?_;go_wp2;go_roundg k
   case rel=>exact⟨j+1,by have:=r.out;unfold Hid;omega,by go_num,X.be f,Y.be f,aC g f⟩
   case measure=>omega
def fyU(vars:Int)(ts:List Te)(v:Value)(n w:World)(hv:TesAt n v ts)(G:Below n.1.size n w)(S:PolyOk vars ts):
  Calls prog 21 #[.agg #[.int .i64 vars,v]] w (ez8 n w vars (gV ts) (tN vars ts)):=by
 obtain⟨A,c,rfl,hc⟩:=hv.form;have aj:=S;have OK:=aB aj;have C:=fun W h hl=>fzQ vars ts (.slice A ts.length c) n W hv h OK.out hl;have ao:=S.len;clear S aj;obtain⟨u,L⟩:∃u,decide (ts.length<=4096)=u:=⟨_,rfl⟩;obtain⟨E,H⟩:∃E,(decide (0<=vars∧vars<=6)&&I5 vars ts)=E:=⟨_,rfl⟩;obtain⟨o,K⟩:∃o,ezF ts=o:=⟨_,rfl⟩;have hp:tN vars ts=(u&&(E&&o)):=by rw[<-L,<-H,<-K,Bool.and_assoc];rfl
 rw[hp];rw[H] at C;have Z:=aB L;have am:=aB H;have Y:=aB K;clear hp L H K;obtain⟨W,F,d,X,R⟩:=DA w [.int .i64 vars,.slice A ts.length c] 24 [.int .i64 0,.slice none 0 0] 53;have cM:=aa X.g2 R.g2;unfold ez8 at C;by_cases h4:4096<ts.length
 ·have y:decide (ts.length<=4096)=false:=decide_eq_false (by omega);obtain rfl:false=u:=y.symm.trans Z.out;have q0:(4096:Int)<(ts.length:Int):=by omega
  clear y C;go_enter func21,ntmps21;go_wp2_with fail;(try rw[F]);clear F;obtain⟨p,i,f,j, -, -⟩:=R.st2 d (Nat.le_succ _) (fun k z e=>by cases e) (.int .i64 0) (.slice none 0 0);rw[i];exact aM (v:= .tuple #[.agg #[.int .i64 0,.slice none 0 0],.bool false]) (by simp[results,results21,go_sem,f.k2]) rfl ⟨_,_,_,_,rfl,(fun e=>Bool.noConfusion (show false=true from e)),j⟩
 have y:decide (ts.length<=4096)=true:=decide_eq_true (by omega);obtain rfl:true=u:=y.symm.trans Z.out;have q0:¬(4096:Int)<(ts.length:Int):=by omega
 clear y;go_enter func21,ntmps21;go_wp2_with fail;(try rw[F]);clear F;refine(C _ (aC G d) (by omega)).mono ?_;rintro e1 w1 ⟨x,D,a,l,rfl,al,ae⟩;obtain⟨w2,q,af,O⟩:=bI w1 [.int .i64 x,.slice D a l] 53;have J:=aC ae af;have an:w.1.size+1<W.1.size:=R.lt;replace X:=X.be J;replace R:=R.be J;replace d:=aC d J;have ac:=aB al;have cM:=aa R.g2 O.g2;clear C al;cases E with
 |false=>
  go_wp2_with fail;(try rw[q]);(try clear q);obtain⟨p,i,f,j, -, -⟩:=R.st2 d (Nat.le_succ _) (fun k z e=>by cases e) (.int .i64 0) (.slice none 0 0);rw[i];exact aM (v:= .tuple #[.agg #[.int .i64 0,.slice none 0 0],.bool false]) (by simp[results,results21,go_sem,f.k2]) rfl ⟨_,_,_,_,rfl,(fun e=>Bool.noConfusion (show false=true from e)),j⟩
 |true=>
  obtain⟨rfl,hr⟩:=ac.out rfl;have I:=hr.be af;obtain⟨A2,c2,ad, -⟩:=hr.form;have ai:a=ts.length:=by
   injection ad with e3 e4 e5;rw[e4];unfold gV;rw[cH]
  have ab:=aB ai;have ag:=I.lt;clear ad ai ac;by_cases m:ts=[]
  ·obtain rfl:true=o:=by rw[<-Y.out,m];rfl
   have z1:¬(0:Int)<(a:Int):=by have:=ab.out;rw[m] at this;simp at this;omega
   have z2:¬0<a:=by omega
   have HH:=aB m;clear m;go_wp2_with fail;(try rw[q]);(try clear q);obtain⟨p,i,f,j,P,N⟩:=R.st2 d (Nat.le_succ _) (fun k z e=>by cases e) (.int .i64 x) (.slice D a l);rw[i];have Q:RowT n p w.1.size (.slice D a l) (gV ts):=by
    obtain⟨V,T,U⟩:=I.kept P (fun g e=>N g (by have:=(ag g e).1;omega));exact⟨V,T.lower (by omega),U⟩
   exact aM (v:= .tuple #[.agg #[.int .i64 x,.slice D a l],.bool true]) (by simp[results,results21,go_sem,f.k2]) rfl ⟨_,_,_,_,rfl,fun _=>⟨rfl,Q⟩,j⟩
  ·obtain⟨t,s⟩:∃t,ts[0]? =some t:=by
    cases ts with
    |nil=>exact absurd rfl m
    |cons t r=>exact⟨t,rfl⟩
   have hh:decide (0<=gX t.2)=o:=by
    rw[<-Y.out];cases ts with
    |nil=>exact absurd rfl m
    |cons t' r=>simp at s;subst s;rfl
   have z2:0<a:=by
    have:=ab.out;have:=(List.getElem?_eq_some_iff.1 s).1;omega
   have z1:(0:Int)<(a:Int):=by omega
   have ak:(gV ts)[0]? =some ((cG t.1).getD 0,t.2):=by unfold gV;rw[iK,s];rfl
   obtain⟨b,s3,A3,k3,c3,s4,A4,k4,c4,A5,c5,rfl, -,lb,M, -,B⟩:=I.at_ ak;replace M:=M.2.2.2.2;rw[azW,bA] at M;replace B:=B.be (aC G d);have ah:=fun W B=>fqM t.2 (.slice A5 t.2.length c5) W B (OK.out.ex t (dG s));rw[hh] at ah;clear hh s ak m;go_wp2_with fail;(try rw[q]);(try clear q);refine(ah _ B).mono ?_;rintro e3 w3 ⟨rfl,rfl⟩;cases o with
   |false=>
    go_wp2_with fail;obtain⟨p,i,f,j, -, -⟩:=R.st2 d (Nat.le_succ _) (fun k z e=>by cases e) (.int .i64 0) (.slice none 0 0);rw[i];exact aM (v:= .tuple #[.agg #[.int .i64 0,.slice none 0 0],.bool false]) (by simp[results,results21,go_sem,f.k2]) rfl ⟨_,_,_,_,rfl,(fun e=>Bool.noConfusion (show false=true from e)),j⟩
   |true=>
    go_wp2_with fail;obtain⟨p,i,f,j,P,N⟩:=R.st2 d (Nat.le_succ _) (fun k z e=>by cases e) (.int .i64 x) (.slice (some ⟨b,0,none⟩) a l);rw[i];have Q:RowT n p w.1.size (.slice (some ⟨b,0,none⟩) a l) (gV ts):=by
     obtain⟨V,T,U⟩:=I.kept P (fun g e=>N g (by have:=(ag g e).1;omega));exact⟨V,T.lower (by omega),U⟩
    exact aM (v:= .tuple #[.agg #[.int .i64 x,.slice (some ⟨b,0,none⟩) a l],.bool true]) (by simp[results,results21,go_sem,f.k2]) rfl ⟨_,_,_,_,rfl,fun _=>⟨rfl,Q⟩,j⟩
def gyT(vars:Int)(ts:List Te)(v:Value)(w:World)(hv:TesAt w v ts)(k:PolyOk vars ts):
  Calls prog 13 #[.agg #[.int .i64 vars,v]] w fun e w'=>e= .returned (.bool (tN vars ts))∧Below w.1.size w w':=by
 have h:=fun W h=>fyU vars ts v w W hv h k;obtain⟨A,c,rfl,n⟩:=hv.form;obtain⟨W,b,a,X⟩:=bI w [.int .i64 vars,.slice A ts.length c] 24;have l:=X.g2;unfold ez8 at h;generalize tN vars ts=V at *;go_enter func13,ntmps13;go_wp2_with fail;(try rw[b]);clear b;refine(h _ a).mono ?_;rintro m o ⟨x,f,j,g,rfl, -,d⟩;have i:=((aC a d).alloc (aC a d).size (.cells #[.int .i64 x,.slice f j g] 53));go_wp2;go_ret;exact⟨rfl,i⟩
def gyU(vars:Int)(ts:List Te)(u:World)(B:Nat)(A:Option Addr)(n c:Nat)(w:World)(D:RowT u w B (.slice A n c) (gV ts))(y:Below u.1.size u w)(g:PV vars ts):
  Calls prog 22 #[.agg #[.int .i64 vars,.slice A n c]] w fun e w'=>e= .returned (.int .i64 (sF ts))∧Below w.1.size w w':=by
 obtain⟨W,h,i,X⟩:=bI w [.int .i64 vars,.slice A n c] 53;have cM:=X.g2;have l:n=ts.length:=by
  obtain⟨P,Y,H, -⟩:=D.form;injection H with e3 e4 e5;rw[e4];unfold gV;rw[cH]
 have T:=aB l;by_cases d:ts=[]
 ·have f:sF ts= -1:=by rw[d];rfl
  rw[f];have O:((n:Int)==0)=true:=by rw[l,d];rfl
  clear l f d;go_enter func22,ntmps22;go_wp2_with fail;(try rw[h]);clear h;go_ret;exact⟨rfl,i⟩
 ·obtain⟨t,a⟩:∃t,ts[0]? =some t:=by
   cases ts with
   |nil=>exact absurd rfl d
   |cons t r=>exact⟨t,rfl⟩
  have f:sF ts=cF t.2:=by
   cases ts with
   |nil=>exact absurd rfl d
   |cons t' r=>
    simp at a;subst a;exact(ezE (g.top _ rfl)).1
  have q:=dG a;have J:(t.2.length:Int)=vars:=(g.ok t q).2.1;have z:Ex t.2:=⟨by have:=g.v6;omega,(g.ok t q).2.2⟩;have h6:=g.v6;rw[f];subst J;have z2:0<n:=by
   have:=(List.getElem?_eq_some_iff.1 a).1;omega
  have O:((n:Int)==0)=false:=by rw[beq_eq_false_iff_ne];omega
  have z3:(0:Int)<(n:Int):=by omega
  have F:(gV ts)[0]? =some ((cG t.1).getD 0,t.2):=by unfold gV;rw[iK,a];rfl
  obtain⟨b,s3,Q,k3,Z,s4,R,k4,c4,S,c5,rfl, -,lb,p, -,s⟩:=(D.be i).at_ F;replace p:=p.2.2.2.2;rw[azW,bA] at p;replace s:=s.be (aC y i);have v:=aB z;have U:=aB a;clear l f d a q z F;go_enter func22,ntmps22;go_wp2_with fail;(try rw[h]);clear h;go_loopg [3,4] t.2.length (fun k N M wr=>∃j:Nat,Hid (j+k=t.2.length)∧N= .int .i64 (cF (t.2.take j))∧M= .int .i64 j∧W=wr)
  case atStart=>exact⟨0,by unfold Hid;omega,rfl,rfl,rfl⟩
  case round=>
   obtain⟨j,o,rfl,rfl,rfl⟩:=hrel;have ac:(0:Int)<=(j:Int):=by omega
   obtain⟨s1,s2⟩:=v.out.sum j;cases gk with
   |zero=>
    have C:j=t.2.length:=o.out;have K:Hid (cF (t.2.take j)=cF t.2):=by unfold Hid;rw[C,aq9]
    generalize cF (t.2.take j)=L at *;subst C;go_wp2;go_ret;rw[<-K.out];exact⟨rfl,i⟩
   |succ k=>
    have I:j<t.2.length:=by have:=o.out;omega
    have q2:(j:Int)<(t.2.length:Int):=by omega
    obtain⟨x,m⟩:∃x,t.2[j]? =some x:=⟨_,aR I⟩;obtain⟨V,ou,rfl,lu,ab⟩:=s.at_ m;obtain⟨x1,x2⟩:=v.out.2 x (dG m);have E:=Y8 m;have G:=aB E;clear E m;generalize cF (t.2.take j)=L at *;go_wp2;go_roundg k
    case rel=>exact⟨j+1,by have:=o.out;unfold Hid;omega,by rw[G.out],by go_num,rfl⟩
    case measure=>omega
def gyP{α:Type}{z:α}{n:Nat}{ts:List (α×List Int)}{x:α}(h:x∈gH z i n ts):x=z∨∃t∈ts,x=t.1:=by
 unfold gH at h;suffices hh:∀l:List α,x∈ts.foldl (fun r t=>r.set (t.2.getD i 0).toNat t.1) l->x∈l∨∃t∈ts,x=t.1 by
  rcases hh _ h with h|h
  ·exact .inl (byK h)
  ·exact .inr h
 clear h;induction ts with
 |nil=>intro l h;exact .inl h
 |cons t r c=>
  intro l h;rcases c _ h with h|⟨u,a,b⟩
  ·rcases bz8 h with h|h
   ·exact .inl h
   ·exact .inr ⟨t,by simp,h⟩
  ·exact .inr ⟨u,by simp[a],b⟩
def gyQ{ts:List Te}(h:PV vars ts):(gV ts).map (fun t=>(cW t.1,t.2))=ts:=by
 unfold gV;rw[List.map_map];refine(by3 fun t b=> ?_).trans (List.map_id _);obtain⟨q,a, -⟩:=(h.ok t b).1;show(cW ((cG t.1).getD 0),t.2)=t
 rw[a];show(cW q,t.2)=t
 rw[tL a]
def gyR{ts:List Te}(h:PV vars ts)(i n:Nat):(gH 0 i n (gV ts)).map cW=gH [48] i n ts:=by
 rw[fxX,gyQ h,dxV]
def fyT{ts:List Te}{t:Te}(h:ts[j]? =some t):(gV ts)[j]? =some ((cG t.1).getD 0,t.2):=by
 unfold gV;rw[iK,h];rfl
def gyS(vars:Int)(ts:List Te)(i:Int)(v:Value)(w:World)(hv:TesAt w v ts)(L:PolyOk vars ts)(hi:i64 i):
  Calls prog 8 #[.agg #[.int .i64 vars,v],.int .i64 i] w (eyY w (lB vars ts i).1 (lB vars ts i).2):=by
 have P:=fun W h=>fyU vars ts v w W hv h L;obtain⟨b7,b8⟩:=L.v;obtain⟨i1,i2⟩:=hi;have b5:=L.len;obtain⟨A,c,rfl,hc⟩:=hv.form;obtain⟨W,S,f,X⟩:=bI w [.int .i64 vars,.slice A ts.length c] 24;have cM:=X.g2;unfold eyY;unfold ez8 at P;cases o:tN vars ts with
 |false=>
  have e:lB vars ts i=([],1):=by unfold lB;rw[if_pos o]
  rw[e];rw[o] at P;clear o e L;go_enter func8,ntmps8;go_wp2_with fail;(try rw[S]);clear S;refine(P _ f).mono ?_;rintro e1 R ⟨x,C,Z,D,rfl, -,J⟩;have U:=(aC f J).alloc (aC f J).size (.cells #[.int .i64 x,.slice C Z D] 53);go_wp2;go_ret2;exact⟨_,rfl,StrsAt.nil _ _ _,U⟩
 |true=>
  rw[o] at P;by_cases F:i<0∨vars<=i
  ·have e:lB vars ts i=([],3):=by unfold lB;rw[if_neg (by rw[o];decide),if_pos F]
   rw[e];clear o e L;go_enter func8,ntmps8;go_wp2_with fail;(try rw[S]);clear S;refine(P _ f).mono ?_;rintro e1 R ⟨x,C,Z,D,rfl,K,J⟩;obtain⟨rfl, -⟩:=K trivial;obtain⟨w2,M,U,O⟩:=bI R [.int .i64 x,.slice C Z D] 53;have ap:=f.trans ((aC J U).mono f.size);have cO:=O.g2;clear K;by_cases r1:i<0
   ·clear F;go_wp2_with fail;(try rw[M]);(try clear M);go_ret2;exact⟨_,rfl,StrsAt.nil _ _ _,ap⟩
   ·have r2:x<=i:=by omega
    clear F;go_wp2_with fail;(try rw[M]);(try clear M);go_ret2;exact⟨_,rfl,StrsAt.nil _ _ _,ap⟩
  ·obtain⟨m,rfl⟩:∃m:Nat,i=(m:Int):=⟨i.toNat,by omega⟩;have hm:(m:Int)<vars:=by omega
   have a8:=fx5 o;have Y:=ezJ.1 o;obtain⟨N,hN⟩:∃N:Nat,sF ts+1=(N:Int):=⟨(sF ts+1).toNat,by omega⟩;have br:N<=25:=by omega
   have f1:(∀t∈ts,pB m t.2=true)->lB vars ts m=(gH [48] m N ts,0):=fun h=>by
    unfold lB;rw[if_neg (by rw[o];decide),if_neg F,if_neg (by rw[Bool.not_eq_false,List.all_eq_true];exact h),hN];rfl
   have f2:(∃t∈ts,pB m t.2=false)->lB vars ts m=([],8):=fun h=>by
    unfold lB;rw[if_neg (by rw[o];decide),if_neg F,if_pos (by rw[List.all_eq_false];obtain⟨t,h1,h2⟩:=h;exact⟨t,h1,by rw[j9,h2];decide⟩)]
   obtain⟨⟨L0,c0⟩,V⟩:∃p,lB vars ts m=p:=⟨_,rfl⟩;have K:(∀t∈ts,pB m t.2=true)->L0=gH [48] m N ts∧c0=0:=fun h=>by
    have:=V.symm.trans (f1 h);injection this with h1 h2;exact⟨h1,h2⟩
   have av:(∃t∈ts,pB m t.2=false)->L0=[]∧c0=8:=fun h=>by
    have:=V.symm.trans (f2 h);injection this with h1 h2;exact⟨h1,h2⟩
   clear f1 f2;rw[V];have HY:=aB (And.intro K av);have ad:=aB Y;have bq:=aB L;have a1:=aB hN;have v6:=Y.v6;have aq:∀(W0 W:World) (B:Nat) (A:Option Addr) (n c:Nat),RowT W0 W B (.slice A n c) (gV ts)->Below W0.1.size W0 W->Calls prog 22 #[.agg #[.int .i64 vars,.slice A n c]] W fun e w'=>e= .returned (.int .i64 ((N:Int)-1))∧Below W.1.size W w':=fun W0 W B A n c h h'=>by
    rw[show(N:Int)-1=sF ts by omega];exact gyU vars ts W0 B A n c W h h' Y
   have b6:IntKind.i64.wrap ((N:Int)-1+1)=(N:Int):=by
    rw[show(N:Int)-1+1=(N:Int) by omega];exact IntWalk.i64_in _ ⟨by omega,by omega⟩
   have m1:¬(m:Int)<0:=by omega
   have m2:¬vars<=(m:Int):=by omega
   have m3:decide ((m:Int)<0)=false:=decide_eq_false m1;have m4:decide (vars<=(m:Int))=false:=decide_eq_false m2;have ay:∀W v,QsAt W v (gH 0 m N (gV ts))->Calls prog 23 #[v] W fun e w'=>∃v',e= .returned v'∧StrsAt w' v' (gH [48] m N ts)∧Below W.1.size W w':=fun W v h=>by
    have:=cqX (gH 0 m N (gV ts)) v W h 1 (fun q hq=>by
     rcases gyP hq with rfl|⟨t,s,rfl⟩
     ·exact iG (mC 1)
     ·unfold gV at s;obtain⟨u,E,rfl⟩:=List.mem_map.1 s;obtain⟨r,F, -⟩:=(Y.ok u E).1;show RL 1 ((cG u.1).getD 0)
      rw[F];exact L.one u E r F) (by decide) (by rw[U6];omega)
    rwa [gyR Y] at this
   clear K av Y L V hN o F a8;go_enter func8,ntmps8;go_wp2_with fail;(try rw[S]);clear S;refine(P _ f).mono ?_;rintro e1 R ⟨x,C,Z,D,rfl,K,J⟩;obtain⟨rfl,l⟩:=K trivial;obtain⟨w2,M,U,O⟩:=bI R [.int .i64 x,.slice C Z D] 53;have bg:Z=ts.length:=by
    obtain⟨A2,c2,a4, -⟩:=l.form;injection a4 with e3 e4 e5;rw[e4];unfold gV;rw[cH]
   subst bg;replace l:=l.be U;have ai:∀g,(Value.slice C ts.length D).ownBlock=some g->g<w2.1.size:=fun g e=>(l.lt g e).2;replace f:=f.trans ((aC J U).mono f.size);have cO:=O.g2;clear K P X cM;go_wp2_with fail;(try rw[M]);(try clear M);refine(aq _ _ _ _ _ _ l f).mono ?_;rintro e3 G ⟨rfl,ae⟩;replace O:=O.be ae;replace l:=l.be ae;replace f:=aC f ae;have a9:=f.size;replace ai:∀g,(Value.slice C ts.length D).ownBlock=some g->g<G.1.size:=fun g e=>aZ (ai g e) ae.size;have cO:=O.g2;clear aq;go_wp2_with (at_make;refine jT rfl rfl 62 _ 4 64 underlying56 sJ rfl (by decide) N rfl rfl (by first|rfl|omega) (by first|rfl|omega) (by omega) (by omega) ?_;intro w4 bp ax af;have O4:=O.be af;have a3:=O4.g2);have Q0:=OwnQ.made ax;replace l:=l.be af;replace f:=aC f af;have b2:R.1.size<G.1.size:=O.lt;have ao:∀g,(Value.slice C ts.length D).ownBlock=some g->g≠G.1.size:=fun g e=>by
    have:=ai g e;omega
   have an:OwnQ w4 G.1.size (gH 0 m N ((gV ts).take 0)):=Q0;have bn:w.1.size<=G.1.size:=a9;clear ax bp af Q0 cO O;go_wp2_with fail;go_loopg [9] ts.length (fun k vi wr=>∃j:Nat,Hid (j+k=ts.length)∧vi= .int .i64 j∧OwnQ wr G.1.size (gH 0 m N ((gV ts).take j))∧RowT w wr W.1.size (.slice C ts.length D) (gV ts)∧Hid (∀t∈ts.take j,pB m t.2=true)∧Bx wr R.1.size [.int .i64 x,.slice C ts.length D] 53∧Below w.1.size w wr)
   case atStart=>exact⟨0,by unfold Hid;omega,rfl,an,l,fun t s=>by simp at s,O4,f⟩
   case round=>
    clear an l O4 f a3;obtain⟨j,HJ,rfl,T,l,HP,O,f⟩:=hrel;generalize wr=wy at *;have cO:=O.g2;have b3:(0:Int)<=(j:Int):=by omega
    cases gk with
    |zero=>
     have hj:j=ts.length:=HJ.out;obtain⟨rfl,rfl⟩:=HY.out.1 (fun t s=>HP.out t (by rw[hj,aq9];exact s));have hq:QsAt wy (.slice (some ⟨G.1.size,0,none⟩) N N) (gH 0 m N (gV ts)):=by
      rw[hj,cZ (by unfold gV;rw[cH];exact aE)] at T;have:=T.nums N (by rw[U6];exact aE);rwa [U6] at this
     have bm:=ay wy _ hq;subst hj;clear T ay;go_wp2_with fail;refine bm.mono ?_;rintro e5 w5 ⟨v5,rfl,h5,a6⟩;go_wp2;go_ret2;exact⟨_,rfl,h5,aC f a6⟩
    |succ k=>
     have bf:j<ts.length:=by have:=HJ.out;omega
     have q1:(j:Int)<(ts.length:Int):=by omega
     obtain⟨t,s⟩:∃t,ts[j]? =some t:=⟨_,aR bf⟩;have ag:=dG s;obtain⟨b,s1,B1,k1,d1,s2,B2,k2,d2,B3,d3,eA, -,lb,ba,bh,E⟩:=l.at_ (fyT s);replace E:=E.be f;have bo:(t.2.length:Int)=x:=(ad.out.ok t ag).2.1;have aj:Ex t.2:=⟨by omega,(ad.out.ok t ag).2.2⟩;obtain⟨y,hy⟩:∃y,t.2[m]? =some y:=⟨_,aR (by omega)⟩;obtain⟨bu,ou,rfl,lu,cy⟩:=E.at_ hy;have az:=getD_some hy;have bk:(∃d:Nat,cF t.2=(d:Int)∧d<N):=by
      obtain⟨u,ab⟩:∃u,ts[0]? =some u:=⟨_,aR (by omega)⟩;have hs:=ad.out.sum s ab;have hd:=ezE (ad.out.top u ab);have hq:sF ts=gX u.2:=by
       cases ts with
       |nil=>simp at ab
       |cons a r=>simp at ab;subst ab;rfl
      have:=a1.out;exact⟨(cF t.2).toNat,by omega,by omega⟩
     obtain⟨I,ar,bb⟩:=bk;have au:∀e∈t.2,0<=e:=fun e V=>(aj.2 e V).1;have aw:=fxV au m;have H:=aB (And.intro s (And.intro ag (And.intro az aw)));have al:=aB aj;have ah:=aB ar;have bw:=ba.2.2.2.2;have bv:b≠G.1.size:=ao b (by rw[eA];rfl);have b4:t.2.length<=6:=by omega
     subst eA;clear s ag az aw aj ar hy au;subst bo;go_wp2_with fail;go_loopg [10,11] t.2.length (fun k vd vi wr=>∃a:Nat,Hid (a+k=t.2.length)∧vd= .int .i64 (cF (t.2.take a))∧vi= .int .i64 a∧wy=wr)
     case atStart=>exact⟨0,by unfold Hid;omega,rfl,rfl,rfl⟩
     case round=>
      obtain⟨a,HA,rfl,rfl,rfl⟩:=hrel;have bt:(0:Int)<=(a:Int):=by omega
      obtain⟨s3,s4⟩:=al.out.sum a;cases gk with
      |succ k2=>
       have a5:a<t.2.length:=by have:=HA.out;omega
       have q2:(a:Int)<(t.2.length:Int):=by omega
       obtain⟨z,hz⟩:∃z,t.2[a]? =some z:=⟨_,aR a5⟩;obtain⟨bz,oz,ez,lz,cz⟩:=E.at_ hz;injection ez with ez;injection ez with ez1 ez2;subst ez1 ez2;obtain⟨z1,z2⟩:=al.out.2 z (dG hz);have Q:=Y8 hz;have a2:=aB Q;clear Q hz;generalize cF (t.2.take a)=sv at *;go_wp2;go_roundg k2
       case rel=>exact⟨a+1,by have:=HA.out;unfold Hid;omega,by rw[a2.out],by go_num,rfl⟩
       case measure=>omega
      |zero=>
       have ha:a=t.2.length:=HA.out;have hs:cF (t.2.take a)=(I:Int):=by rw[ha,aq9];exact ah.out
       rw[hs];clear hs s3 s4;subst ha;have bx:(0:Int)<=(I:Int):=by omega
       have b0:(I:Int)<(N:Int):=by omega
       by_cases ac:y=(I:Int)
       ·have z1:(y != (I:Int))=false:=by rw[ac];exact bne_self_eq_false _
        have am:=aB ac;have ak:I<(gH 0 m N ((gV ts).take j)).length:=by rw[U6];exact bb
        obtain⟨s5,B5,k5,d5,s6,B6,k6,d6,bs, -⟩:=T.at_ (aR ak);have bc:=T.free;have b1:∀j,wy.frozen? ⟨G.1.size,j,none⟩=false:=bc;have a0:=aB ak;clear ac ak;go_wp2_with fail;obtain⟨o,Q⟩:=T.stored a0.out bh;have bi:(gH 0 m N ((gV ts).take j)).set I ((cG t.1).getD 0)=gH 0 m N ((gV ts).take (j+1)):=by
         rw[fxW (fyT H.out.1),H.out.2.2.1,am.out];rfl
        rw[bi] at o;have bj:pB m t.2=true:=ezK.2 (H.out.2.2.2.2 (by rw[H.out.2.2.1,am.out,ah.out]));have O9:=(Q.2.2.1 R.1.size (by omega)).trans O;have R9:=l.kept (K32.km Q.1) (fun g e=>Q.2.2.1 g (ao g e));have a7:=jD f Q.2 bn;go_roundg k
        case rel=>exact⟨j+1,by have:=HJ.out;unfold Hid;omega,by go_num,o,R9,fun u E=>by
         rw[Q9,H.out.1,aqO] at E;rcases List.mem_append.1 E with h|h
         ·exact HP.out u h
         ·rw[List.mem_singleton.1 h];exact bj,O9,a7⟩
        case measure=>omega
       ·have z1:(y != (I:Int))=true:=bne_iff_ne.2 ac
        obtain⟨rfl,rfl⟩:=HY.out.2 ⟨t,H.out.2.1,by
         cases hpb:pB m t.2 with
         |false=>rfl
         |true=>
          have:=H.out.2.2.2.1 (ezK.1 hpb);rw[H.out.2.2.1,ah.out] at this;exact absurd this ac⟩
        go_wp2;go_ret2;exact⟨_,rfl,StrsAt.nil _ _ _,f⟩
def nG(a b:World)[u:Up (a.alloc Z0) b]:Bx b a.1.size [.bool false,.slice none 0 0] 77∧(C2 b a.1.size (.bool false) (.slice none 0 0)∧Fz b a.1.size)∧(∀o:Obj,C2 (b.alloc o) a.1.size (.bool false) (.slice none 0 0)∧Fz (b.alloc o) a.1.size)∧a.1.size≠b.1.size∧b.1.size≠a.1.size:=by
 have D:Bx b a.1.size [.bool false,.slice none 0 0] 77:=(Bx.newAt a [.bool false,.slice none 0 0] 77 a.1.size rfl).be u.out;exact⟨D,dd D⟩
section
variable {w w' w1 w2:World}{g g':Nat}{m n n':Int}{s:Bool}{A:Option Addr}{l c:Nat}
def ua{o:Obj}(h:Below w.1.size w w'):Below w.1.size w (w'.alloc o):=h.alloc h.size o
def ud(h:Below w.1.size w w'):Below w.1.size w w'.drew:=h.drew
def ut(h:Below w.1.size w w1)(k:Below w1.1.size w1 w2):Below w.1.size w w2:=aC h k
def us{o:Nat}(h:Below w.1.size w w')(a:w.1.size<=g):Below w.1.size w (w'.setCell ⟨g,o,none⟩ v):=h.setCell (p:=⟨g,o,none⟩) a v
def J9(h:IntAt w (.agg #[.bool s,.slice A l c]) n)(a:w.1.size=g):IntBx (w.alloc (.cells #[.bool s,.slice A l c] 77)) g n:=
 ⟨_,_,_,_,Bx.newAt w [.bool s,.slice A l c] 77 g a,h.ke (Keep.alloc _ _)⟩
def xC(h:IntAt w (.agg #[.bool s,.slice A l c]) n):IntBx (w.alloc (.cells #[.bool s,.slice A l c] 77)) w.1.size n:=J9 h rfl
def xE(h:IntBx w g m)(hn:IntAt w (.agg #[.bool s,.slice A l c]) n):IntBx ((w.setCell ⟨g,0,none⟩ (.bool s)).setCell ⟨g,1,none⟩ (.slice A l c)) g n:=(h.stored hn).1
def zb(D:Bx w g [.bool false,.slice none 0 0] 77):IntBx w g 0:=⟨_,_,_,_,D,IntAt.zero _⟩
def V4{a:World}(h:IntAt w (.agg #[.bool s,.slice A l c]) n)(b:Below a.1.size a w):IntBx (w.alloc (.cells #[.bool s,.slice A l c] 77)) w.1.size n∧Below a.1.size a (w.alloc (.cells #[.bool s,.slice A l c] 77)):=⟨xC h,ua b⟩
def V6{a:World}(I:IntBx w g m)(h:IntAt w (.agg #[.bool s,.slice A l c]) n)(d:Below a.1.size a w)(b:a.1.size<=g):
  IntBx ((w.setCell ⟨g,0,none⟩ (.bool s)).setCell ⟨g,1,none⟩ (.slice A l c)) g n∧Below a.1.size a ((w.setCell ⟨g,0,none⟩ (.bool s)).setCell ⟨g,1,none⟩ (.slice A l c)):=⟨xE I h,us (us d b) b⟩
end
def JO(n c:Nat)(A:Option Addr)(w:World)(hn:n<=1099511627776):Calls prog 75 #[.slice A n c] w fun e w'=>e= .returned (.int .i64 ((n:Int)-1))∧w'=w:=by
 go_enter func75,ntmps75;go_wp2;go_ret;exact⟨rfl,rfl⟩
def bC(l:List Int):Nat:=l.foldr (fun n g=>Nat.gcd g n.natAbs) 0
def JP:bC []=0:=rfl
def CK(n:Int)(l:List Int):bC (n :: l)=Nat.gcd (bC l) n.natAbs:=rfl
def WV(l:List Int)(i:Nat):bC l∣bC (l.drop i):=by
 induction l generalizing i with
 |nil=>simp
 |cons n l a=>
  cases i with
  |zero=>exact Nat.dvd_refl _
  |succ i=>rw[bz6];exact bzF (aqX _ _) (a i)
def CL(h:n∈l):(bC l:Int)∣n:=by
 induction l with
 |nil=>cases h
 |cons m l a=>
  rw[CK];rcases List.mem_cons.1 h with rfl|h
  ·exact Int.ofNat_dvd_left.2 (azU _ _)
  ·exact byF (Int.natCast_dvd_natCast.2 (aqX _ _)) (a h)
def JQ(h:bC l=0):∀n∈l,n=0:=fun n hn=>by
 have:=CL hn;rw[h] at this;exact Int.zero_dvd.1 this
def az4(h:∀n∈l,nl n.natAbs<=K):nl (bC l)<=K:=by
 induction l with
 |nil=>rw[JP,dO];exact dC _
 |cons m l b=>
  rw[CK];by_cases a:m.natAbs=0
  ·rw[a,bxN];exact b (fun n hn=>h n (j8 _ hn))
  ·exact aH (cK (aqY (bzI a) (azU _ _))) (h m (iC ..))
def WW(h:l[i]? =some n):Nat.gcd (bC (l.drop (i+1))) n.natAbs=bC (l.drop i):=by
 obtain⟨a,e⟩:=List.getElem?_eq_some_iff.1 h;rw[j5 a,e,CK]
def WX(a:List Int)(v:Value)(w:World)(L:Glob w)(hv:WholeAt w v a)(K:Nat)(U:∀n∈a,nl n.natAbs<=K)(V:5*K+4<=aJ)(hl:a.length<=1099511627776):
  Calls prog 72 #[v] w (dW w (bC a)):=by
 obtain⟨A,c,rfl,hc⟩:=hv.form;have ai:K<=17592186044416:=by unfold aJ at V;omega
 have R:Bx ((w.alloc (.cells #[.bool false,.slice none 0 0] 77)).alloc (.cells #[.bool false,.slice none 0 0] 77)) (w.1.size) [.bool false,.slice none 0 0] 77:=(Bx.newAt w [.bool false,.slice none 0 0] 77 (w.1.size) (by simp)).alloc (.cells #[.bool false,.slice none 0 0] 77);have C:Bx ((w.alloc (.cells #[.bool false,.slice none 0 0] 77)).alloc (.cells #[.bool false,.slice none 0 0] 77)) (w.1.size+1) [.bool false,.slice none 0 0] 77:=Bx.newAt (w.alloc (.cells #[.bool false,.slice none 0 0] 77)) [.bool false,.slice none 0 0] 77 (w.1.size+1) (by simp);have e:Below w.1.size w ((w.alloc (.cells #[.bool false,.slice none 0 0] 77)).alloc (.cells #[.bool false,.slice none 0 0] 77)):=((aG _ _).alloc (by simp) _).alloc (by simp<;>omega) _;go_enter func72,ntmps72;go_wp2_with fail;generalize (w.alloc (.cells #[.bool false,.slice none 0 0] 77)).alloc (.cells #[.bool false,.slice none 0 0] 77)=W at *;have T:IntBx W (w.1.size+1) 0:=⟨_,_,_,_,C,IntAt.zero _⟩;clear C;go_loopg [4] a.length (fun k i wr=>i= .int .i64 ((k:Int)-1)∧k<=a.length∧IntBx wr (w.1.size+1) (bC (a.drop k))∧Bx wr w.1.size [.bool false,.slice none 0 0] 77∧Below w.1.size w wr)
 case atStart=>exact⟨by go_num,aE,by rw[azY];exact T,R,e⟩
 case round=>
  clear T R e;obtain⟨rfl,an,⟨s,B,l,d,C,g⟩,R,e⟩:=hrel;generalize wr=wy at *;have ad:nl (bC (a.drop gk))<=K:=az4 (fun n hn=>U n (bxD hn));replace D:=C.cell 0 rfl;replace t:=C.free 0;replace E:=C.cell 1 rfl;replace x:=C.free 1;replace F:=R.cell 0 rfl;replace I:=R.free 0;replace H:=R.cell 1 rfl;replace J:=R.free 1;cases gk with
  |zero=>
   go_wp2_with fail;rw[azZ] at g;obtain⟨S,q, -,N,p⟩:=jU (s:=s) (u:= .slice B l d) e (by omega) R;have P:=g.ke p;generalize (wy.setCell ⟨w.1.size,0,none⟩ (.bool s)).setCell ⟨w.1.size,1,none⟩ (.slice B l d)=W6 at *;exact aM (v:= .agg #[.bool s,.slice B l d]) (by simp[results,results72,go_sem,S,q]) rfl ⟨_,rfl,P,N⟩
  |succ k=>
   obtain⟨n,hn⟩:∃n,a[k]? =some n:=⟨_,aR (by omega)⟩;have X:=WW hn;have ah:=U n (dG hn);have O:((bC (a.drop (k+1)):Nat):Int)=1->bC a=1:=fun h=>by
    have j:bC (a.drop (k+1))=1:=by omega
    have:=WV a (k+1);rw[j] at this;exact Nat.dvd_one.1 this
   have HN:=aB hn;have ac:=aB X;clear hn X;generalize bC (a.drop (k+1))=G at *;have al:(0:Int)<=(k:Int):=by omega
   go_wp2_with fail;refine(S3 _ _ _ g (by rw[dD];omega)).mono ?_;rintro e1 Q ⟨rfl,f⟩;by_cases j:(G:Int)=1
   ·have o:decide ((G:Int)=1)=true:=by simpa using j
    have HO:=aB (O j);rw[o];clear o O;replace g:=g.be f;replace C:=C.be f;replace D:=C.cell 0 rfl;replace t:=C.free 0;replace E:=C.cell 1 rfl;replace x:=C.free 1;replace R:=R.be f;replace F:=R.cell 0 rfl;replace I:=R.free 0;replace H:=R.cell 1 rfl;replace J:=R.free 1;replace p:=Keep.be f;replace e:=aC e f;go_wp2_with fail;have af:IntAt Q (.agg #[.bool s,.slice B l d]) (bC a:Int):=by rw[HO.out];rw[j] at g;exact g
    clear g;obtain⟨S,q, -,N,p⟩:=jU (s:=s) (u:= .slice B l d) e (by omega) R;have P:=af.ke p;generalize (Q.setCell ⟨w.1.size,0,none⟩ (.bool s)).setCell ⟨w.1.size,1,none⟩ (.slice B l d)=W6 at *;exact aM (v:= .agg #[.bool s,.slice B l d]) (by simp[results,results72,go_sem,S,q]) rfl ⟨_,rfl,P,N⟩
   ·have o:decide ((G:Int)=1)=false:=by simpa using j
    rw[o];clear o O j;replace g:=g.be f;replace C:=C.be f;replace D:=C.cell 0 rfl;replace t:=C.free 0;replace E:=C.cell 1 rfl;replace x:=C.free 1;replace R:=R.be f;replace F:=R.cell 0 rfl;replace I:=R.free 0;replace H:=R.cell 1 rfl;replace J:=R.free 1;replace p:=Keep.be f;replace e:=aC e f;obtain⟨b,s',B',l',d',rfl,aj,g0,g1,ae⟩:=(hv.be e).at_ HN.out;have ak:=e.size;have Z:=g.drew;have ag:=ae.drew;have z:IntBx Q.drew (w.1.size+1) (G:Int):=⟨_,_,_,_,C.drew,Z⟩;have m:=e.drew;have Rd:=R.drew;have Y:=fun W v u L j y=>qF (G:Int) n v u W L j y K (by rw[dD];exact ad) ah V;rw[dD,ac.out] at Y;have am:(k:Int)<(a.length:Int):=by omega
    clear t x F H I J R C f;go_wp2_with fail
    go_region_with (first
     |(go_at_call 97;refine(Y _ _ _ (L.be m) Z ag).mono ?_;rintro e2 w2 ⟨v2,rfl,y,M⟩;obtain⟨s2,A2,k2,c2,rfl⟩:=y.form;replace z:=z.be M;replace Rd:=Rd.be M;replace m:=aC m M;obtain⟨s9,B9,l9,d9,r, -⟩:=id z;have D:=r.cell 0 rfl;have E:=r.cell 1 rfl;have t:=r.free 0;have x:=r.free 1))
    all_goals (
     go_wp2_with fail;obtain⟨q,ab⟩:=z.stored y;have zR:Bx _ w.1.size [.bool false,.slice none 0 0] 77:=(ab.2.1 w.1.size (by omega)).trans Rd;have zb:=jD m ab (by omega);go_roundg k
     case rel=>exact⟨by go_num,by omega,q,zR,zb⟩
     case measure=>omega)
def jX(a:List Int)(x:Int):List Int:=a.map (fun n=>n.tdiv x)
def WY(b:List Int):jX b 1=b:=by
 unfold jX;exact(by3 (fun a _=>Int.tdiv_one a)).trans (List.map_id b)
def JR(a:List Int)(x:Int):(jX a x).length=a.length:=cH _
def WZ(n x:Int)(K:Nat)(h:nl n.natAbs<=K):nl (n.tdiv x).natAbs<=K:=by
 rw[Int.natAbs_tdiv];exact aH (cK (azK _ _)) h
def X0(h:∀n∈a,nl n.natAbs<=K):∀n∈jX a x,nl n.natAbs<=K:=fun n hn=>by
 unfold jX at hn;obtain⟨m,b,rfl⟩:=List.mem_map.1 hn;exact WZ m x K (h m b)
def cqV(m:List Int)(x:Int)(v vx:Value)(w:World)(hv:WholeAt w v m)(O:IntAt w vx x)(h0:m≠[]->x≠0)(K:Nat)(hK:∀n∈m,nl n.natAbs<=K)(aw:nl x.natAbs<=K)(an:5*K+4<=aJ)(hl:m.length<=1099511627776):
  Calls prog 78 #[v,vx] w fun e w'=>∃J,e= .returned J∧WholeAt w' J (jX m x)∧(J=v∨czQ w.1.size J)∧Below w.1.size w w':=by
 unfold aJ at an;obtain⟨A,c,rfl,hc⟩:=hv.form;obtain⟨t,p,r,q,rfl⟩:=O.form;have h:Bx (w.alloc (.cells #[.bool t,.slice p r q] 77)) (w.1.size) [.bool t,.slice p r q] 77:=Bx.newAt w [.bool t,.slice p r q] 77 (w.1.size) (by simp);have f:Below w.1.size w (w.alloc (.cells #[.bool t,.slice p r q] 77)):=(aG _ _).alloc (by simp) _;go_enter func78,ntmps78;go_wp2_with fail;generalize w.alloc (.cells #[.bool t,.slice p r q] 77)=W at *;refine(S3 x _ _ (O.be f) (by omega)).mono ?_;rintro e1 Q ⟨rfl,I⟩;replace h:=h.be I;replace af:=h.cell 0 rfl;replace ag:=h.cell 1 rfl;replace M:=Keep.be I;replace f:=aC f I;clear I;by_cases E:x=1
 ·have G:decide (x=1)=true:=by simpa using E
  rw[G];clear G;go_wp2;go_ret;rw[E,WY];exact⟨_,rfl,hv.be f,.inl rfl,f⟩
 ·have G:decide (x=1)=false:=by simpa using E
  rw[G];clear G E;have ad:=JR m x;have F:=aB ad;clear ad;go_wp2_with (at_make;refine jT rfl rfl 77 _ 2 32 underlying74 p6 rfl (by decide) m.length rfl rfl rfl rfl (by omega) (by omega) ?_;intro w2 aq Z C);have S:OwnW w2 Q.1.size (List.replicate m.length 0):=OwnW.made Z;have ax:=f.size;have am:w.1.size<Q.1.size:=h.lt;replace h:=h.be C;replace f:=aC f C;clear Z aq C;generalize hg:Q.1.size=g at *;clear hg;go_loopg [16] m.length (fun k i wr=>∃j,Hid (j+k=m.length)∧i= .int .i64 j∧OwnW wr g ((jX m x).take j++List.replicate k 0)∧Bx wr w.1.size [.bool t,.slice p r q] 77∧Below w.1.size w wr)
  case atStart=>exact⟨0,by unfold Hid;omega,rfl,by simpa using S,h,f⟩
  case round=>
   clear S h f;obtain⟨j,D,rfl,R,h,f⟩:=hrel;generalize wr=u at *;have az:(0:Int)<=(j:Int):=by omega
   cases gk with
   |zero=>
    have hj:j=m.length:=D.out;subst hj;rw[aq8,fH,cZ (by rw[F.out];exact aE)] at R;have hw:=R.whole m.length (by rw[F.out];exact aE);rw[F.out] at hw;go_wp2;go_ret;exact⟨_,rfl,hw,.inr fun a l c e=>by injection e with e _ _;injection e with e;rw[<-e];exact iE am,f⟩
   |succ k=>
    obtain⟨n,hn⟩:∃n,m[j]? =some n:=⟨_,aR (by have:=D.out;omega)⟩;obtain⟨b,s,B,l,d,rfl,ay,g0,g1,L⟩:=(hv.be f).at_ hn;have a1:=hK n (dG hn);have ap:x≠0:=h0 (fun e=>by rw[e] at hn;simp at hn);have a0:(j:Int)<(m.length:Int):=by have:=D.out;omega
    have ac:(jX m x)[j]? =some (n.tdiv x):=by unfold jX;rw[iK,hn];rfl
    have T:=rI (ys:=jX m x) (z:=(0:Int)) (j:=j) (k:=k+1) (by rw[F.out];exact D.out);have U:=rH (z:=(0:Int)) (k:=k) ac;have V:j<((jX m x).take j++List.replicate (k+1) 0).length:=by rw[T,F.out];have:=D.out;omega
    have al:=aB U;clear ac T U hn;have P:=O.be f;have N:=fun W E H=>mZ n x (.agg #[.bool s,.slice B l d]) (.agg #[.bool t,.slice p r q]) W E H ap (by omega);unfold dW at N;generalize n.tdiv x=y at *;have ah:∀o:Obj,(u.alloc o).cell? ⟨w.1.size,0,none⟩=some (.bool t):=fun o=>(h.alloc o).cell 0 rfl;have aj:∀o:Obj,(u.alloc o).frozen? ⟨w.1.size,0,none⟩=false:=fun o=>(h.alloc o).free 0;have ai:∀o:Obj,(u.alloc o).cell? ⟨w.1.size,1,none⟩=some (.slice p r q):=fun o=>(h.alloc o).cell 1 rfl;have ak:∀o:Obj,(u.alloc o).frozen? ⟨w.1.size,1,none⟩=false:=fun o=>(h.alloc o).free 1;go_wp2_with fail;replace R:=R.alloc (.cells #[.bool s,.slice B l d] 77);have ar:=h.lt;have a2:=f.size;replace h:=h.alloc (.cells #[.bool s,.slice B l d] 77);have X:=Bx.newAt u [.bool s,.slice B l d] 77 (u.1.size) (by simp);replace f:=f.alloc f.size (.cells #[.bool s,.slice B l d] 77);replace M:=Keep.alloc u (.cells #[.bool s,.slice B l d] 77);replace L:=L.ke M;replace P:=P.ke M;generalize u.alloc (.cells #[.bool s,.slice B l d] 77)=W1 at *;replace af:=h.cell 0 rfl;replace ag:=h.cell 1 rfl;replace au:=X.cell 0 rfl;replace av:=X.cell 1 rfl;clear ah ai aj ak g0 g1;refine(N _ L P).mono ?_;rintro e2 w2 ⟨v2,rfl,H,C⟩;obtain⟨s2,A2,k2,c2,rfl⟩:=H.form;replace R:=R.be C;replace h:=h.be C;replace f:=aC f C;obtain⟨s',B',l',d',q0,q1, -⟩:=R.at_ (aR V);have f0:=R.free (j*2);have f1:=R.free (j*2+1);clear N;go_wp2_with fail;obtain⟨Y,ab⟩:=R.stored V H;rw[al.out] at Y;have ae:Bx _ w.1.size [.bool t,.slice p r q] 77:=(ab.2.1 w.1.size (by omega)).trans h;have ao:=jD f ab (by omega);go_roundg k
    case rel=>exact⟨j+1,by have:=D.out;unfold Hid;omega,by go_num,Y,ae,ao⟩
    case measure=>omega
def dq4(a:List Int)(x:Int)(v c:Value)(w:World)(hv:WholeAt w v a)(m:IntAt w c x)(d:a≠[]->x≠0)(K:Nat)(i:∀n∈a,nl n.natAbs<=K)(k:nl x.natAbs<=K)(j:5*K+4<=aJ)(l:a.length<=1099511627776):
  Calls prog 78 #[v,c] w fun e w'=>∃b,e= .returned b∧WholeAt w' b (jX a x)∧Below w.1.size w w':=
 (cqV a x v c w hv m d K i k j l).mono fun _ _ ⟨b,f,g,_,h⟩=>⟨b,f,g,h⟩
def aS(a:List Int):List Int:=jX a (bC a)
def dF(a:List Int):(aS a).length=a.length:=JR _ _
def nI(h:aN b)(d:b≠[]):(bC b:Int)≠0:=fun e=>by
 obtain⟨a,c⟩:∃a,b.getLast?=some a:=⟨_,byP d⟩;exact h a c (JQ (by omega) a (List.mem_of_getLast? c))
def gU(h:∀n∈a,nl n.natAbs<=K):∀n∈aS a,nl n.natAbs<=K:=X0 h
def WS(a:List Int)(x:Int)(i:Nat):cf (jX a x) i=(cf a i).tdiv x:=mG (fun n:Int=>n.tdiv x) (Int.zero_tdiv x) a i
def WT(h:∀n∈a,x∣n)(i:Nat):x∣cf a i:=by
 by_cases b:i<a.length
 ·rw[fZ b];exact h _ (aq0 b)
 ·rw[bV (by omega)];exact Int.dvd_zero x
def lW(a:List Int)(i:Nat):cf (aS a) i*(bC a:Int)=cf a i:=by
 unfold aS;rw[WS];exact Int.tdiv_mul_cancel (WT (fun n hn=>CL hn) i)
def Y5{α:Type}[OfNat α 0]{l:List α}(f:l≠[]):aN l↔cf l (l.length-1)≠0:=by
 obtain⟨a,d⟩:∃a,l.getLast?=some a:=⟨_,byP f⟩;have e:=vJ d;constructor
 ·intro h;rw[e];exact h a d
 ·intro h b c;rw[d] at c;injection c with c;rw[<-c,<-e];exact h
def Q5(h:aN b):aN (aS b):=by
 by_cases c:b=[]
 ·rw[c];intro a f;simp[aS,jX] at f
 ·have d:aS b≠[]:=fun e=>c (bX (by rw[<-dF,e];rfl));rw[Y5 d,dF];intro e;have:=lW b (b.length-1);rw[e,bxB] at this;exact(Y5 c).1 h this.symm
def qQ(a:List Int)(v:Value)(w:World)(l:Glob w)(hv:WholeAt w v a)(o:aN a)(K:Nat)(b:∀n∈a,nl n.natAbs<=K)(g:5*K+4<=aJ)(h:a.length<=1099511627776):
  Calls prog 84 #[v] w fun e w'=>∃i,e= .returned i∧WholeAt w' i (aS a)∧Below w.1.size w w':=by
 obtain⟨A,c,rfl,t⟩:=hv.form;go_enter func84,ntmps84;go_wp2_with fail;refine(WX a _ _ l hv K b g h).mono ?_;rintro r B ⟨y,rfl,f,d⟩;obtain⟨x,p,u,q,rfl⟩:=f.form;go_wp2_with fail;refine(dq4 a (bC a) _ _ _ (hv.be d) f (fun j=>nI o j) K b (by rw[dD];exact az4 b) g h).mono ?_;rintro s C ⟨z,rfl,k,m⟩;go_wp2;go_ret;exact⟨_,rfl,k,aC d m⟩
def gzB(a:List Int)(v:Value)(w:World)(j:Glob w)(hv:WholeAt w v a)(h:a≠[])(K:Nat)(f:∀n∈a,nl n.natAbs<=K)(k:1<=K)(l:K<=1073741824)(o:a.length<=1073741824):
  Calls prog 38 #[v] w fun e w'=>∃g,e= .returned g∧StrsAt w' g ((tT a (cf a (a.length-1))).map cW)∧Below w.1.size w w':=by
 obtain⟨A,c,rfl,t⟩:=hv.form;go_enter func38,ntmps38;go_wp2_with fail;refine(ez4 a _ _ hv h (by omega)).mono ?_;rintro r B ⟨y,rfl,d,b⟩;obtain⟨x,p,u,q,rfl⟩:=d.form;go_wp2_with fail;refine(eqY a _ _ _ _ (j.be b) (hv.be b) d K f (iU f _) k l o).mono ?_;rintro s C ⟨z,rfl,i,m⟩;go_wp2;go_ret;exact⟨_,rfl,i,aC b m⟩
def bB(a:List Int):List Int:=(List.range (a.length-1)).map (fun i:Nat=>cf a (i+1)*((i:Int)+1))
def lZ(a:List Int):(bB a).length=a.length-1:=by unfold bB;rw[cH,bxZ]
def WU(a:List Int)(h:i<a.length-1):(bB a)[i]? =some (cf a (i+1)*((i:Int)+1)):=by
 unfold bB;rw[iK,byN h];rfl
def JN(a:List Int)(v:Value)(w:World)(hv:WholeAt w v a)(K:Nat)(hK:∀n∈a,nl n.natAbs<=K)(ac:K+2<=aJ)(hl:a.length<=1073741824):
  Calls prog 86 #[v] w fun e w'=>∃Y,e= .returned Y∧WholeAt w' Y (bB a)∧Below w.1.size w w':=by
 unfold aJ at ac;obtain⟨A,c,rfl,hc⟩:=hv.form;go_enter func86,ntmps86;by_cases q:a.length=0
 ·have X:((a.length:Int)==0)=true:=by rw[q];rfl
  have P:a=[]:=bX q;have HN:=aB P;clear P q;go_wp2;go_ret;rw[HN.out];exact⟨_,rfl,WholeAt.nil _ _ _,aG _ _⟩
 ·have X:((a.length:Int)==0)=false:=by rw[beq_eq_false_iff_ne];omega
  obtain⟨M,hM⟩:∃M,a.length=M+1:=⟨a.length-1,by omega⟩;have ag:(a.length:Int)-1=(M:Int):=by omega
  have V:(bB a).length=M:=by rw[lZ];omega
  have m:=aB V;clear V q;go_wp2_with (at_make;refine jT rfl rfl 77 _ 2 32 underlying74 p6 rfl (by decide) M rfl rfl (by first|rfl|omega) (by first|rfl|omega) (by omega) (by omega) ?_;intro Z af T o);have E:OwnW Z w.1.size (List.replicate M 0):=OwnW.made T;clear T af;go_loopg [14] M (fun k i wr=>∃j,Hid (j+k=M)∧i= .int .i64 j∧OwnW wr w.1.size ((bB a).take j++List.replicate k 0)∧Below w.1.size w wr)
  case atStart=>exact⟨0,by unfold Hid;omega,rfl,by simpa using E,o⟩
  case round=>
   clear E o;obtain⟨j,h,rfl,R,t⟩:=hrel;generalize wr=wy at *;have ah:(0:Int)<=(j:Int):=by omega
   cases gk with
   |zero=>
    have hj:j=M:=h.out;subst hj;rw[aq8,fH,cZ (by rw[m.out];exact aE)] at R;have U:=R.whole j (by rw[m.out];exact aE);rw[m.out] at U;go_wp2;go_ret;exact⟨_,rfl,U,t⟩
   |succ k=>
    have am:j<M:=by have:=h.out;omega
    obtain⟨n,hn⟩:∃n,a[j+1]? =some n:=⟨_,aR (by omega)⟩;obtain⟨b,s,B,l,d,rfl,x,F,G,N⟩:=(hv.be t).at_ hn;have ao:=hK n (dG hn);have H:cf a (j+1)=n:=rD hn;have ai:(j:Int)<(M:Int):=by omega
    have ak:(j:Int)+1<(a.length:Int):=by omega
    have al:(0:Int)<=(j:Int)+1:=by omega
    have D:=WU a (i:=j) (by omega);rw[H] at D;have I:=rI (ys:=bB a) (z:=(0:Int)) (j:=j) (k:=k+1) (by rw[m.out];exact h.out);have J:=rH (z:=(0:Int)) (k:=k) D;have L:j<((bB a).take j++List.replicate (k+1) 0).length:=by rw[I,m.out];have:=h.out;omega
    have ab:=aB J;clear D I J hn H;have aj:nl ((j:Int)+1).natAbs<=1:=cJ (by rw[show((j:Int)+1).natAbs=j+1 by omega];unfold BN;omega);have Q:=fun W=>lL ((j:Int)+1) W (by omega) (by omega);have O:=fun W v u h1 r=>jB n ((j:Int)+1) v u W h1 r (by omega);unfold dW at O Q;generalize n*((j:Int)+1)=y at *;have C:=N.drew;have Rd:=R.drew;have f:=t.drew;have an:((j:Int)+1).toNat=j+1:=by omega
    have ap:IntKind.i64.wrap ((j:Int)+1)=(j:Int)+1:=by rw[IntKind.wrap_i64];omega
    clear N R t;go_wp2_with fail
    go_region_with (first
     |(go_at_call 55;refine(Q _).mono ?_;rintro e3 w3 ⟨v3,rfl,h3,g⟩;replace C:=C.be g;replace Rd:=Rd.be g;replace f:=aC f g;(try replace F:=(g.cell (p:=⟨b,(j+1)*2,none⟩) x).trans F);(try replace G:=(g.cell (p:=⟨b,(j+1)*2+1,none⟩) x).trans G);replace x:=aZ x g.size)
     |(go_at_call 32;refine(O _ _ _ C h3).mono ?_;rintro e2 Z ⟨v2,rfl,r,o⟩;obtain⟨s2,A2,k2,c2,rfl⟩:=r.form;replace Rd:=Rd.be o;replace f:=aC f o;obtain⟨s',B',l',d',X,q1, -⟩:=Rd.at_ (aR L);have f0:=Rd.free (j*2);have f1:=Rd.free (j*2+1)))
    all_goals (
     go_wp2_with fail;obtain⟨S,ae⟩:=Rd.stored L r;rw[ab.out] at S;have ad:=jD f ae (by omega);go_roundg k
     case rel=>exact⟨j+1,by have:=h.out;unfold Hid;omega,by go_num,S,ad⟩
     case measure=>omega)
def PQRes.mono{q:List Int}{b:Nat}(h:PQRes xs ys KB m q r)(a:KB<=b):PQRes xs ys b m q r:=
 ⟨h.id_,h.m0,h.r_lt,h.q_trim,h.r_trim,h.q_len,h.pow,fun n hn=>aH (h.bq n hn) a,fun n hn=>aH (h.br n hn) a,aH h.bm a⟩
inductive Euc(B:Nat):List Int->List Int->List Int->Prop
 |done (a:List Int):Euc B a [] a
 |one {a b:List Int} (hb:b.length=1):Euc B a b [1]
 |step {a b q r g:List Int} {m:Int} (hb:1<b.length) (h:PQRes a b B m q r) (t:Euc B b (aS r) g):Euc B a b g
def pO(B:Nat)(xs ys g:List Int):Prop:=if xs.length<ys.length then Euc B (aS ys) (aS xs) g else Euc B (aS xs) (aS ys) g
def WholeAt.single{s:Bool}{A:Option Addr}{k c:Nat}(h:IntAt w (.agg #[.bool s,.slice A k c]) n):WholeAt (w.alloc (.cells #[.bool s,.slice A k c] 77)) (.slice (some ⟨w.1.size,0,none⟩) 1 1) [n]:=by
 have B:=Bx.new w [.bool s,.slice A k c] 77;have:OwnW (w.alloc (.cells #[.bool s,.slice A k c] 77)) w.1.size [n]:=by
  refine⟨[[.bool s,.slice A k c]],⟨B,fun r b=> ?_⟩,aE,fun i m a=> ?_⟩
  ·rw[List.mem_singleton.1 b];rfl
  ·cases i with
   |zero=>injection a with a;subst a;exact⟨s,A,k,c,rfl,h.ke (Keep.alloc _ _)⟩
   |succ i=>simp at a
 exact this.whole 1 aE
def JZ{d:Nat}(h:1<=d):d+2<=3^d:=by
 induction d with
 |zero=>omega
 |succ d b=>
  rw[dH];by_cases a:d=0
  ·subst a;decide
  ·have:=b (by omega);omega
def cx2{b a c:Nat}(h:(K+1)*(b-a+2)*3^a<=B)(k:c<a)(j:a<=b):(K+(b+1-a)*(K+1)+1)*(a-c+2)*3^c<=B:=by
 have e:K+(b+1-a)*(K+1)+1=(K+1)*(b-a+2):=by
  rw[show b+1-a=b-a+1 by omega,aqA (b-a) 1 (K+1),iL (K+1) (b-a) 2,dN (b-a) (K+1)];omega
 have f:a=(a-c)+c:=by omega
 have g:=JZ (d:=a-c) (by omega);have i:(K+1)*(b-a+2)*3^a=(K+1)*(b-a+2)*3^(a-c)*3^c:=by
  conv=>lhs;rw[f,KF]
  rw[show(a-c+c)=a by omega,iW];simp only[iW]
 rw[i] at h;rw[e];exact aH (dK _ (eV _ g)) h
def xX{b a:Nat}(h:(K+1)*(b-a+2)*3^a<=B)(d:a<=b):K+(b+1-a)*(K+1)+1<=B:=by
 have c:K+(b+1-a)*(K+1)+1=(K+1)*(b-a+2):=by
  rw[show b+1-a=b-a+1 by omega,aqA (b-a) 1 (K+1),iL (K+1) (b-a) 2,dN (b-a) (K+1)];omega
 rw[c];exact aH (by7 _ (eQ (by decide))) h
def dq6(xs ys:List Int)(vx vy:Value)(w:World)(y:Glob w)(hx:WholeAt w vx xs)(hy:WholeAt w vy ys)(tx:aN xs)(ty:aN ys)(u K B:Nat)(ax:∀n∈xs,nl n.natAbs<=u)(ay:∀n∈ys,nl n.natAbs<=u)(a9:5*u+8<=aJ)(J:∀n∈aS xs,nl n.natAbs<=K)(L:∀n∈aS ys,nl n.natAbs<=K)(av:1<=K)
  (F:xs.length<ys.length->(K+1)*(ys.length-xs.length+2)*3^xs.length<=B)(G:¬xs.length<ys.length->(K+1)*(xs.length-ys.length+2)*3^ys.length<=B)(a8:5*B+8<=aJ)(a4:xs.length<=1073741824)(a5:ys.length<=1073741824):
  Calls prog 85 #[vx,vy] w fun e w'=>∃v' g,e= .returned v'∧WholeAt w' v' g∧pO B xs ys g∧Below w.1.size w w':=by
 obtain⟨A,c,rfl,hc⟩:=hx.form;obtain⟨O,V,rfl,bb⟩:=hy.form;have lX:=dF xs;have lY:=dF ys;have pX:=qQ xs _ w y hx tx u ax (by omega) (by omega);have pY:=fun W d=>qQ ys _ W (y.be d) (hy.be d) ty u ay (by omega) (by omega);have M:=Q5 tx;have N:=Q5 ty;have ac:xs.length<ys.length->∀g,Euc B (aS ys) (aS xs) g->pO B xs ys g:=fun h g k=>by unfold pO;rw[if_pos h];exact k
 have ad:¬xs.length<ys.length->∀g,Euc B (aS xs) (aS ys) g->pO B xs ys g:=fun h g k=>by unfold pO;rw[if_neg h];exact k
 generalize pO B xs ys=T at *;generalize aS xs=X at *;generalize aS ys=Y at *;rw[<-lX] at a4;rw[<-lY] at a5;rw[<-lX,<-lY] at F G;have s:Hid (xs.length<ys.length↔X.length<Y.length):=by unfold Hid;omega
 clear lX lY;go_enter func85,ntmps85;go_wp2_with fail;refine pX.mono ?_;rintro e1 w1 ⟨v1,rfl,i,d⟩;obtain⟨A1,c1,rfl,bc⟩:=i.form;go_wp2_with fail;refine(pY _ d).mono ?_;rintro e2 w2 ⟨v2,rfl,x,af⟩;obtain⟨A2,c2,rfl,bf⟩:=x.form;replace i:=i.be af;replace d:=aC d af;clear pX pY af hx hy;by_cases o:xs.length<ys.length
 focus (
  have ae:=aB (ac o);have ab:=F (s.out.1 o);have a3:X.length<Y.length:=s.out.1 o;have a2:(X.length:Int)<(Y.length:Int):=by omega
  clear ac ad F G s o;have ag:=x;have ah:=i;have ai:=L;have aj:=J;have ak:=N;have al:=M;clear i x J L M N;go_wp2_with fail;generalize Y=XX at *;generalize X=U at *
 )
 rotate_left
 focus (
  have ae:=aB (ad o);have ab:=G (fun h=>o (s.out.2 h));have a3:¬X.length<Y.length:=fun h=>o (s.out.2 h);have a2:¬(X.length:Int)<(Y.length:Int):=by omega
  clear ac ad F G s o;have ag:=i;have ah:=x;have ai:=J;have aj:=L;have ak:=M;have al:=N;clear i x J L M N;go_wp2_with fail;generalize X=XX at *;generalize Y=U at *
 )
 all_goals (
  go_loopg [5,6] U.length (fun k va vb wr=>∃a b A c O V f,Hid (b.length=k)∧va= .slice A a.length c∧vb= .slice O b.length V∧WholeAt wr (.slice A a.length c) a∧WholeAt wr (.slice O b.length V) b∧Hid (aN a)∧Hid (aN b)∧Hid (∀g,Euc B a b g->T g)∧
   (∀n∈a,nl n.natAbs<=f)∧(∀n∈b,nl n.natAbs<=f)∧1<=f∧b.length<=a.length∧a.length<=1073741824∧Hid ((f+1)*(a.length-b.length+2)*3^b.length<=B)∧Below w.1.size w wr)
  case atStart=>exact⟨XX,U,_,_,_,_,K,rfl,rfl,rfl,ag,ah,ak,al,ae,ai,aj,av,by omega,by omega,ab,d⟩
  case round=>
   clear ag ah d ab ak al ai aj ae;obtain⟨a,b,Aa,ca,Ab,cb,f,HL,rfl,rfl,ha,l,au,an,R,ka,kb,ao,ap,a1,HP,d⟩:=hrel;generalize wr=wy at *;have ba:=xX HP.out ap;by_cases v:b.length=0
   ·have q0:¬(0:Int)<(b.length:Int):=by omega
    have z:b=[]:=bX v;have j:=R.out a (by rw[z];exact Euc.done a);have E:=aB j;clear z v j;go_wp2;go_ret
    first|exact⟨_,a,rfl,ha,E.out,d⟩|exact⟨_,rfl,a,ha,E.out,d⟩
   ·have q0:(0:Int)<(b.length:Int):=by omega
    by_cases i:b.length=1
    ·have q1:((b.length:Int)==1)=true:=by simp;omega
     have j:=R.out [1] (Euc.one i);have E:=aB j;clear v i j;go_wp2_with fail;refine(lL 1 _ (by decide) (by decide)).mono ?_;rintro e3 D ⟨v3,rfl,h3,C⟩;obtain⟨s3,Q,k3,Z,rfl⟩:=h3.form;go_wp2;go_ret;exact⟨_,[1],rfl,WholeAt.single h3,E.out,(aC d C).alloc (aH d.size C.size) _⟩
    ·have q1:((b.length:Int)==1)=false:=by simp;omega
     have z:b≠[]:=fun e=>v (by rw[e];rfl);have az:1<b.length:=by omega
     have pq:=BU a b _ _ wy ha l z au.out an.out f _ ka kb ao aE (by omega) a1 (by omega);unfold wZ at pq;go_wp2_with fail;refine pq.mono ?_;rintro e3 D ⟨vq,vr,vm,q,r,m,rfl,hq,I,hm,p,C⟩;obtain⟨Aq,cq,rfl, -⟩:=hq.form;obtain⟨Ar,cr,rfl,bh⟩:=I.form;obtain⟨s3,Q,k3,Z,rfl⟩:=hm.form;have a7:=p.r_lt;have a6:=fun W y h=>qQ r (.slice Ar r.length cr) W y h p.r_trim _ p.br (by omega) (by omega);have ht:=Q5 p.r_trim;have hk:=gU p.br;have a0:∀n∈b,nl n.natAbs<=f+(a.length+1-b.length)*(f+1):=fun n hn=>aH (kb n hn) (byR _ _);have hl:=dF r;have ar:(f+(a.length+1-b.length)*(f+1)+1)*(b.length-(aS r).length+2)*3^(aS r).length<=B:=by rw[hl];exact cx2 HP.out a7 ap
     have j:∀g,Euc B b (aS r) g->T g:=fun g t=>R.out g (Euc.step az (p.mono (by omega)) t);have S:=aB (And.intro ar (And.intro j ht));have aw:1<=f+(a.length+1-b.length)*(f+1):=aH ao (byR _ _);have am:=aB hl;clear hl p ar j ht pq v i z;generalize aS r=P at *;generalize f+(a.length+1-b.length)*(f+1)=KK at *;replace l:=l.be C;replace d:=aC d C;go_wp2_with fail;have H:Below D.1.size D (D.alloc (.cells #[.bool s3,.slice Q k3 Z] 77)):=(aG _ _).alloc aE _;replace l:=l.be H;replace I:=I.be H;replace d:=aC d H;clear H;generalize D.alloc (.cells #[.bool s3,.slice Q k3 Z] 77)=w4 at *;refine(a6 _ (y.be d) I).mono ?_;rintro e5 w5 ⟨v5,rfl,h5,aq⟩;obtain⟨A5,c5,rfl,bg⟩:=h5.form;replace l:=l.be aq;replace d:=aC d aq;go_wp2;go_roundg P.length
     case rel=>exact⟨b,P,Ab,cb,A5,c5,KK,rfl,rfl,rfl,l,h5,an,S.out.2.2,S.out.2.1,a0,hk,aw,by have:=am.out;omega,by omega,S.out.1,d⟩
     case measure=>have:=HL.out;have:=am.out;omega
 )
def XV(xs ys:List Int)(a b:Value)(w:World)(l:Glob w)(q:WholeAt w a xs)(r:WholeAt w b ys)(s:aN xs)(t:aN ys)(K B:Nat)(f:∀n∈xs,nl n.natAbs<=K)(i:∀n∈ys,nl n.natAbs<=K)(m:1<=K)
  (c:xs.length<ys.length->(K+1)*(ys.length-xs.length+2)*3^xs.length<=B)(d:¬xs.length<ys.length->(K+1)*(xs.length-ys.length+2)*3^ys.length<=B)(k:5*B+8<=aJ)(o:xs.length<=1073741824)(p:ys.length<=1073741824):
  Calls prog 85 #[a,b] w fun e w'=>∃j g,e= .returned j∧WholeAt w' j g∧pO B xs ys g∧Below w.1.size w w':=by
 have u:K<=B:=by
  by_cases h:xs.length<ys.length
  ·have:=xX (c h) (by omega);omega
  ·have:=xX (d h) (by omega);omega
 exact dq6 xs ys a b w l q r s t K K B f i (by omega) (gU f) (gU i) m c d k o p
def YJ{d:Nat->Int}(k:ys≠[])(o:aN ys)(b:∀i,L<=i->d i=0)(h:∀i,ys.length<=i+1->conv d (cf ys) i=0):∀i,d i=0:=by
 induction L with
 |zero=>exact fun i=>b i (dC _)
 |succ L l=>
  refine l (fun i r=> ?_);by_cases f:L+1<=i
  ·exact b i f
  ·have e:i=L:=by omega
   subst e;have c:=p5 (p:=d) (q:=cf ys) (m:=i) (n:=ys.length-1) (fun j g=>b j (by omega)) (fun j g=>bV (by omega));rw[h _ (by omega)] at c;rcases Int.mul_eq_zero.1 c.symm with a|a
   ·exact a
   ·exact absurd a ((Y5 k).1 o)
def fx6{q r0:List Int}(h:PQRes xs ys KB m q r)(k:ys≠[])(l:aN ys)(f:∀i,m0*cf xs i=conv (cf q0) (cf ys) i+cf r0 i)(p:r0.length<ys.length):
  (∀i,m0*cf q i=m*cf q0 i)∧∀i,m0*cf r i=m*cf r0 i:=by
 have a:∀i,conv (fun j=>m0*cf q j+(-m)*cf q0 j) (cf ys) i=m*cf r0 i-m0*cf r i:=fun i=>by
  rw[qD,eI,eI];have n:=h.id_ i;have o:=f i;have c:conv (cf q) (cf ys) i=m*cf xs i-cf r i:=by omega
  have e:conv (cf q0) (cf ys) i=m0*cf xs i-cf r0 i:=by omega
  rw[c,e,Int.mul_sub,Int.mul_sub,Int.neg_mul,Int.neg_mul,Int.mul_left_comm];omega
 have b:=YJ (d:=fun j=>m0*cf q j+(-m)*cf q0 j) (L:=q.length+q0.length) k l (fun i g=>by
  show m0*cf q i+ -m*cf q0 i=0
  rw[bV (by omega),bV (by omega)];simp) (fun i g=>by
  rw[a,bV (by omega),bV (by have:=h.r_lt;omega)];simp)
 refine⟨fun i=> ?_,fun i=> ?_⟩
 ·have:=b i;rw[Int.neg_mul] at this;omega
 ·have:=a i;rw[lK b] at this;omega
def gz3(b:r.length<2)(d:aN r)(h:cf r 0=x)(c:x≠0):r=[x]:=by
 match r,b with
 |[],_=>rw[eR] at h;exact absurd h.symm c
 |[a],_=>rw[show a=x from h]
def YK(c:aN r)(h:∀i,cf r i=0):r=[]:=oZ c (fun a b=>by simp at b) (fun i=>by rw[h,eR])
def gz4(f:r.length<3)(e:cf r 0=0)(c:cf r 1=x)(d:x≠0):r=[0,x]:=by
 match r,f with
 |[],_=>rw[eR] at c;exact absurd c.symm d
 |[a],_=>exact absurd c.symm d
 |[a,b],_=>rw[show a=0 from e,show b=x from c]
def YL(q ys r xs:List Int)(m0:Int)(n:Nat):Bool:=(List.range n).all (fun i=>m0*cf xs i==conv (cf q) (cf ys) i+cf r i)
def ezR{q:List Int}{n:Nat}(h:YL q ys r xs m0 n=true)(c:q.length+ys.length<=n)(d:r.length<=n)(e:xs.length<=n)(i:Nat):m0*cf xs i=conv (cf q) (cf ys) i+cf r i:=by
 by_cases b:i<n
 ·unfold YL at h;rw[List.all_eq_true] at h;exact beq_iff_eq.1 (h i (List.mem_range.2 b))
 ·rw[bV (by omega),bV (l:=r) (by omega),rG (m:=q.length) (n:=ys.length) (fun j a=>bV a) (fun j a=>bV a) (by omega)];simp
def oB(h:(match l.getLast? with|none=>true|some a=>a != 0)=true):aN l:=fun a b=>by
 rw[b] at h;simpa using h
def P9{q:List Int}{n:Nat}(h:YL q ys [] xs 1 n=true)(a:q.length+ys.length<=n)(b:xs.length<=n)(i:Nat):cf xs i=conv (cf q) (cf ys) i:=by
 have:=ezR h a (dC _) b i;rw[eR,az5,byE] at this;exact this
def gz5{q:List Int}(h:PQRes [-1,1] [-3,1] KB m q r):m=1∧r=[2]:=by
 obtain⟨e, -,a⟩:=h.pow;have b:m=1:=by rw[a];exact Int.one_pow
 refine⟨b,?_⟩;have c:=(fx6 (q0:=[1]) (r0:=[2]) (m0:=1) h (by decide) (oB rfl) (ezR (n:=4) (by decide) (by decide) (by decide) (by decide)) (by decide)).2;refine gz3 h.r_lt h.r_trim ?_ (by decide);have d:1*cf r 0=m*2:=c 0;omega
def YM(h:Euc B a [] g):g=a:=by
 cases h with
 |done=>rfl
 |one b=>simp at b
 |step b _ _=>simp at b
def fyZ(h:Euc B a b g)(c:1<b.length)(o:aN b)(l:m0≠0)(f:∀i,m0*cf a i=conv (cf q0) (cf b) i+cf ([]:List Int) i):g=b:=by
 have j:b≠[]:=fun e=>by rw[e] at c;simp at c
 cases h with
 |done=>simp at c
 |one k=>omega
 |step k d t=>
  have n:=(fx6 d j o f (by simp;omega)).2
  have m:=YK d.r_trim (fun i=>by
   have:=n i;rw[eR,Int.mul_zero] at this;exact(Int.mul_eq_zero.1 this).resolve_left l)
  rw[m] at t;exact YM t
def gz6(h:Euc B [0,0, -1,1] [0, -2,3] g):g=[0, -1]:=by
 cases h with
 |one c=>simp at c
 |step c b t=>
  rename_i q r m;obtain⟨e, -,i⟩:=b.pow;have s:0<m:=by rw[i];exact aqH (by decide)
  have d:=(fx6 (q0:=[-1,3]) (r0:=[0, -2]) (m0:=9) b (by decide) (oB rfl) (ezR (n:=6) (by decide) (by decide) (by decide) (by decide)) (by decide)).2;have o:9*cf r 0=m*0:=d 0;have p:9*cf r 1=m* -2:=d 1;have l:=gz4 (r:=r) (x:=cf r 1) b.r_lt (by omega) rfl (by omega);have u:cf r 1<0:=by omega
  generalize cf r 1=a at *;have k:aS r=[0, -1]:=by
   rw[l];have j:(bC [0,a]:Int)= -a:=by
    rw[CK,CK,JP,Nat.gcd_zero_left];simp;omega
   unfold aS jX;rw[j];have f:a.tdiv (-a)= -1:=by rw[Int.tdiv_neg,Int.tdiv_self (by omega)]
   show[(0:Int).tdiv (-a),a.tdiv (-a)]=[0, -1]
   rw[f,Int.zero_tdiv]
  rw[k] at t;exact fyZ (q0:=[2, -3]) (m0:=1) t (by decide) (oB rfl) (by decide) (ezR (n:=6) (by decide) (by decide) (by decide) (by decide))
def gz7:aS [0,0, -1,1]=[0,0, -1,1]:=by decide
def gz8:aS [0, -2,3]=[0, -2,3]:=by decide
def gz9:aS [0,1, -1]=[0,1, -1]:=by decide
def fz0:aS [0, -1]=[0, -1]:=by decide
def gzA:aS [1]=[1]:=by decide
def fx7:bB [0,0, -1,1]=[0, -2,3]:=by decide
def fz1(h:pO B [0,0, -1,1] [0, -2,3] g):g=[0, -1]:=by
 unfold pO at h;rw[if_neg (by decide),gz7,gz8] at h;exact gz6 h
def fz2(h:pO B [0,1, -1] [0, -1] g):g=[0, -1]:=by
 unfold pO at h;rw[if_neg (by decide),gz9,fz0] at h;exact fyZ (q0:=[-1,1]) (m0:=1) h (by decide) (oB rfl) (by decide) (ezR (n:=6) (by decide) (by decide) (by decide) (by decide))
def fz3(h:pO B [0, -1] [1] g):g=[1]:=by
 unfold pO at h;rw[if_neg (by decide),fz0,gzA] at h;cases h with
 |one=>rfl
 |step a _ _=>simp at a
structure DivRes(A B Q R:List Rat)(K:Nat):Prop where
 id_:∀i,conv (cf Q) (cf B) i+cf R i=cf A i
 q_trim:aN Q
 r_trim:aN R
 r_lt:R.length<B.length
 q_len:Q.length<=A.length
 bq:∀q∈Q,RL K q
 br:∀q∈R,RL K q
def VN(hF:F≠0)(h:aN c):aN (tT c F):=by
 intro a b e;unfold tT at b;rw[List.getLast?_map] at b;cases hq:c.getLast? with
 |none=>rw[hq] at b;simp at b
 |some n=>
  rw[hq] at b;simp only[bzX,Option.some.injEq] at b;rw[e] at b;have d:(n:Rat)≠0:=fun e=>h n hq (Rat.intCast_inj.1 e);have f:(F:Rat)≠0:=fun e=>hF (Rat.intCast_inj.1 e);grind
def xM(f:E≠0)(h:aN d):aN (d.map (·*E)):=by
 intro a b e;rw[List.getLast?_map] at b;cases hq:d.getLast? with
 |none=>rw[hq] at b;simp at b
 |some n=>
  rw[hq] at b;simp only[bzX,Option.some.injEq] at b;rw[e] at b;rcases Int.mul_eq_zero.1 b with c|c
  ·exact h n hq c
  ·exact f c
def xN(a:List Int)(F:Int)(i:Nat):cf (tT a F) i=((cf a i:Int):Rat)/F:=mG (fun n:Int=>(n:Rat)/(F:Rat)) (F7 F) a i
def CC(a:List Int)(E:Int)(i:Nat):cf (a.map (·*E)) i=cf a i*E:=mG (·*E) (bxB E) a i
def gzT{A B:List Rat}{D:Int}{q:List Int}{a K2:Nat}(e:ComDen A D a)(f:ComDen B E a)(h:PQRes (cC A D) (cC B E) KB m q r)(o:nl E.natAbs<=a)(l:nl D.natAbs<=a)(p:a+KB<=K2)(d:1<=K2):
  DivRes A B (tT (q.map (·*E)) (D*m)) (tT r (D*m)) K2:=by
 have g:D≠0:=by have:=e.pos;omega
 have j:E≠0:=by have:=f.pos;omega
 have hF:D*m≠0:=bxK g h.m0;have c:nl (D*m).natAbs<=K2:=aH (gT D m _ _ l h.bm) p;refine⟨fun i=> ?_,VN hF (xM j h.q_trim),VN hF h.r_trim,?_,?_,fun x b=> ?_,fun x b=> ?_⟩
 ·have:=fqD (A:=cf A) (B:=cf B) (x:=cf (cC A D)) (y:=cf (cC B E)) (q:=cf q) (r:=cf r) (xd:=D) (yd:=E) (m:=m) (JC A D e.dvd) (JC B E f.dvd) g j h.m0 h.id_ i;rw[<-this,xN];congr 1
  ·refine gL (fun k=> ?_) (fun _=>rfl) i;rw[xN,CC,eJ,eJ]
  ·rw[eJ]
 ·unfold tT;rw[cH];have:=h.r_lt;rw[oN] at this;exact this
 ·unfold tT;rw[cH,cH];have:=h.q_len;rw[oN] at this;exact this
 ·unfold tT at b;obtain⟨n,hn,rfl⟩:=List.mem_map.1 b;obtain⟨y,s,rfl⟩:=List.mem_map.1 hn;exact CA _ _ _ (aH (gT y E _ _ (h.bq y s) o) (by omega)) c d
 ·unfold tT at b;obtain⟨n,hn,rfl⟩:=List.mem_map.1 b;exact CA _ _ _ (aH (h.br n hn) (by omega)) c d
def fxE(w:World)(a b:List (List UInt8))(K2:Nat)(e:Ending)(w':World):Prop:=
 ∃v u n Q R,e= .returned (.tuple #[v,u,.int .i64 n])∧StrsAt w' v (Q.map cW)∧StrsAt w' u (R.map cW)∧Below w.1.size w w'∧
  (¬(vl a=true∧vl b=true)->n=1∧Q=[]∧R=[])∧(vl a=true->vl b=true->b=[]->n=5∧Q=[]∧R=[])∧(vl a=true->vl b=true->b≠[]->n=0∧DivRes (aU a) (aU b) Q R K2)
def gzU(a b:List (List UInt8))(va vb:Value)(w:World)(o:Glob w)(ha:StrsAt w va a)(ag:StrsAt w vb b)(a1:a.length<=1073741824)(a2:b.length<=1073741824)(K:Nat)
  (ay:a.length<=65->∀l∈a,l.length<=1073741824)(az:b.length<=65->∀l∈b,l.length<=1073741824)(ak:a.length<=65->∀q∈aU a,RL K q)(al:b.length<=65->∀q∈aU b,RL K q)(L KB K2:Nat)(am:a.length<=65->a.length<=L)(au:b.length<=65->b.length<=L)(ar:1<=L)(bk:K+(1+L*K)+(L+1)*(K+(1+L*K)+1)<=KB)(bi:1+L*K+KB<=K2)(bj:K2<=10000000):
  Calls prog 15 #[va,vb] w (fxE w a b K2):=by
 obtain⟨A,c,rfl,hc⟩:=ha.form;obtain⟨A',c',rfl,bo⟩:=ag.form;go_enter func15,ntmps15;go_wp2_with fail;refine(VD a _ _ o ha a1 ay K (1+L*K) L ak am ar aE (by unfold aJ;omega)).mono ?_;rintro e1 R ⟨v1,b3,xs,D,rfl,z,g,a7,aw⟩;obtain⟨A1,c1,rfl,bp⟩:=z.form;obtain⟨s1,B1,k1,d1,rfl⟩:=g.form;go_wp2_with fail;have ai:Below R.1.size R (R.alloc (.cells #[.bool s1,.slice B1 k1 d1] 77)):=(aG _ _).alloc aE _;have X:=Bx.new R [.bool s1,.slice B1 k1 d1] 77;replace z:=z.be ai;replace g:=g.be ai;have d:=aC aw ai;clear ai;generalize bv:R.1.size=gx at *;generalize R.alloc (.cells #[.bool s1,.slice B1 k1 d1] 77)=w2 at *;refine(VD b _ _ (o.be d) (ag.be d) a2 az K (1+L*K) L al au ar aE (by unfold aJ;omega)).mono ?_;rintro e3 S ⟨v3,b4,ys,E,rfl,P,f,a8,ah⟩;obtain⟨A3,c3,rfl,bs⟩:=P.form;obtain⟨s3,V,k3,d3,rfl⟩:=f.form;replace X:=X.be ah;replace z:=z.be ah;replace g:=g.be ah;replace d:=aC d ah;cases hva:vl a with
 |false=>
  go_wp2_with fail;refine aM (v:= .tuple #[.slice none 0 0,.slice none 0 0,.int .i64 1]) (by simp[results,results15,go_sem]) rfl ⟨_,_,1,[],[],rfl,StrsAt.nil _ _ _,StrsAt.nil _ _ _,d.alloc d.size _,(fun _=>⟨rfl,rfl,rfl⟩),(fun h=> ?_),(fun h=> ?_)⟩
  ·rw[hva] at h;cases h
  ·rw[hva] at h;cases h
 |true=>
  cases hvb:vl b with
  |false=>
   go_wp2_with fail;refine aM (v:= .tuple #[.slice none 0 0,.slice none 0 0,.int .i64 1]) (by simp[results,results15,go_sem]) rfl ⟨_,_,1,[],[],rfl,StrsAt.nil _ _ _,StrsAt.nil _ _ _,d.alloc d.size _,(fun _=>⟨rfl,rfl,rfl⟩),(fun _ h=> ?_),(fun _ h=> ?_)⟩
   ·rw[hvb] at h;cases h
   ·rw[hvb] at h;cases h
  |true=>
   obtain⟨rfl,H⟩:=a7 hva;obtain⟨rfl,t⟩:=a8 hvb;obtain⟨p1, -,t1⟩:=pJ hva;obtain⟨p2, -,t2⟩:=pJ hvb;have Q:(cC (aU b) E).length=b.length:=by rw[oN];unfold aU;rw[cH]
   by_cases J:b=[]
   ·have q0:(((cC (aU b) E).length:Int)==0)=true:=by rw[Q,J];rfl
    have HB:=aB J;clear J Q ag;go_wp2_with fail;exact aM (v:= .tuple #[.slice none 0 0,.slice none 0 0,.int .i64 5]) (by simp[results,results15,go_sem]) rfl ⟨_,_,5,[],[],rfl,StrsAt.nil _ _ _,StrsAt.nil _ _ _,d.alloc d.size _,(fun h=>absurd ⟨hva,hvb⟩ h),(fun _ _ _=>⟨rfl,rfl,rfl⟩),(fun _ _ h=>absurd HB.out h)⟩
   ·have ax:b.length≠0:=fun e=>J (bX e);have q0:(((cC (aU b) E).length:Int)==0)=false:=by rw[Q];simp;omega
    have lx:(cC (aU a) D).length<=65:=by rw[oN];unfold aU;rw[cH];exact p1
    have ly:(cC (aU b) E).length<=65:=by rw[Q];exact p2
    have b2:(cC (aU a) D).length<=L:=by rw[oN];unfold aU;rw[cH];exact am p1
    have av:cC (aU b) E≠[]:=fun e=>ax (by rw[<-Q,e];rfl);have a5:=oO H.pos H.dvd t1;have a6:=oO t.pos t.dvd t2;have bx:=sA _ D K _ (ak p1) H.nl_;have bY:=sA _ E K _ (al p2) t.nl_;have a0:=fun m q r h=>gzT (K2:=K2) (KB:=KB) (m:=m) (q:=q) (r:=r) H t h t.nl_ H.nl_ (by omega) (by omega);have ao:=aB a0;have aq:E≠0:=by have:=t.pos;omega
    have bD:=H.nl_;have bE:=t.nl_;have aj:Hid (vl a=true∧vl b=true∧b≠[]):=⟨hva,hvb,J⟩;clear a0 H t a7 a8 hva hvb t1 t2 p1 p2 ak al ay az Q ax ha ag a1 a2 J am au;generalize cC (aU a) D=NA at *;generalize cC (aU b) E=NB at *
    have an:=fun W B C=>BU NA NB (.slice A1 NA.length c1) (.slice A3 NB.length c3) W B C av a5 a6 (K+(1+L*K)) KB bx bY (by omega) (by
     have:(NA.length+1-NB.length)*(K+(1+L*K)+1)<=(L+1)*(K+(1+L*K)+1):=dK _ (by omega);omega) (by unfold aJ;omega) (by omega) (by omega)
    unfold wZ at an;have bh:=X.lt;clear av a5 a6 bx bY;go_wp2_with fail;have G:Below S.1.size S (S.alloc (.cells #[.bool s3,.slice V k3 d3] 77)):=(aG _ _).alloc aE _;have Y:=Bx.new S [.bool s3,.slice V k3 d3] 77;replace z:=z.be G;replace P:=P.be G;replace g:=g.be G;replace f:=f.be G;replace X:=X.be G;replace d:=aC d G;clear G;generalize bw:S.1.size=gy at *;generalize S.alloc (.cells #[.bool s3,.slice V k3 d3] 77)=w4 at *;refine(an _ z P).mono ?_;rintro e5 T ⟨vq,vr,vm,q,r,m,rfl,k,i,hm,x,ab⟩;obtain⟨Aq,cq,rfl,bt⟩:=k.form;obtain⟨Ar,cr,rfl,bu⟩:=i.form;obtain⟨sm,Bm,km,dm,rfl⟩:=hm.form;have a9:=aB (ao.out m q r x);have bq:=x.bq;have br:=x.br;have bm:=x.bm;have b0:=x.q_len;have b1:=x.r_lt;have a4:=qB (xM aq x.q_trim);replace X:=X.be ab;replace Y:=Y.be ab;replace g:=g.be ab;replace f:=f.be ab;replace d:=aC d ab;have a3:=fun W B C=>OD q E (.slice Aq q.length cq) (.agg #[.bool s3,.slice V k3 d3]) W B C KB bq (by omega) (by omega) (by omega);rw[a4] at a3;clear x ao an a4 aq;have ba:∀I:Obj,(T.alloc I).cell? ⟨gx,0,none⟩=some (.bool s1):=fun I=>(X.alloc I).cell 0 rfl;have bb:∀I:Obj,(T.alloc I).cell? ⟨gx,1,none⟩=some (.slice B1 k1 d1):=fun I=>(X.alloc I).cell 1 rfl;go_wp2_with fail;have s:Below T.1.size T (T.alloc (.cells #[.bool sm,.slice Bm km dm] 77)):=(aG _ _).alloc aE _;replace k:=k.be s;replace i:=i.be s;replace g:=g.be s;replace f:=f.be s;replace hm:=hm.be s;replace Y:=Y.be s;replace d:=aC d s;clear s X ba bb;generalize T.alloc (.cells #[.bool sm,.slice Bm km dm] 77)=w6 at *;refine(jB D m _ _ _ g hm (by omega)).mono ?_;rintro e7 U ⟨v7,rfl,j,M⟩;obtain⟨s7,B7,k7,d7,rfl⟩:=j.form;have bc:=gT D m _ _ bD bm;generalize D*m=DM at *;have ap:∀n∈q.map (·*E),nl n.natAbs<=K2:=fun n hn=>by
     obtain⟨y,P,rfl⟩:=List.mem_map.1 hn;exact aH (gT y E _ _ (bq y P) bE) (by omega)
    have bf:=fun W v u o B C=>eqY (q.map (·*E)) DM v u W o B C K2 ap (by omega) (by omega) (by omega) (by rw[cH];omega);have bg:=fun W u o B C=>eqY r DM (.slice Ar r.length cr) u W o B C K2 (fun n hn=>aH (br n hn) (by omega)) (by omega) (by omega) (by omega) (by omega);generalize q.map (·*E)=QE at *;replace k:=k.be M;replace i:=i.be M;replace f:=f.be M;replace Y:=Y.be M;replace d:=aC d M;clear bq br bm ap bc bD bE hm;go_wp2_with fail;have F:Below U.1.size U (U.alloc (.cells #[.bool s7,.slice B7 k7 d7] 77)):=(aG _ _).alloc aE _;have Z:=Bx.new U [.bool s7,.slice B7 k7 d7] 77;have bn:=M.size;replace k:=(k.be F).drew;replace i:=(i.be F).drew;replace f:=(f.be F).drew;replace j:=(j.be F).drew;replace Y:=(Y.be F).drew;replace d:=(aC d F).drew;clear F;generalize bz:U.1.size=gz at *;generalize U.alloc (.cells #[.bool s7,.slice B7 k7 d7] 77)=w8 at *;replace Z:=Z.drew;replace ac:=Y.cell 0 rfl;replace ad:=Y.cell 1 rfl;replace ae:=Z.cell 0 rfl;replace af:=Z.cell 1 rfl
    go_region_held3 (fun w'=>w'.cell? ⟨gy,0,none⟩=some (.bool s3)∧w'.cell? ⟨gy,1,none⟩=some (.slice V k3 d3)∧w'.cell? ⟨gz,0,none⟩=some (.bool s7)∧w'.cell? ⟨gz,1,none⟩=some (.slice B7 k7 d7))
     (first|(with_reducible exact⟨ac,ad,ae,af⟩))
     (first
      |(go_at_call 33;refine(a3 _ k f).mono ?_;rintro eA wA ⟨vA,rfl,hA,N⟩;replace Y:=Y.be N;replace Z:=Z.be N;replace ac:=Y.cell 0 rfl;replace ad:=Y.cell 1 rfl;replace ae:=Z.cell 0 rfl;replace af:=Z.cell 1 rfl;(try replace j:=j.be N);(try replace i:=i.be N);(try replace hC:=hC.be N);replace d:=aC d N)
      |(go_at_call 34;(with_reducible refine(bg _ _ (o.be d) i j).mono ?_);rintro eC wC ⟨vC,rfl,hC,p⟩;replace Y:=Y.be p;replace Z:=Z.be p;replace ac:=Y.cell 0 rfl;replace ad:=Y.cell 1 rfl;replace ae:=Z.cell 0 rfl;replace af:=Z.cell 1 rfl;(try replace k:=k.be p);(try replace f:=f.be p);(try replace j:=j.be p);(try replace hA:=hA.be p);(try replace hB:=hB.be p);replace d:=aC d p)
      |(go_at_call 34;(with_reducible refine(bf _ _ _ (o.be d) hA j).mono ?_);rintro eB wB ⟨vB,rfl,hB,O⟩;replace Y:=Y.be O;replace Z:=Z.be O;replace ac:=Y.cell 0 rfl;replace ad:=Y.cell 1 rfl;replace ae:=Z.cell 0 rfl;replace af:=Z.cell 1 rfl;(try replace j:=j.be O);(try replace i:=i.be O);(try replace hC:=hC.be O);replace d:=aC d O))
    go_wp2_with fail;refine aM (v:= .tuple #[vB,vC,.int .i64 0]) (by simp[results,results15,go_sem]) rfl ⟨_,_,0,_,_,rfl,hB,hC,d,(fun h=>absurd ⟨aj.out.1,aj.out.2.1⟩ h),(fun _ _ h=>absurd h aj.out.2.2),(fun _ _ _=>⟨rfl,a9.out⟩)⟩
def gzV(a b:List (List UInt8))(c d:Value)(w:World)(e:Glob w)(j:StrsAt w c a)(k:StrsAt w d b)(o:a.length<=1073741824)(p:b.length<=1073741824)(K:Nat)
  (m:a.length<=65->∀l∈a,l.length<=1073741824)(n:b.length<=65->∀l∈b,l.length<=1073741824)(h:a.length<=65->∀q∈aU a,RL K q)(i:b.length<=65->∀q∈aU b,RL K q)(KB K2:Nat)(r:66*K+1+66*(66*K+2)<=KB)(f:1+65*K+KB<=K2)(g:K2<=10000000):
  Calls prog 15 #[c,d] w (fxE w a b K2):=
 gzU a b c d w e j k o p K m n h i 65 KB K2 id id (by decide) (by omega) f g
def gzW(a b:List (List UInt8))(c d:Value)(w:World)(e:Glob w)(h:StrsAt w c a)(i:StrsAt w d b)(m:a.length<=1073741824)(n:b.length<=1073741824)(K:Nat)
  (j:a.length<=65->∀l∈a,l.length<=1073741824)(k:b.length<=65->∀l∈b,l.length<=1073741824)(f:a.length<=65->∀q∈aU a,RL K q)(g:b.length<=65->∀q∈aU b,RL K q)(o:K<=1024):
  Calls prog 15 #[c,d] w (fxE w a b 10000000):=
 gzV a b c d w e h i m n K j k f g 5000000 10000000 (by omega) (by omega) (by omega)
