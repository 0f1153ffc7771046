/- Laws. -/
import Derived.Test.YtmiaanioldpfgaaGreatDoorX20
set_option linter.all false
set_option maxHeartbeats 8000000
set_option maxRecDepth 99999
namespace Go.Proofs.YtmiaanioldpfgaaGreatDoor
open Go.RowKit Sos
def VU(t:List UInt8)(a:Value)(w b:World):Prop:=∃k:Nat,a= .int .i64 (k:Int)∧CutN t k∧w=b
def VV(w:World)(f:Nat)(l:List UInt8)(a:World):Prop:=∃q s A k c e b d c',Hid (lU l=some q)∧RL 1073741824 q∧Bx a f [.bool s,.slice A k c,.bool e,.slice b d c'] 62∧NQ a (.agg #[.bool s,.slice A k c,.bool e,.slice b d c']) q∧Bx a w.1.size [.bool false,.slice none 0 0,.bool false,.slice none 0 0] 62∧Below w.1.size w a
def JH(w:World)(l:List UInt8)(e:Ending)(w':World):Prop:=∃v q,e= .returned (.tuple #[v,.bool (rd l)])∧NQ w' v q∧(∀r,cG l=some r->q=r)∧Below w.1.size w w'
def CE(l:List UInt8)(w:World)(hl:l.length<=1073741824):Calls Tryz.prog 91 #[.string ⟨l.toArray⟩] w (JH w l):=by
 have ar:(⟨l.toArray⟩:ByteArray).size=l.length:=by simp[ByteArray.size]
 have bq:=WI l;obtain⟨W,eW,a,R⟩:=bI w [.bool false,.slice none 0 0,.bool false,.slice none 0 0] 62;have f:=R.g4;go_enter Tryz.func91,Tryz.ntmps91;go_upto_region 2 with fail;(try rw[eW]);clear eW;go_cut [5] (fun A M=>A= .bool (l.head?==some 45)∧W=M)
 case first=>
  cases l with
  |nil=>
   go_wp2;go_meet;exact⟨rfl,rfl⟩
  |cons c m=>
   rw[eG] at ar hl;have hp:decide (0<m.length+1)=true:=by simp
   have bj:({ data:=(c :: m).toArray }:ByteArray)[0]'(by rw[ar];omega)=c:=rfl;by_cases y:c=45
   ·subst y;go_wp2;go_meet;exact⟨rfl,rfl⟩
   ·have a2:((c.toNat:Int)==45)=false:=by
     rw[beq_eq_false_iff_ne];intro e;exact y (UInt8.toNat_inj.1 (show c.toNat=(45:UInt8).toNat by show c.toNat=45;omega))
    have HC:Hid (((c :: m).head?==some 45)=false):=by unfold Hid;simpa using y
    clear y;go_wp2;go_meet;exact⟨by rw[HC.out],rfl⟩
 case rest=>
  obtain⟨rfl,rfl⟩:=hcut;generalize aq:(l.head?==some 45)=nb at *;have ab:=aB aq;clear aq;go_upto_if 22 with fail;go_cut [4] (fun s4 M=>s4= .string ⟨(lF l).toArray⟩∧W=M)
  case first=>
   cases nb with
   |false=>
    have HU:Hid (lF l=l):=by unfold Hid lF;rw[ab.out];rfl
    go_wp2;go_meet;exact⟨by rw[HU.out],rfl⟩
   |true=>
    have HU:Hid (lF l=l.drop 1):=by unfold Hid lF;rw[ab.out,if_pos rfl,List.drop_one]
    have hp:(1:Int)<=(l.length:Int):=by
     have:=ab.out;cases l with
     |nil=>cases this
     |cons c m=>rw[eG];omega
    go_wp2;go_meet;exact⟨by rw[HU.out];exact congrArg Value.string (rX (by rw[mP,cZ (by simp)])),rfl⟩
  case rest=>
   obtain⟨rfl,rfl⟩:=hcut;generalize ht:lF l=t at *;have HT:=aB ht;clear ht;have ba:(⟨t.toArray⟩:ByteArray).size=t.length:=by simp[ByteArray.size]
   have bp:t.length<=1073741824:=by omega
   go_upto_block 0 with fail;go_cut [6] (fun D M=>VU t D W M)
   case first=>
    go_wp2_with fail;go_loopg [6,7] t.length (fun g D s7 wr=>∃k:Nat,Hid (k+g=t.length)∧D= .int .i64 (t.length:Int)∧s7= .int .i64 (k:Int)∧Hid (∀c∈t.take k,cyH c=true)∧W=wr)
    case atStart=>exact⟨0,by unfold Hid;omega,rfl,rfl,by unfold Hid;simp,rfl⟩
    case round=>
     obtain⟨k,HK,rfl,rfl,HN,rfl⟩:=hrel;have a5:(0:Int)<=(k:Int):=by omega
     cases gk with
     |zero=>
      have bh:¬(k:Int)<(t.length:Int):=by have:=HK.out;omega
      have HF:Hid (k=t.length):=by have:=HK.out;unfold Hid;omega
      go_wp2;go_meet;exact⟨k,by rw[HF.out],CutN.stop HN.out (by have:=HF.out;omega) (.inl (by have:=HF.out;omega)),rfl⟩
     |succ g=>
      have ak:k<t.length:=by have:=HK.out;omega
      have a7:(k:Int)<(t.length:Int):=by omega
      obtain⟨x,bg,aj⟩:∃x,({ data:=t.toArray }:ByteArray)[k]'(by rw[ba];exact ak)=x∧t[k]? =some x:=⟨_,rfl,by rw[aR ak];rfl⟩;have av:=aB aj;have ae:t.take (k+1)=t.take k++[x]:=by rw[Q9,aj];rfl
      have az:=aB ae;clear aj ae;by_cases y:x=47
      ·subst y;go_wp2;go_meet;exact⟨k,rfl,CutN.stop HN.out (by omega) (.inr ⟨_,av.out,by decide⟩),rfl⟩
      ·have a2:((x.toNat:Int)==47)=false:=by
        rw[beq_eq_false_iff_ne];intro e;exact y (UInt8.toNat_inj.1 (show x.toNat=(47:UInt8).toNat by show x.toNat=47;omega))
       have HC:Hid (cyH x=true):=by unfold Hid cyH;simpa using y
       clear y;go_wp2;go_roundg g
       case rel=>exact⟨k+1,by have:=HK.out;unfold Hid;omega,rfl,by go_num,by
        unfold Hid;rw[az.out];intro c a3;rcases List.mem_append.1 a3 with h|h
        ·exact HN.out c h
        ·rw[List.mem_singleton.1 h];exact HC.out,rfl⟩
       case measure=>omega
   case rest=>
    obtain⟨k,rfl,N,rfl⟩:=hcut;have a5:(0:Int)<=(k:Int):=by omega
    have ak:=N.le;have a7:(k:Int)<=(t.length:Int):=by omega
    have bb:({ data:=t.toArray }:ByteArray).extract 0 k=⟨(t.take k).toArray⟩:=rX (by rw[mP];simp);have ae:(t.take k).length<=1073741824:=by rw[bK];omega
    have V:=fun W=>JI (t.take k) W ae;rw[<-HT.out] at N;have ad:=WK N;have C:=WL N;have B:=WM N;rw[HT.out,ab.out] at C B;rw[HT.out] at ad;clear N;go_wp2_with fail;clear bb;refine(V _).mono ?_;rintro e1 w1 ⟨v1,z1,rfl,h1,Z,ag⟩;obtain⟨s1,A1,k1,c1,rfl⟩:=h1.form;clear V;replace R:=R.be ag;replace f:=R.g4;replace a:=aC a ag;by_cases hn:t.take k≠[]∧(t.take k).all bO=true
    ·have r0:decide (t.take k≠[]∧(t.take k).all bO=true)=true:=decide_eq_true hn;replace Z:=Z hn.2;replace C:=C hn;replace B:=B hn;have am:=oJ (xP hn.2);rw[Z] at h1;rw[r0];clear ad hn r0 Z;generalize aO (t.take k)=n at *;have ap:=fun W h=>r9 nb (.slice A1 k1 c1) n (fO nb n) W h (by omega) rfl;have ao:nl (fO nb n).natAbs<=1073741824:=by rw[rU];omega
     have T:=h1.words;rw[dD] at T;clear am h1;generalize fO nb n=z at *;obtain⟨w2,e2,J,E⟩:=bI w1 [.bool s1,.slice A1 k1 c1] 60;replace R:=R.be J;replace T:=T.be J;replace a:=aC a J;replace f:=aa R.g4 E.g2;go_wp2_with fail;(try rw[e2]);clear e2;refine(ap _ T).mono ?_;rintro e3 w3 ⟨v3,rfl,j,ah⟩;obtain⟨s3,A3,k3,c3,rfl⟩:=j.form;replace R:=R.be ah;replace a:=aC a ah;obtain⟨w4,e4,ac,X⟩:=bI w3 [.bool s3,.slice A3 k3 c3,.bool false,.slice none 0 0] 62;have bi:w.1.size<w3.1.size:=R.lt;replace R:=R.be ac;replace j:=j.be ac;replace a:=aC a ac;replace f:=aa R.g4 X.g4;have E4:=aB e4;clear E ap T ag J ah e4;go_upto_if 56 with fail;rw[E4.out];clear E4 ac;generalize w3.1.size=gx at *;go_cut [] (fun M=>VV w gx l M)
     case first=>
      by_cases al:k<t.length
      ·have s:=B al;have bm:(k:Int)<(t.length:Int):=by omega
       have bn:(k:Int)+1<=(t.length:Int):=by omega
       have au:({ data:=t.toArray }:ByteArray).extract (k+1) t.length=⟨(t.drop (k+1)).toArray⟩:=rX (by rw[mP,cZ (by simp)]);obtain⟨d,hd⟩:∃d,t.drop (k+1)=d:=⟨_,rfl⟩;have a4:d.length<=1073741824:=by rw[<-hd,gG];omega
       rw[hd] at au s;have V:=fun W=>JI d W a4;clear C B al hd;go_wp2_with fail;clear au;refine(V _).mono ?_;rintro e5 w5 ⟨v5,z5,rfl,p,af,U⟩;obtain⟨A,F,L,H,rfl⟩:=p.form;clear V;obtain⟨w6,I,K,E⟩:=bI w5 [.bool A,.slice F L H] 60;replace R:=(R.be U).be K;replace X:=(X.be U).be K;replace j:=(j.be U).be K;replace p:=p.be K;replace a:=(aC a U).trans (K.mono (aC a U).size);replace f:=aa R.g4 (aa X.g4 E.g2);by_cases r:d≠[]∧d.all bO=true
       ·have P:decide (d≠[]∧d.all bO=true)=true:=decide_eq_true r;rw[af r.2] at p;have am:=oJ (xP r.2);have O:=fun W h=>EK ((aO d:Nat):Int) (.agg #[.bool A,.slice F L H]) W h (by rw[dD];omega);rw[P];by_cases S:aO d=0
        ·rw[if_neg (fun h=>h.2.2 S)] at s;have G:=aB (CH s);have Y:((aO d:Nat):Int).sign=0:=by rw[S];rfl
         rw[Y] at O;clear s af P r Y S;go_wp2_with fail;clear I;refine(O _ p).mono ?_;rintro e7 w7 ⟨rfl,o⟩;replace R:=R.be o;replace a:=aC a o;replace f:=R.g4;clear O X E;go_wp2_with fail;(try clear I);obtain⟨W6,i,R,a,hk,Q⟩:=R.mut4 a (by omega) (.bool false) (.slice none 0 0) (.bool false) (.slice none 0 0) rfl rfl;rw[i];clear i;replace f:=R.k4;exact aM (v:= .tuple #[.agg #[.bool false,.slice none 0 0,.bool false,.slice none 0 0],.bool false]) (by simp[results,Tryz.results91,go_sem,R.k4]) rfl ⟨_,0,by rw[G.out.1],NQ.zero _,G.out.2 0,a⟩
        ·rw[if_pos ⟨r.1,r.2,S⟩] at s;have ax:=aB s;have Y:((aO d:Nat):Int).sign=1:=aqI (by omega);rw[Y] at O;have a0:=CA z ((aO d:Nat):Int) 1073741824 ao (by rw[dD];omega) (by decide);have an:=fun W u v h h'=>fqR z ((aO d:Nat):Int) u v W h h' (by omega) (by omega) (by rw[dD];omega);clear s af P r Y S am;generalize (z:Rat)/(((aO d:Nat):Int):Rat)=q at *;generalize ((aO d:Nat):Int)=dz at *;go_wp2_with fail;clear I;refine(O _ p).mono ?_;rintro e7 w7 ⟨rfl,o⟩;replace R:=R.be o;replace X:=X.be o;replace E:=E.be o;replace j:=j.be o;replace p:=p.be o;replace a:=aC a o;replace f:=aa R.g4 (aa X.g4 E.g2);clear O;go_wp2_with fail;refine(an _ _ _ j p).mono ?_;rintro e8 w8 ⟨v8,rfl,h8,ai⟩;obtain⟨s8,A8,k8,c8,s9,A9,k9,c9,rfl⟩:=h8.form;clear an j p E;replace R:=R.be ai;replace X:=X.be ai;replace f:=aa R.g4 X.g4;replace a:=aC a ai;go_wp2_with fail;have bc:=R.lt;have bf:=X.lt;have bo:=a.size;obtain⟨W6,i,X,a,hk,Q⟩:=X.mut4 a (by omega) (.bool s8) (.slice A8 k8 c8) (.bool s9) (.slice A9 k9 c9) rfl rfl;replace R:=Q R (by omega);replace h8:=h8.ke hk;rw[i];clear i;replace f:=aa R.k4 X.k4;go_meet;exact⟨_,_,_,_,_,_,_,_,_,ax,a0,X,h8,R,a⟩
       ·have P:decide (d≠[]∧d.all bO=true)=false:=decide_eq_false r;rw[if_neg (fun h=>r ⟨h.1,h.2.1⟩)] at s;have G:=aB (CH s);rw[P];clear s af P r;go_wp2_with fail;(try clear I);obtain⟨W6,i,R,a,hk,Q⟩:=R.mut4 a (by omega) (.bool false) (.slice none 0 0) (.bool false) (.slice none 0 0) rfl rfl;rw[i];clear i;replace f:=R.k4;exact aM (v:= .tuple #[.agg #[.bool false,.slice none 0 0,.bool false,.slice none 0 0],.bool false]) (by simp[results,Tryz.results91,go_sem,R.k4]) rfl ⟨_,0,by rw[G.out.1],NQ.zero _,G.out.2 0,a⟩
      ·have bk:¬(k:Int)<(t.length:Int):=by omega
       have ay:=aB (C (by omega));clear C B al;go_wp2;go_meet;exact⟨_,_,_,_,_,_,_,_,_,ay,⟨ao,by show nl 1<=_;rw[mJ (by decide) (by decide)];decide⟩,X,NQ.of j (NI.zero _) rfl (UV _),R,a⟩
     case rest=>
      clear R X a f j C B;obtain⟨q,A,F,L,H,D,A6,k6,c6,HQ,hK,X,hq,R,a⟩:=hcut;have f:=aa R.g4 X.g4;have a9:=fun W h=>CF q (.agg #[.bool A,.slice F L H,.bool D,.slice A6 k6 c6]) W h _ hK (by decide);have n1:w.1.size≠gx:=by omega
      go_wp2_with fail
      go_region_held3 (fun w'=>C4 w' gx (.bool A) (.slice F L H) (.bool D) (.slice A6 k6 c6))
       (first|(with_reducible exact X.up.k4)|(repeat (first|with_reducible exact X.up.k4|with_reducible refine kK n1 ?_)))
       (first
        |(go_at_call 44;refine(a9 _ hq.up).mono ?_;rintro e7 w7 ⟨rfl,o⟩;have:=St.mk o;have R7:=R.up (b:=w7);have a1:=bJ (b:=w7) a;have cR:=R7.g4))
      all_goals (
       go_wp2_with fail;obtain⟨W6,I,R6,K,a6,Q⟩:=R7.mut4 a1 (by omega) (.bool A) (.slice F L H) (.bool D) (.slice A6 k6 c6) rfl rfl;rw[I];clear I;have hF:=WJ HQ.out;have a8:(cW q==l)=rd l:=by rw[hF.ok,bxH,beq_iff_eq,iQ]
       exact aM (v:= .tuple #[.agg #[.bool A,.slice F L H,.bool D,.slice A6 k6 c6],.bool (cW q==l)]) (by simp[results,Tryz.results91,go_sem,R6.k4]) rfl ⟨_,q,by rw[a8],hq.up.ke a6,hF.val,K⟩)
    ·have r0:decide (t.take k≠[]∧(t.take k).all bO=true)=false:=decide_eq_false hn;obtain⟨l1,l2⟩:=CH (ad hn);have G:=aB l1;have aw:=aB l2;rw[r0];clear ad C B hn Z l1 l2 r0;obtain⟨w2,e2,J, -⟩:=bI w1 [.bool s1,.slice A1 k1 c1] 60;replace R:=R.be J;replace f:=R.g4;replace a:=aC a J;go_wp2_with fail;clear e2;obtain⟨W6,i,R,a,hk,Q⟩:=R.mut4 a (by omega) (.bool false) (.slice none 0 0) (.bool false) (.slice none 0 0) rfl rfl;rw[i];clear i;replace f:=R.k4;exact aM (v:= .tuple #[.agg #[.bool false,.slice none 0 0,.bool false,.slice none 0 0],.bool false]) (by simp[results,Tryz.results91,go_sem,R.k4]) rfl ⟨_,0,by rw[G.out],NQ.zero _,aw.out 0,a⟩
