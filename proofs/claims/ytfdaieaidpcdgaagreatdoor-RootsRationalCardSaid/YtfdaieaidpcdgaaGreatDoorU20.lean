/- Laws. -/
import Derived.Test.YtfdaieaidpcdgaaGreatDoorU19
set_option linter.all false
set_option maxHeartbeats 8000000
set_option maxRecDepth 99999
namespace Go.Proofs.YtfdaieaidpcdgaaGreatDoor
open Go.RowKit Sos
def VU(t:List UInt8)(a:Value)(w b:World):Prop:=∃k:Nat,a= .int .i64 (k:Int)∧CutN t k∧w=b
def VV(w:World)(e:Nat)(l:List UInt8)(a:World):Prop:=∃q s A k c s' b d c',Hid (lU l=some q)∧RL 1073741824 q∧Bx a e [.bool s,.slice A k c,.bool s',.slice b d c'] 108∧NQ a (.agg #[.bool s,.slice A k c,.bool s',.slice b d c']) q∧Bx a w.1.size [.bool false,.slice none 0 0,.bool false,.slice none 0 0] 108∧Below w.1.size w a
def JH(w:World)(l:List UInt8)(e:Ending)(w':World):Prop:=∃v q,e= .returned (.tuple #[v,.bool (rd l)])∧NQ w' v q∧(∀r,bD l=some r->q=r)∧Below w.1.size w w'
def CE(l:List UInt8)(w:World)(hl:l.length<=1073741824):Calls Tryz.prog 160 #[.string ⟨l.toArray⟩] w (JH w l):=by
 have au:(⟨l.toArray⟩:ByteArray).size=l.length:=by simp[ByteArray.size]
 have br:=WI l;obtain⟨W,eW,a,R⟩:=bI w [.bool false,.slice none 0 0,.bool false,.slice none 0 0] 108;have f:=R.g4;go_enter Tryz.func160,Tryz.ntmps160;go_upto_region 2 with fail;(try rw[eW]);clear eW;go_cut [5] (fun A M=>A= .bool (l.head?==some 45)∧W=M)
 case first=>
  cases l with
  |nil=>
   go_wp2;go_meet;exact⟨rfl,rfl⟩
  |cons c m=>
   rw[eG] at au hl;have hp:decide (0<m.length+1)=true:=by simp
   have bk:({ data:=(c :: m).toArray }:ByteArray)[0]'(by rw[au];omega)=c:=rfl;by_cases y:c=45
   ·subst y;go_wp2;go_meet;exact⟨rfl,rfl⟩
   ·have a3:((c.toNat:Int)==45)=false:=by
     rw[beq_eq_false_iff_ne];intro e;exact y (UInt8.toNat_inj.1 (show c.toNat=(45:UInt8).toNat by show c.toNat=45;omega))
    have HC:Hid (((c :: m).head?==some 45)=false):=by unfold Hid;simpa using y
    clear y;go_wp2;go_meet;exact⟨by rw[HC.out],rfl⟩
 case rest=>
  obtain⟨rfl,rfl⟩:=hcut;generalize ar:(l.head?==some 45)=nb at *;have ac:=aB ar;clear ar;go_upto_if 22 with fail;go_cut [4] (fun s4 M=>s4= .string ⟨(gI l).toArray⟩∧W=M)
  case first=>
   cases nb with
   |false=>
    have HU:Hid (gI l=l):=by unfold Hid gI;rw[ac.out];rfl
    go_wp2;go_meet;exact⟨by rw[HU.out],rfl⟩
   |true=>
    have HU:Hid (gI l=l.drop 1):=by unfold Hid gI;rw[ac.out,if_pos rfl,List.drop_one]
    have hp:(1:Int)<=(l.length:Int):=by
     have:=ac.out;cases l with
     |nil=>cases this
     |cons c m=>rw[eG];omega
    go_wp2;go_meet;exact⟨by rw[HU.out];exact congrArg Value.string (rX (by rw[mP,cZ (by simp)])),rfl⟩
  case rest=>
   obtain⟨rfl,rfl⟩:=hcut;generalize ht:gI l=t at *;have HT:=aB ht;clear ht;have bb:(⟨t.toArray⟩:ByteArray).size=t.length:=by simp[ByteArray.size]
   have bq:t.length<=1073741824:=by omega
   go_upto_block 0 with fail;go_cut [6] (fun D M=>VU t D W M)
   case first=>
    go_wp2_with fail;go_loopg [6,7] t.length (fun g D s7 wr=>∃k:Nat,Hid (k+g=t.length)∧D= .int .i64 (t.length:Int)∧s7= .int .i64 (k:Int)∧Hid (∀c∈t.take k,cyH c=true)∧W=wr)
    case atStart=>exact⟨0,by unfold Hid;omega,rfl,rfl,by unfold Hid;simp,rfl⟩
    case round=>
     obtain⟨k,HK,rfl,rfl,HN,rfl⟩:=hrel;have a6:(0:Int)<=(k:Int):=by omega
     cases gk with
     |zero=>
      have bi:¬(k:Int)<(t.length:Int):=by have:=HK.out;omega
      have HF:Hid (k=t.length):=by have:=HK.out;unfold Hid;omega
      go_wp2;go_meet;exact⟨k,by rw[HF.out],CutN.stop HN.out (by have:=HF.out;omega) (.inl (by have:=HF.out;omega)),rfl⟩
     |succ g=>
      have al:k<t.length:=by have:=HK.out;omega
      have a8:(k:Int)<(t.length:Int):=by omega
      obtain⟨x,bh,ak⟩:∃x,({ data:=t.toArray }:ByteArray)[k]'(by rw[bb];exact al)=x∧t[k]? =some x:=⟨_,rfl,by rw[aR al];rfl⟩;have aw:=aB ak;have af:t.take (k+1)=t.take k++[x]:=by rw[Q9,ak];rfl
      have a0:=aB af;clear ak af;by_cases y:x=47
      ·subst y;go_wp2;go_meet;exact⟨k,rfl,CutN.stop HN.out (by omega) (.inr ⟨_,aw.out,by decide⟩),rfl⟩
      ·have a3:((x.toNat:Int)==47)=false:=by
        rw[beq_eq_false_iff_ne];intro e;exact y (UInt8.toNat_inj.1 (show x.toNat=(47:UInt8).toNat by show x.toNat=47;omega))
       have HC:Hid (cyH x=true):=by unfold Hid cyH;simpa using y
       clear y;go_wp2;go_roundg g
       case rel=>exact⟨k+1,by have:=HK.out;unfold Hid;omega,rfl,by go_num,by
        unfold Hid;rw[a0.out];intro c a4;rcases List.mem_append.1 a4 with h|h
        ·exact HN.out c h
        ·rw[List.mem_singleton.1 h];exact HC.out,rfl⟩
       case measure=>omega
   case rest=>
    obtain⟨k,rfl,N,rfl⟩:=hcut;have a6:(0:Int)<=(k:Int):=by omega
    have al:=N.le;have a8:(k:Int)<=(t.length:Int):=by omega
    have bc:({ data:=t.toArray }:ByteArray).extract 0 k=⟨(t.take k).toArray⟩:=rX (by rw[mP];simp);have af:(t.take k).length<=1073741824:=by rw[bK];omega
    have V:=fun W=>JI (t.take k) W af;rw[<-HT.out] at N;have ae:=WK N;have C:=WL N;have B:=WM N;rw[HT.out,ac.out] at C B;rw[HT.out] at ae;clear N;go_wp2_with fail;clear bc;refine(V _).mono ?_;rintro e1 w1 ⟨v1,z1,rfl,h1,Z,ah⟩;obtain⟨s1,A1,k1,c1,rfl⟩:=h1.form;clear V;replace R:=R.be ah;replace f:=R.g4;replace a:=aC a ah;by_cases hn:t.take k≠[]∧(t.take k).all bO=true
    ·have r0:decide (t.take k≠[]∧(t.take k).all bO=true)=true:=decide_eq_true hn;replace Z:=Z hn.2;replace C:=C hn;replace B:=B hn;have an:=oJ (xP hn.2);rw[Z] at h1;rw[r0];clear ae hn r0 Z;generalize aO (t.take k)=n at *;have aq:=fun W h=>r9 nb (.slice A1 k1 c1) n (fO nb n) W h (by omega) rfl;have ap:nl (fO nb n).natAbs<=1073741824:=by rw[rU];omega
     have T:=h1.words;rw[dD] at T;clear an h1;generalize fO nb n=z at *;obtain⟨w2,e2,J,E⟩:=bI w1 [.bool s1,.slice A1 k1 c1] 106;replace R:=R.be J;replace T:=T.be J;replace a:=aC a J;replace f:=aa R.g4 E.g2;go_wp2_with fail;(try rw[e2]);clear e2;refine(aq _ T).mono ?_;rintro e3 w3 ⟨v3,rfl,j,ai⟩;obtain⟨s3,A3,k3,c3,rfl⟩:=j.form;replace R:=R.be ai;replace a:=aC a ai;obtain⟨w4,e4,ad,X⟩:=bI w3 [.bool s3,.slice A3 k3 c3,.bool false,.slice none 0 0] 108;have bj:w.1.size<w3.1.size:=R.lt;replace R:=R.be ad;replace j:=j.be ad;replace a:=aC a ad;replace f:=aa R.g4 X.g4;have E4:=aB e4;clear E aq T ah J ai e4;go_upto_if 56 with fail;rw[E4.out];clear E4 ad;generalize w3.1.size=gx at *;go_cut [] (fun M=>VV w gx l M)
     case first=>
      by_cases am:k<t.length
      ·have s:=B am;have bn:(k:Int)<(t.length:Int):=by omega
       have bo:(k:Int)+1<=(t.length:Int):=by omega
       have av:({ data:=t.toArray }:ByteArray).extract (k+1) t.length=⟨(t.drop (k+1)).toArray⟩:=rX (by rw[mP,cZ (by simp)]);obtain⟨d,hd⟩:∃d,t.drop (k+1)=d:=⟨_,rfl⟩;have a5:d.length<=1073741824:=by rw[<-hd,eP];omega
       rw[hd] at av s;have V:=fun W=>JI d W a5;clear C B am hd;go_wp2_with fail;clear av;refine(V _).mono ?_;rintro e5 w5 ⟨v5,z5,rfl,p,ag,U⟩;obtain⟨A,F,L,H,rfl⟩:=p.form;clear V;obtain⟨w6,I,K,E⟩:=bI w5 [.bool A,.slice F L H] 106;replace R:=(R.be U).be K;replace X:=(X.be U).be K;replace j:=(j.be U).be K;replace p:=p.be K;replace a:=(aC a U).trans (K.mono (aC a U).size);replace f:=aa R.g4 (aa X.g4 E.g2);by_cases r:d≠[]∧d.all bO=true
       ·have P:decide (d≠[]∧d.all bO=true)=true:=decide_eq_true r;rw[ag r.2] at p;have an:=oJ (xP r.2);have O:=fun W h=>EK ((aO d:Nat):Int) (.agg #[.bool A,.slice F L H]) W h (by rw[dD];omega);rw[P];by_cases S:aO d=0
        ·rw[if_neg (fun h=>h.2.2 S)] at s;have G:=aB (CH s);have Y:((aO d:Nat):Int).sign=0:=by rw[S];rfl
         rw[Y] at O;clear s ag P r Y S;go_wp2_with fail;clear I;refine(O _ p).mono ?_;rintro e7 w7 ⟨rfl,o⟩;replace R:=R.be o;replace a:=aC a o;replace f:=R.g4;clear O X E;go_wp2_with fail;(try clear I);obtain⟨W6,i,R,a,hk,Q⟩:=R.mut4 a (by omega) (.bool false) (.slice none 0 0) (.bool false) (.slice none 0 0) rfl rfl;rw[i];clear i;replace f:=R.k4;exact aM (v:= .tuple #[.agg #[.bool false,.slice none 0 0,.bool false,.slice none 0 0],.bool false]) (by simp[results,Tryz.results160,go_sem,R.k4]) rfl ⟨_,0,by rw[G.out.1],NQ.zero _,G.out.2 0,a⟩
        ·rw[if_pos ⟨r.1,r.2,S⟩] at s;have ay:=aB s;have Y:((aO d:Nat):Int).sign=1:=aqI (by omega);rw[Y] at O;have a1:=CA z ((aO d:Nat):Int) 1073741824 ap (by rw[dD];omega) (by decide);have ao:=fun W u v h h'=>vE z ((aO d:Nat):Int) u v W h h' (by omega) (by omega) (by rw[dD];omega);clear s ag P r Y S an;generalize (z:Rat)/(((aO d:Nat):Int):Rat)=q at *;generalize ((aO d:Nat):Int)=dz at *;go_wp2_with fail;clear I;refine(O _ p).mono ?_;rintro e7 w7 ⟨rfl,o⟩;replace R:=R.be o;replace X:=X.be o;replace E:=E.be o;replace j:=j.be o;replace p:=p.be o;replace a:=aC a o;replace f:=aa R.g4 (aa X.g4 E.g2);clear O;go_wp2_with fail;refine(ao _ _ _ j p).mono ?_;rintro e8 w8 ⟨v8,rfl,h8,aj⟩;obtain⟨s8,A8,k8,c8,s9,A9,k9,c9,rfl⟩:=h8.form;clear ao j p E;replace R:=R.be aj;replace X:=X.be aj;replace f:=aa R.g4 X.g4;replace a:=aC a aj;go_wp2_with fail;have bf:=R.lt;have bg:=X.lt;have bp:=a.size;obtain⟨W6,i,X,a,hk,Q⟩:=X.mut4 a (by omega) (.bool s8) (.slice A8 k8 c8) (.bool s9) (.slice A9 k9 c9) rfl rfl;replace R:=Q R;replace h8:=h8.ke hk;rw[i];clear i;replace f:=aa R.k4 X.k4;go_meet;exact⟨_,_,_,_,_,_,_,_,_,ay,a1,X,h8,R,a⟩
       ·have P:decide (d≠[]∧d.all bO=true)=false:=decide_eq_false r;rw[if_neg (fun h=>r ⟨h.1,h.2.1⟩)] at s;have G:=aB (CH s);rw[P];clear s ag P r;go_wp2_with fail;(try clear I);obtain⟨W6,i,R,a,hk,Q⟩:=R.mut4 a (by omega) (.bool false) (.slice none 0 0) (.bool false) (.slice none 0 0) rfl rfl;rw[i];clear i;replace f:=R.k4;exact aM (v:= .tuple #[.agg #[.bool false,.slice none 0 0,.bool false,.slice none 0 0],.bool false]) (by simp[results,Tryz.results160,go_sem,R.k4]) rfl ⟨_,0,by rw[G.out.1],NQ.zero _,G.out.2 0,a⟩
      ·have bm:¬(k:Int)<(t.length:Int):=by omega
       have az:=aB (C (by omega));clear C B am;go_wp2;go_meet;exact⟨_,_,_,_,_,_,_,_,_,az,⟨ap,by show nl 1<=_;rw[mJ (by decide) (by decide)];decide⟩,X,NQ.of j (NI.zero _) rfl (UV _),R,a⟩
     case rest=>
      clear R X a f j C B;obtain⟨q,A,F,L,H,D,A6,k6,c6,HQ,hK,X,hq,R,a⟩:=hcut;have f:=aa R.g4 X.g4;have ba:=fun W h=>CF q (.agg #[.bool A,.slice F L H,.bool D,.slice A6 k6 c6]) W h _ hK (by decide);have n1:w.1.size≠gx:=by omega
      go_wp2_with fail
      go_region_held3 (fun w'=>C4 w' gx (.bool A) (.slice F L H) (.bool D) (.slice A6 k6 c6))
       (first|(with_reducible exact X.up.k4)|(repeat (first|with_reducible exact X.up.k4|with_reducible refine kK n1 ?_)))
       (first
        |(go_at_call 71;refine(ba _ hq.up).mono ?_;rintro e7 w7 ⟨rfl,o⟩;have:=St.mk o;have R7:=R.up (b:=w7);have a2:=bJ (b:=w7) a;have cR:=R7.g4))
      all_goals (
       go_wp2_with fail;obtain⟨W6,I,R6,K,a7,Q⟩:=R7.mut4 a2 (by omega) (.bool A) (.slice F L H) (.bool D) (.slice A6 k6 c6) rfl rfl;rw[I];clear I;have hF:=WJ HQ.out;have a9:(cW q==l)=rd l:=by rw[hF.ok,bxH,beq_iff_eq,iQ]
       exact aM (v:= .tuple #[.agg #[.bool A,.slice F L H,.bool D,.slice A6 k6 c6],.bool (cW q==l)]) (by simp[results,Tryz.results160,go_sem,R6.k4]) rfl ⟨_,q,by rw[a9],hq.up.ke a7,hF.val,K⟩)
    ·have r0:decide (t.take k≠[]∧(t.take k).all bO=true)=false:=decide_eq_false hn;obtain⟨l1,l2⟩:=CH (ae hn);have G:=aB l1;have ax:=aB l2;rw[r0];clear ae C B hn Z l1 l2 r0;obtain⟨w2,e2,J, -⟩:=bI w1 [.bool s1,.slice A1 k1 c1] 106;replace R:=R.be J;replace f:=R.g4;replace a:=aC a J;go_wp2_with fail;clear e2;obtain⟨W6,i,R,a,hk,Q⟩:=R.mut4 a (by omega) (.bool false) (.slice none 0 0) (.bool false) (.slice none 0 0) rfl rfl;rw[i];clear i;replace f:=R.k4;exact aM (v:= .tuple #[.agg #[.bool false,.slice none 0 0,.bool false,.slice none 0 0],.bool false]) (by simp[results,Tryz.results160,go_sem,R.k4]) rfl ⟨_,0,by rw[G.out],NQ.zero _,ax.out 0,a⟩
