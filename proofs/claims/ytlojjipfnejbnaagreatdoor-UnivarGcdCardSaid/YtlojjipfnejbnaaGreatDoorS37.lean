/-
  Contracts of functions that the statement reaches, and plain laws: NumS.
-/
import Derived.Test.YtlojjipfnejbnaaGreatDoorS25
import Derived.Test.YtlojjipfnejbnaaGreatDoorS35
import Derived.Test.YtlojjipfnejbnaaGreatDoorS36
set_option linter.unusedVariables false
set_option linter.unusedSimpArgs false
set_option maxHeartbeats 8000000
set_option maxRecDepth 100000
namespace Go.Proofs.YtlojjipfnejbnaaGreatDoor
open Go.RowKit Sos
def S4 (t:List UInt8) (s6:Value) (w wx:World):Prop:=∃k:Nat,s6= .int .i64 (k:Int)∧CutN t k∧w=wx
def S5 (w:World) (gx:Nat) (l:List UInt8) (wx:World):Prop:=∃q s A k c s' A' k' c',Hid (iP l=some q)∧RL 1073741824 q∧Bx wx gx [.bool s,.slice A k c,.bool s',.slice A' k' c'] 96∧NQ wx (.agg #[.bool s,.slice A k c,.bool s',.slice A' k' c']) q∧Bx wx w.heap.size [.bool false,.slice none 0 0,.bool false,.slice none 0 0] 96∧Below w.heap.size w wx
def S6 (w:World) (l:List UInt8) (e:Ending) (w':World):Prop:=∃v q,e= .returned (.tuple #[v,.bool (rd l)])∧NQ w' v q∧(∀r,aR l=some r→q=r)∧Below w.heap.size w w'
theorem FX (l:List UInt8) (w:World) (hl:l.length≤1073741824):Calls Tryz.prog 70 #[.string ⟨l.toArray⟩] w (S6 w l):=by
 have hsz:(⟨l.toArray⟩:ByteArray).size=l.length:=by simp[ByteArray.size]
 have hul:=TW l;obtain⟨W,eW,hb,R⟩:=bA w [.bool false,.slice none 0 0,.bool false,.slice none 0 0] 96;have cM:=R.g4;go_enter Tryz.func70,Tryz.ntmps70;go_upto_region 2 with fail;(try rw[eW]);clear eW;go_cut [5] (fun s5 wx=>s5= .bool (l.head?==some 45)∧W=wx)
 case first=>
  cases l with
  |nil=>
   go_wp2_with fail;go_meet;exact⟨rfl,rfl⟩
  |cons c m=>
   rw[List.length_cons] at hsz hl;have hp:decide (0<m.length+1)=true:=by simp
   have hix:({ data:=(c :: m).toArray }:ByteArray)[0]'(by rw[hsz];omega)=c:=rfl;by_cases hc:c=45
   ·subst hc;go_wp2_with fail;go_meet;exact⟨rfl,rfl⟩
   ·have hc2:((c.toNat:Int)==45)=false:=by
     rw[beq_eq_false_iff_ne];intro e;exact hc (UInt8.toNat_inj.1 (show c.toNat=(45:UInt8).toNat by show c.toNat=45;omega))
    have HC:Hid (((c :: m).head?==some 45)=false):=by unfold Hid;simpa using hc
    clear hc;go_wp2_with fail;go_meet;exact⟨by rw[HC.out],rfl⟩
 case rest=>
  obtain⟨rfl,rfl⟩:=hcut;generalize hnb:(l.head?==some 45)=nb at *;have HNB:=Lib.hid hnb;clear hnb;go_upto_if 22 with fail;go_cut [4] (fun s4 wx=>s4= .string ⟨(eH l).toArray⟩∧W=wx)
  case first=>
   cases nb with
   |false=>
    have HU:Hid (eH l=l):=by unfold Hid eH;rw[HNB.out];rfl
    go_wp2_with fail;go_meet;exact⟨by rw[HU.out],rfl⟩
   |true=>
    have HU:Hid (eH l=l.drop 1):=by unfold Hid eH;rw[HNB.out,if_pos rfl,List.drop_one]
    have hp:(1:Int)≤(l.length:Int):=by
     have:=HNB.out;cases l with
     |nil=>cases this
     |cons c m=>rw[List.length_cons];omega
    go_wp2_with fail;go_meet;exact⟨by rw[HU.out];exact congrArg Value.string (pC (by rw[iZ,List.take_of_length_le (by simp)])),rfl⟩
  case rest=>
   obtain⟨rfl,rfl⟩:=hcut;generalize ht:eH l=t at *;have HT:=Lib.hid ht;clear ht;have htz:(⟨t.toArray⟩:ByteArray).size=t.length:=by simp[ByteArray.size]
   have htl:t.length≤1073741824:=by omega
   go_upto_block 0 with fail;go_cut [6] (fun s6 wx=>S4 t s6 W wx)
   case first=>
    go_wp2_with fail;go_loopg [6,7] t.length (fun g s6 s7 wr=>∃k:Nat,Hid (k+g=t.length)∧s6= .int .i64 (t.length:Int)∧s7= .int .i64 (k:Int)∧Hid (∀c∈t.take k,iA c=true)∧W=wr)
    case atStart=>exact⟨0,by unfold Hid;omega,rfl,rfl,by unfold Hid;simp,rfl⟩
    case round=>
     obtain⟨k,HK,rfl,rfl,HN,rfl⟩:=hrel;have hk0:(0:Int)≤(k:Int):=by omega
     cases gk with
     |zero=>
      have hge:¬(k:Int)<(t.length:Int):=by have:=HK.out;omega
      have HF:Hid (k=t.length):=by have:=HK.out;unfold Hid;omega
      go_wp2_with fail;go_meet;exact⟨k,by rw[HF.out],CutN.stop HN.out (by have:=HF.out;omega) (.inl (by have:=HF.out;omega)),rfl⟩
     |succ g=>
      have hkl:k<t.length:=by have:=HK.out;omega
      have hki:(k:Int)<(t.length:Int):=by omega
      obtain⟨ch,hch,hcl⟩:∃ch,({ data:=t.toArray }:ByteArray)[k]'(by rw[htz];exact hkl)=ch∧t[k]? =some ch:=⟨_,rfl,by rw[List.getElem?_eq_getElem hkl];rfl⟩;have HCL:=Lib.hid hcl;have htk:t.take (k+1)=t.take k++[ch]:=by rw[List.take_add_one,hcl];rfl
      have HTK:=Lib.hid htk;clear hcl htk;by_cases hc:ch=47
      ·subst hc;go_wp2_with fail;go_meet;exact⟨k,rfl,CutN.stop HN.out (by omega) (.inr ⟨_,HCL.out,by decide⟩),rfl⟩
      ·have hc2:((ch.toNat:Int)==47)=false:=by
        rw[beq_eq_false_iff_ne];intro e;exact hc (UInt8.toNat_inj.1 (show ch.toNat=(47:UInt8).toNat by show ch.toNat=47;omega))
       have HC:Hid (iA ch=true):=by unfold Hid iA;simpa using hc
       clear hc;go_wp2_with fail;go_roundg g
       case rel=>exact⟨k+1,by have:=HK.out;unfold Hid;omega,rfl,by go_num,by
        unfold Hid;rw[HTK.out];intro c hcm;rcases List.mem_append.1 hcm with h|h
        ·exact HN.out c h
        ·rw[List.mem_singleton.1 h];exact HC.out,rfl⟩
       case measure=>omega
   case rest=>
    obtain⟨k,rfl,hC,rfl⟩:=hcut;have hk0:(0:Int)≤(k:Int):=by omega
    have hkl:=hC.le;have hki:(k:Int)≤(t.length:Int):=by omega
    have hx1:({ data:=t.toArray }:ByteArray).extract 0 k=⟨(t.take k).toArray⟩:=pC (by rw[iZ];simp);have htk:(t.take k).length≤1073741824:=by rw[List.length_take];omega
    have hfd:=fun W=>FY (t.take k) W htk;rw[←HT.out] at hC;have hpb:=TY hC;have hpw:=TZ hC;have hpt:=U4 hC;rw[HT.out,HNB.out] at hpw hpt;rw[HT.out] at hpb;clear hC;go_wp2_with fail;clear hx1;refine(hfd _).mono ?_;rintro e1 w1 ⟨v1,z1,rfl,h1,hz1,hb1⟩;obtain⟨s1,A1,k1,c1,rfl⟩:=h1.form;clear hfd;replace R:=R.below hb1;replace cM:=R.g4;replace hb:=aB hb hb1;by_cases hn:t.take k≠[]∧(t.take k).all aQ=true
    ·have r0:decide (t.take k≠[]∧(t.take k).all aQ=true)=true:=decide_eq_true hn;replace hz1:=hz1 hn.2;replace hpw:=hpw hn;replace hpt:=hpt hn;have hln:=mE (uJ hn.2);rw[hz1] at h1;rw[r0];clear hpb hn r0 hz1;generalize aL (t.take k)=n at *;have hmk:=fun W h=>pJ nb (.slice A1 k1 c1) n (cW nb n) W h (by omega) rfl;have hlz:nl (cW nb n).natAbs≤1073741824:=by rw[oV];omega
     have h1w:=h1.words;rw[Int.natAbs_natCast] at h1w;clear hln h1;generalize cW nb n=z at *;obtain⟨w2,e2,hb2,E⟩:=bA w1 [.bool s1,.slice A1 k1 c1] 94;replace R:=R.below hb2;replace h1w:=h1w.below hb2;replace hb:=aB hb hb2;replace cM:=aa R.g4 E.g2;go_wp2_with fail;(try rw[e2]);clear e2;refine(hmk _ h1w).mono ?_;rintro e3 w3 ⟨v3,rfl,h3,hb3⟩;obtain⟨s3,A3,k3,c3,rfl⟩:=h3.form;replace R:=R.below hb3;replace hb:=aB hb hb3;obtain⟨w4,e4,hb4,X⟩:=bA w3 [.bool s3,.slice A3 k3 c3,.bool false,.slice none 0 0] 96;have hgx:w.heap.size<w3.heap.size:=R.lt;replace R:=R.below hb4;replace h3:=h3.below hb4;replace hb:=aB hb hb4;replace cM:=aa R.g4 X.g4;have E4:=Lib.hid e4;clear E hmk h1w hb1 hb2 hb3 e4;go_upto_if 56 with fail;rw[E4.out];clear E4 hb4;generalize w3.heap.size=gx at *;go_cut [] (fun wx=>S5 w gx l wx)
     case first=>
      by_cases hkt:k<t.length
      ·have hpe:=hpt hkt;have hkt1:(k:Int)<(t.length:Int):=by omega
       have hkt2:(k:Int)+1≤(t.length:Int):=by omega
       have hx2:({ data:=t.toArray }:ByteArray).extract (k+1) t.length=⟨(t.drop (k+1)).toArray⟩:=pC (by rw[iZ,List.take_of_length_le (by simp)]);obtain⟨d,hd⟩:∃d,t.drop (k+1)=d:=⟨_,rfl⟩;have hdl:d.length≤1073741824:=by rw[←hd,List.length_drop];omega
       rw[hd] at hx2 hpe;have hfd:=fun W=>FY d W hdl;clear hpw hpt hkt hd;go_wp2_with fail;clear hx2;refine(hfd _).mono ?_;rintro e5 w5 ⟨v5,z5,rfl,h5,hz5,hb5⟩;obtain⟨s5,A5,k5,c5,rfl⟩:=h5.form;clear hfd;obtain⟨w6,e6,hb6,E⟩:=bA w5 [.bool s5,.slice A5 k5 c5] 94;replace R:=(R.below hb5).below hb6;replace X:=(X.below hb5).below hb6;replace h3:=(h3.below hb5).below hb6;replace h5:=h5.below hb6;replace hb:=(aB hb hb5).trans (hb6.mono (aB hb hb5).size);replace cM:=aa R.g4 (aa X.g4 E.g2);by_cases hdd:d≠[]∧d.all aQ=true
       ·have r1:decide (d≠[]∧d.all aQ=true)=true:=decide_eq_true hdd;rw[hz5 hdd.2] at h5;have hln:=mE (uJ hdd.2);have hsg:=fun W h=>G5 ((aL d:Nat):Int) (.agg #[.bool s5,.slice A5 k5 c5]) W h (by rw[Int.natAbs_natCast];omega);rw[r1];by_cases h0:aL d=0
        ·rw[if_neg (fun h=>h.2.2 h0)] at hpe;have HL:=Lib.hid (zB hpe);have hs0:((aL d:Nat):Int).sign=0:=by rw[h0];rfl
         rw[hs0] at hsg;clear hpe hz5 r1 hdd hs0 h0;go_wp2_with fail;clear e6;refine(hsg _ h5).mono ?_;rintro e7 w7 ⟨rfl,hb7⟩;replace R:=R.below hb7;replace hb:=aB hb hb7;replace cM:=R.g4;clear hsg X E;go_wp2_with fail;(try clear e6);obtain⟨W6,eW6,R,hb,hk,ff⟩:=R.mut4 hb (by omega) (.bool false) (.slice none 0 0) (.bool false) (.slice none 0 0) rfl rfl;rw[eW6];clear eW6;replace cM:=R.k4;exact bodyPost_ret (v:= .tuple #[.agg #[.bool false,.slice none 0 0,.bool false,.slice none 0 0],.bool false]) (by simp[results,Tryz.results70,go_sem,R.k4]) rfl ⟨_,0,by rw[HL.out.1],NQ.zero _,HL.out.2 0,hb⟩
        ·rw[if_pos ⟨hdd.1,hdd.2,h0⟩] at hpe;have HPE:=Lib.hid hpe;have hs0:((aL d:Nat):Int).sign=1:=Int.sign_eq_one_of_pos (by omega);rw[hs0] at hsg;have hRL:=lF z ((aL d:Nat):Int) 1073741824 hlz (by rw[Int.natAbs_natCast];omega) (by decide);have hfr:=fun W u v h h'=>uM z ((aL d:Nat):Int) u v W h h' (by omega) (by omega) (by rw[Int.natAbs_natCast];omega);clear hpe hz5 r1 hdd hs0 h0 hln;generalize (z:Rat)/(((aL d:Nat):Int):Rat)=q at *;generalize ((aL d:Nat):Int)=dz at *;go_wp2_with fail;clear e6;refine(hsg _ h5).mono ?_;rintro e7 w7 ⟨rfl,hb7⟩;replace R:=R.below hb7;replace X:=X.below hb7;replace E:=E.below hb7;replace h3:=h3.below hb7;replace h5:=h5.below hb7;replace hb:=aB hb hb7;replace cM:=aa R.g4 (aa X.g4 E.g2);clear hsg;go_wp2_with fail;refine(hfr _ _ _ h3 h5).mono ?_;rintro e8 w8 ⟨v8,rfl,h8,hb8⟩;obtain⟨s8,A8,k8,c8,s9,A9,k9,c9,rfl⟩:=h8.form;clear hfr h3 h5 E;replace R:=R.below hb8;replace X:=X.below hb8;replace cM:=aa R.g4 X.g4;replace hb:=aB hb hb8;go_wp2_with fail;have R_l:=R.lt;have X_l:=X.lt;have hsz_:=hb.size;obtain⟨W6,eW6,X,hb,hk,ff⟩:=X.mut4 hb (by omega) (.bool s8) (.slice A8 k8 c8) (.bool s9) (.slice A9 k9 c9) rfl rfl;replace R:=ff R (by omega);replace h8:=h8.keep hk;rw[eW6];clear eW6;replace cM:=aa R.k4 X.k4;go_meet;exact⟨_,_,_,_,_,_,_,_,_,HPE,hRL,X,h8,R,hb⟩
       ·have r1:decide (d≠[]∧d.all aQ=true)=false:=decide_eq_false hdd;rw[if_neg (fun h=>hdd ⟨h.1,h.2.1⟩)] at hpe;have HL:=Lib.hid (zB hpe);rw[r1];clear hpe hz5 r1 hdd;go_wp2_with fail;(try clear e6);obtain⟨W6,eW6,R,hb,hk,ff⟩:=R.mut4 hb (by omega) (.bool false) (.slice none 0 0) (.bool false) (.slice none 0 0) rfl rfl;rw[eW6];clear eW6;replace cM:=R.k4;exact bodyPost_ret (v:= .tuple #[.agg #[.bool false,.slice none 0 0,.bool false,.slice none 0 0],.bool false]) (by simp[results,Tryz.results70,go_sem,R.k4]) rfl ⟨_,0,by rw[HL.out.1],NQ.zero _,HL.out.2 0,hb⟩
      ·have hki2:¬(k:Int)<(t.length:Int):=by omega
       have HPW:=Lib.hid (hpw (by omega));clear hpw hpt hkt;go_wp2_with fail;go_meet;exact⟨_,_,_,_,_,_,_,_,_,HPW,⟨hlz,by show nl 1≤_;rw[gM (by decide) (by decide)];decide⟩,X,NQ.of h3 (NI.zero _) rfl (u6 _),R,hb⟩
     case rest=>
      clear R X hb cM h3 hpw hpt;obtain⟨q,s5,A5,k5,c5,s6,A6,k6,c6,HQ,hK,X,hq,R,hb⟩:=hcut;have cM:=aa R.g4 X.g4;have htx:=fun W h=>GO q (.agg #[.bool s5,.slice A5 k5 c5,.bool s6,.slice A6 k6 c6]) W h _ hK (by decide);have n1:w.heap.size≠gx:=by omega
      go_wp2_with fail
      go_region_held3 (fun w'=>C4 w' gx (.bool s5) (.slice A5 k5 c5) (.bool s6) (.slice A6 k6 c6))
       (first|(with_reducible exact X.up.k4)|(repeat (first|with_reducible exact X.up.k4|with_reducible refine fP n1 ?_)))
       (first
        |(go_at_call 71;(with_reducible refine(htx _ hq.up).mono ?_);rintro e7 w7 ⟨rfl,hb7⟩;have:=St.mk hb7;have R7:=R.up (b:=w7);have hb7':=mL (b:=w7) hb;have cR:=R7.g4))
      all_goals (
       go_wp2_with fail;obtain⟨W6,e6,R6,hb6,hk6,ff⟩:=R7.mut4 hb7' (by omega) (.bool s5) (.slice A5 k5 c5) (.bool s6) (.slice A6 k6 c6) rfl rfl;rw[e6];clear e6;have hF:=TX HQ.out;have hrd:(aO q==l)=rd l:=by rw[hF.ok,Bool.eq_iff_iff,beq_iff_eq,decide_eq_true_iff]
       exact bodyPost_ret (v:= .tuple #[.agg #[.bool s5,.slice A5 k5 c5,.bool s6,.slice A6 k6 c6],.bool (aO q==l)]) (by simp[results,Tryz.results70,go_sem,R6.k4]) rfl ⟨_,q,by rw[hrd],hq.up.keep hk6,hF.val,hb6⟩)
    ·have r0:decide (t.take k≠[]∧(t.take k).all aQ=true)=false:=decide_eq_false hn;obtain⟨l1,l2⟩:=zB (hpb hn);have HL:=Lib.hid l1;have HL2:=Lib.hid l2;rw[r0];clear hpb hpw hpt hn hz1 l1 l2 r0;obtain⟨w2,e2,hb2, -⟩:=bA w1 [.bool s1,.slice A1 k1 c1] 94;replace R:=R.below hb2;replace cM:=R.g4;replace hb:=aB hb hb2;go_wp2_with fail;clear e2;obtain⟨W6,eW6,R,hb,hk,ff⟩:=R.mut4 hb (by omega) (.bool false) (.slice none 0 0) (.bool false) (.slice none 0 0) rfl rfl;rw[eW6];clear eW6;replace cM:=R.k4;exact bodyPost_ret (v:= .tuple #[.agg #[.bool false,.slice none 0 0,.bool false,.slice none 0 0],.bool false]) (by simp[results,Tryz.results70,go_sem,R.k4]) rfl ⟨_,0,by rw[HL.out],NQ.zero _,HL2.out 0,hb⟩
end Go.Proofs.YtlojjipfnejbnaaGreatDoor
