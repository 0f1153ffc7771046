/-
  Contracts of functions that the statement reaches, and plain laws: RefE.
-/
import Derived.Test.YtlojjipfnejbnaaGreatDoorS38
set_option linter.unusedVariables false
set_option linter.unusedSimpArgs false
set_option maxHeartbeats 8000000
set_option maxRecDepth 100000
namespace Go.Proofs.YtlojjipfnejbnaaGreatDoor
open Go.RowKit Sos
def H9 (w:World) (a b:List Rat) (B:Nat) (e:Ending) (w':World):Prop:=∃v u Q R,e= .returned (.tuple #[v,u])∧QsAt w' v Q∧QsAt w' u R∧DivQ a b Q R∧(∀q∈Q,RL B q)∧(∀q∈R,RL B q)∧Q.length≤a.length∧R.length≤a.length∧Below w.heap.size w w'
theorem uQ (a b:List Rat) (va vb:Value) (w:World) (ha:QsAt w va a) (hb':QsAt w vb b) (K:Nat) (hKa:∀q∈a,RL K q) (hKb:∀q∈b,RL K q) (h1:1≤K) (hla:a.length≤1024) (hn:1≤b.length) (hB:cf b (b.length-1)≠0) (D:Nat) (hDK:K≤D) (hD:b.length≤a.length→2*fI K (a.length-b.length+1)≤D) (hK:2*D+1≤549755813888):
  Calls Tryz.prog 86 #[va,vb] w (H9 w a b D):=by
 obtain⟨A,ca,rfl,hca⟩:=ha.form;obtain⟨A',cb,rfl,hcb⟩:=hb'.form;go_enter Tryz.func86,Tryz.ntmps86;go_upto_if 20 with (at_builtin;refine zJ rfl rfl rfl rfl ha (by omega) ?_;intro v1 w1 hq1 hv1 hb1;obtain⟨A1,c1,rfl,hc1⟩:=hq1.form);by_cases hs:a.length<b.length
 ·have r0:(a.length:Int)<(b.length:Int):=by omega
  have HS:=Lib.hid hs;have htr:=fun W h=>r7 a (.slice A1 a.length c1) W h (fun q hq=>Nat.le_trans (hKa q hq).1 (by omega)) (by omega);clear hs hv1;go_wp2_with fail;refine(htr _ hq1).mono ?_;rintro e2 w2 ⟨v2,rfl,h2,hb2⟩;go_wp2_with fail;go_ret2;exact⟨_,_,[],_,rfl,QsAt.nil _,h2,DivQ.short HS.out,(fun q hq=>by cases hq),(fun q hq=>bV (hKa q (fQ hq)) (by omega)),Nat.zero_le _,cK _ _,aB hb1 hb2⟩
 ·have r0:¬(a.length:Int)<(b.length:Int):=by omega
  obtain⟨gr,rfl,hgr,R0⟩:∃g,A1=some ⟨g,0,none⟩∧w.heap.size≤g∧OwnQ w1 g a:=by
   rcases hv1 with h|⟨g,cap,e,h1,h2⟩
   ·simp only[Value.slice.injEq] at h;omega
   ·simp only[Value.slice.injEq] at e;exact⟨g,e.1,h1,h2⟩
  obtain⟨N,hN⟩:∃N,a.length-b.length+1=N:=⟨_,rfl⟩;have hNi:(a.length:Int)-(b.length:Int)+1=(N:Int):=by omega
  have hDN:=hD (by omega);rw[hN] at hDN;have hDK2:=rB K N;clear hD;have hN2:(a.length:Int)-(b.length:Int)=(N:Int)-1:=by omega
  have hNa:N+b.length=a.length+1:=by omega
  have HJ0:Hid (DivJ a b (List.replicate N 0) a N):=by rw[←hN];exact DivJ.start a b (by omega)
  clear hs hv1 hq1 hN;go_wp2_with (at_make;refine eZ rfl rfl 96 _ 4 64 Tryz.underlying63 rA rfl (by decide) N rfl rfl (by first|rfl|omega) (by first|rfl|omega) (by omega) (by omega) ?_;intro w2 hz2 hr2 hb2);have Q0:=OwnQ.made hr2;have hqr:gr<w1.heap.size:=R0.lt;have hgq:w.heap.size≤w1.heap.size:=by omega
  replace R0:=R0.below hb2;replace hb1:=aB hb1 hb2;generalize w1.heap.size=gq at *;clear hr2 hz2 hb2 r0;have HKB:Hid (∀j,RL K (cf b j)):=fun j=>fV hKb (eO h1) j;go_loopg [9] N (fun k i wr=>∃(z:Int) (Q R:List Rat),Hid (z=(k:Int)-1)∧i= .int .i64 z∧k≤N∧Hid (Q.length=N)∧Hid (R.length=a.length)∧Hid (DivJ a b Q R k)∧Hid (∀q∈Q,RL D q)∧Hid (∀q∈R,RL (fI K (N-k)) q)∧OwnQ wr gq Q∧OwnQ wr gr R∧Below w.heap.size w wr)
  case atStart=>exact⟨(N:Int)-1,List.replicate N 0,a,rfl,rfl,Nat.le_refl _,List.length_replicate ..,rfl,HJ0,(fun q hq=>bV (uO N q hq) (by omega)),(by rw[Nat.sub_self];exact hKa),Q0,R0,hb1⟩
  case round=>
   clear Q0 R0 hb1 HJ0;obtain⟨z,Q,R,HZ,rfl,hk,HQL,HRL,HDJ,HQB,HRB,Qo,Ro,hb⟩:=hrel;generalize wr=wz at *;cases gk with
   |zero=>
    have hz:z<0:=by have:=HZ.out;omega
    have hz':¬0≤z:=by omega
    have hQ:=Qo.nums N (by rw[HQL.out];exact Nat.le_refl _);have hR:=Ro.nums c1 (by rw[HRL.out];exact hc1);rw[HQL.out] at hQ;rw[HRL.out] at hR;have hRD:∀q∈R,RL D q:=eI HRB.out (by have:=jW K (show N-0≤N by omega);omega);have ht1:=fun W h=>r7 Q (.slice (some ⟨gq,0,none⟩) N N) W h (fun q hq=>Nat.le_trans (HQB.out q hq).1 (by omega)) (by rw[HQL.out];omega);have ht2:=fun W h=>r7 R (.slice (some ⟨gr,0,none⟩) a.length c1) W h (fun q hq=>Nat.le_trans (hRD q hq).1 (by omega)) (by rw[HRL.out];omega);have HRD:=Lib.hid hRD;clear Qo Ro hRD;go_wp2_with fail;refine(ht1 _ hQ).mono ?_;rintro e2 w2 ⟨v2,rfl,h2,hb2⟩;replace hR:=hR.below hb2;replace hb:=aB hb hb2;clear ht1 hQ;go_wp2_with fail;refine(ht2 _ hR).mono ?_;rintro e3 w3 ⟨v3,rfl,h3,hb3⟩;replace h2:=h2.below hb3;go_wp2_with fail;go_ret2;exact⟨_,_,_,_,rfl,h2,h3,HDJ.out.done hn,(fun q hq=>HQB.out q (fQ hq)),(fun q hq=>HRD.out q (fQ hq)),Nat.le_trans (cK _ _) (by rw[HQL.out];omega),Nat.le_trans (cK _ _) (by rw[HRL.out];exact Nat.le_refl _),aB hb hb3⟩
   |succ k=>
    obtain rfl:z=(k:Int):=by have:=HZ.out;omega
    obtain⟨m,hm⟩:∃m,k+b.length-1=m:=⟨_,rfl⟩;obtain⟨l,hl⟩:∃l,b.length-1=l:=⟨_,rfl⟩;have hk0:(0:Int)≤(k:Int):=by omega
    obtain⟨t,ht⟩:∃t,k+b.length=t:=⟨_,rfl⟩;have hti:(k:Int)+(b.length:Int)=(t:Int):=by omega
    have hmi:(t:Int)-1=(m:Int):=by omega
    have htl:t≤1024:=by omega
    have hwt:IntKind.i64.wrap (t:Int)=(t:Int):=IntWalk.i64_in _ ⟨by omega,by omega⟩;have hwm:IntKind.i64.wrap (m:Int)=(m:Int):=IntWalk.i64_in _ ⟨by omega,by omega⟩;have hli:(b.length:Int)-1=(l:Int):=by omega
    have hwl:IntKind.i64.wrap (l:Int)=(l:Int):=IntWalk.i64_in _ ⟨by omega,by omega⟩;have hm0:(0:Int)≤(m:Int):=by omega
    have hl0:(0:Int)≤(l:Int):=by omega
    have hma:m<a.length:=by omega
    have hlb:l<b.length:=by omega
    have hmA:(m:Int)<(a.length:Int):=by omega
    have hlB:(l:Int)<(b.length:Int):=by omega
    obtain⟨f,hf⟩:∃f,f=cf R m/cf b l:=⟨_,rfl⟩;obtain⟨g,hg⟩:∃g:Nat→Rat,g=fun j=>cf R j-f*cf b (j-k):=⟨_,rfl⟩;have HG:Hid (∀j,g (k+j)=cf R (k+j)-f*cf b j):=fun j=>by rw[hg];simp only[Nat.add_sub_cancel_left]
    have hB0:cf b l≠0:=by rw[←hl];exact hB
    have hst:=DivJ.step HDJ.out hB hn (by rw[HQL.out];omega) (by rw[HRL.out];omega) (f:=f) (by rw[hm,hl];exact hf);rw[←hg] at hst;have HST:=Lib.hid hst;obtain⟨d,hd⟩:∃d,fI K (N-(k+1))=d:=⟨_,rfl⟩;have hd1:fI K (N-k)=2*d+2*K+1:=by rw[←hd,show N-k=(N-(k+1))+1 by omega];rfl
    have hd2:=jW K (show N-k≤N by omega);have hRd:=HRB.out;rw[hd] at hRd;have hK0:K≤d:=by rw[←hd];exact rB K _
    have hcR:∀j,RL d (cf R j):=fun j=>fV hRd (eO (by omega)) j;have hfR:RL (d+K) f:=by rw[hf];exact jX (hcR m) (HKB.out l)
    have HCR:=Lib.hid hcR;have HFR:=Lib.hid hfR
    have hRR:=uN (l:=R) (g:=g) (i:=k) (k:=b.length) (K:=fI K (N-k)) (eI hRd (by omega)) (fun j=>by
     rw[hg];exact bV (zZ (hcR j) (iB hfR (HKB.out (j-k)))) (by omega)) (by omega)
    have HRR:=Lib.hid hRR;have hQR:∀q∈Q.set k f,RL D q:=fun q hq=>by
     rcases List.mem_or_eq_of_mem_set hq with hq|rfl
     ·exact HQB.out q hq
     ·exact bV hfR (by omega)
    have HQR:=Lib.hid hQR;have hdiv:=fun W u v h h'=>uL (cf R m) (cf b l) u v W h h' D (bV (hcR m) (by omega)) (bV (HKB.out l) (by omega)) (by omega) hB0;rw[←hf] at hdiv;unfold fR at hdiv;obtain⟨s5,A5,k5,c5,s6,A6,k6,c6,o0,ho⟩:=Ro.at_ (show R[m]? =some (cf R m) by have h:=hma;rw[←HRL.out] at h;rw[List.getElem?_eq_getElem h,←dO h]);obtain⟨bb,s3,A3,k3,c3,s4,A4,k4,c4,hA',hbl,g0,hi⟩:=(hb'.below hb).cell hlb;have ol:=Ro.lt;clear hf hg hst hd hRd hcR hfR hRR hQR hB0 hm hl ht HDJ HQB HRB;generalize cf R m=rm at *;generalize cf b l=bl at *;subst hA';go_wp2_with fail;go_cut [10] (fun s10 wx=>∃gf,s10= .pointer (some ⟨gf,0,none⟩)∧wz.heap.size≤gf∧QVar wx gf f∧Below wz.heap.size wz wx)
    case first=>
     go_region_held3 (fun w'=>R4 w' gr (m*4) (.bool s5) (.slice A5 k5 c5) (.bool s6) (.slice A6 k6 c6)∧R4 w' bb (l*4) (.bool s3) (.slice A3 k3 c3) (.bool s4) (.slice A4 k4 c4))
      (with_reducible exact⟨o0.up ol,g0.up hbl⟩)
      (first|(go_at_call 128;(with_reducible refine(hdiv _ _ _ ho.up hi.up).mono ?_);rintro e7 w7 ⟨v7,rfl,h7,hb7⟩;obtain⟨s7,A7,k7,c7,s8,A8,k8,c8,rfl⟩:=h7.form;have:=St.mk hb7;have TT:=Up.out (a:=wz) (b:=w7);have ll:=TT.size;(try (have D7:=(Bx.newAt wz zR 96 wz.heap.size rfl).up (b:=w7);have D7k:=D7.g4))))
     all_goals (
      go_wp2_with fail;go_meet;refine⟨_,rfl,by omega,?_⟩
      first|(with_reducible exact UH h7 TT)|(with_reducible exact UI D7 h7 TT (by omega)))
    case rest=>
     clear o0 g0 ho hi hdiv;obtain⟨gf,rfl,hgf,F,hbc⟩:=hcut;generalize wc=wy at *;have n1:gf≠gr:=by omega
     have n2:gf≠gq:=by have:=Qo.lt;omega
     have hgf0:w.heap.size≤gf:=by have:=hb.size;omega
     replace Qo:=Qo.below hbc;replace Ro:=Ro.below hbc;replace hb:=aB hb hbc;obtain⟨s9,A9,k9,c9,s0,A0,k0,c0,Fb,hF⟩:=F;have cF:=Fb.k4;have hkQ:k<Q.length:=by rw[HQL.out];omega
     have hkN:(k:Int)<(N:Int):=by omega
     obtain⟨s1,A1,k1,c1,s2,A2,k2,c2,q0, -⟩:=Qo.at_ (List.getElem?_eq_getElem hkQ);have fq:=Qo.free;clear hbc ol;go_wp2_with fail;obtain⟨zQ,hst⟩:=Qo.stored hkQ hF;have zR:=Ro.step hst (by omega);rw[←zM (l:=R) (g:=g) (i:=k)] at zR;have zF:QVar _ gf f:=⟨_,_,_,_,_,_,_,_,(hst.2.2.1 gf n2).trans Fb,hF.keep hst.1⟩;have zb:=dE hb hst.2 hgq;clear hst Qo Ro Fb hF cF q0 fq hb;go_loopg [11] b.length (fun k' i wr=>∃j,Hid (j+k'=b.length)∧i= .int .i64 j∧OwnQ wr gr (d8 R g k j)∧OwnQ wr gq (Q.set k f)∧QVar wr gf f∧Below w.heap.size w wr)
     case atStart=>exact⟨0,by unfold Hid;omega,rfl,zR,zQ,zF,zb⟩
     case round=>
      clear zR zQ zF zb;obtain⟨j,HJ,rfl,Ro,Qo,F,hb⟩:=hrel;generalize wr=wx at *;have hj0:(0:Int)≤(j:Int):=by omega
      cases gk with
      |zero=>
       have hj:j=b.length:=HJ.out;subst hj;go_wp2_with fail;go_roundg k
       case rel=>exact⟨(k:Int)-1,Q.set k f,d8 R g k b.length,rfl,by first|rfl|go_num,by omega,by unfold Hid;rw[List.length_set];exact HQL.out,by unfold Hid;rw[jH];exact HRL.out,HST,HQR,HRR,Qo,Ro,hb⟩
       case measure=>omega
      |succ k'=>
       have hjb:j<b.length:=by have:=HJ.out;omega
       have hj1:(j:Int)<(b.length:Int):=by omega
       obtain⟨p,hp⟩:∃p,k+j=p:=⟨_,rfl⟩;have hpi:(k:Int)+(j:Int)=(p:Int):=by omega
       have hpa:p<a.length:=by omega
       have hp0:(0:Int)≤(p:Int):=by omega
       have hp2:(p:Int)<(a.length:Int):=by omega
       have hwp:IntKind.i64.wrap (p:Int)=(p:Int):=IntWalk.i64_in _ ⟨by omega,by omega⟩;obtain⟨bb,s3,A3,k3,c3,s4,A4,k4,c4,hA',hbl,g0,hi⟩:=(hb'.below hb).cell hjb;obtain⟨r1,r2,r3⟩:=zK (l:=R) (g:=g) hp (by rw[HRL.out];exact hpa);obtain⟨s5,A5,k5,c5,s6,A6,k6,c6,o0,ho⟩:=Ro.at_ r1;obtain⟨s1,A1,k1,c1,s2,A2,k2,c2,Fb,hF⟩:=F;have hgj:=HG.out j;rw[hp] at hgj;rw[hgj] at r3;have R3:=Lib.hid r3;have hmul:=fun W u v h h'=>yZ f (cf b j) u v W h h' D (bV HFR.out (by omega)) (bV (HKB.out j) (by omega)) (by omega);have hsub:=fun W u v h h'=>U7 (cf R p) (f*cf b j) u v W h h' D (bV (HCR.out p) (by omega)) (bV (iB HFR.out (HKB.out j)) (by omega)) (by omega);unfold fR at hmul hsub;have ol:=Ro.lt;have of_:=Ro.free;have cF:=Fb.k4;clear r1 r3 hgj hp;generalize cf R p-f*cf b j=nv at *;generalize f*cf b j=mv at *;generalize cf R p=av at *;generalize cf b j=bv at *;generalize d8 R g k j=RW at *;injection hA' with hA';injection hA' with hA';subst hA';go_wp2_with fail
       go_region_with (first
        |(go_at_call 104;(with_reducible refine(hmul _ _ _ hF.up hi.up).mono ?_);rintro e7 w7 ⟨v7,rfl,h7,hb7⟩;obtain⟨s7,A7,k7,c7,s8,A8,k8,c8,rfl⟩:=h7.form;have:=St.mk hb7;have o7:=o0.up (b:=w7) ol)
        |(go_at_call 131;(with_reducible refine(hsub _ _ _ ho.up h7.up).mono ?_);rintro e9 w9 ⟨v9,rfl,h9,hb9⟩;obtain⟨s9,A9,k9,c9,s0,A0,k0,c0,rfl⟩:=h9.form;have:=St.mk hb9;have o9:=o0.up (b:=w9) ol;have R9:=Ro.up (b:=w9);have f9:=R9.free))
       all_goals (
        go_wp2_with fail;obtain⟨zR,hst⟩:=R9.stored r2 h9;rw[R3.out] at zR;have zQ:=(Qo.up (b:=w9)).step hst (by omega);have zF:QVar _ gf f:=QVar.step (⟨_,_,_,_,_,_,_,_,Fb.up (b:=w9),hF.up⟩:QVar w9 gf f) hst n1;have zb:=dE (mL (b:=w9) hb) hst.2 hgr;go_roundg k'
        case rel=>exact⟨j+1,by have:=HJ.out;unfold Hid;omega,by go_num,zR,zQ,zF,zb⟩
        case measure=>omega)
theorem rD (a b:List Rat) (va vb:Value) (w:World) (ha:QsAt w va a) (hb':QsAt w vb b) (K:Nat) (hKa:∀q∈a,RL K q) (hKb:∀q∈b,RL K q) (h1:1≤K) (hla:a.length≤1024) (hn:1≤b.length) (hB:cf b (b.length-1)≠0) (D:Nat) (hD:2*fI K a.length≤D) (hK:2*D+1≤549755813888):
  Calls Tryz.prog 86 #[va,vb] w (H9 w a b D):=
 uQ a b va vb w ha hb' K hKa hKb h1 hla hn hB D (by have:=rB K a.length;omega) (fun h=>by have:=jW K (show a.length-b.length+1≤a.length by omega);omega) hK
end Go.Proofs.YtlojjipfnejbnaaGreatDoor
