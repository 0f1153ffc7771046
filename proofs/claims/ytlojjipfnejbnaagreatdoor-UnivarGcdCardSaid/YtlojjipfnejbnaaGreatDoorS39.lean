/-
  Contracts of functions that the statement reaches, and plain laws: RefC.
-/
import Derived.Test.YtlojjipfnejbnaaGreatDoorS38
set_option linter.unusedVariables false
set_option linter.unusedSimpArgs false
set_option maxHeartbeats 8000000
set_option maxRecDepth 100000
namespace Go.Proofs.YtlojjipfnejbnaaGreatDoor
open Go.RowKit Sos
theorem qZ (a:List Rat) (c:Rat) (b:List Rat) (va vc vb:Value) (w:World) (ha:QsAt w va a) (hc:NQ w vc c) (hb':QsAt w vb b) (K L:Nat) (hKa:∀q∈a,RL K q) (hKb:∀q∈b,RL K q) (kc:RL L c) (h1:1≤K) (hla:a.length≤1024) (hlb:b.length≤1024) (hK:2*(2*K+L+1)+1≤549755813888):
  Calls Tryz.prog 82 #[va,vc,vb] w (pH w (aH aG (dL a c b))):=by
 obtain⟨A,ca,rfl,hca⟩:=ha.form;obtain⟨A',cb,rfl,hcb⟩:=hb'.form;obtain⟨s1,A1,k1,c1,s2,A2,k2,c2,rfl⟩:=hc.form;obtain⟨M,hM⟩:∃M,max a.length b.length=M:=⟨_,rfl⟩;have hMi:max (a.length:Int) (b.length:Int)=(M:Int):=by omega
 have hM1:a.length≤M:=by omega
 have hM2:b.length≤M:=by omega
 have hM3:M≤1024:=by omega
 have hdn:=UN a c b;rw[hM] at hdn;obtain⟨g,hg⟩:∃g:Nat→Rat,g=fun j=>cf a j+c*cf b j:=⟨_,rfl⟩;have HG:Hid (∀j,g j=cf a j+c*cf b j):=fun j=>by rw[hg]
 rw[←hg] at hdn;have HPL:Hid ((a++List.replicate (M-a.length) (0:Rat)).length=M):=by unfold Hid;rw[List.length_append,List.length_replicate];omega
 have HPC:Hid (∀j,cf (a++List.replicate (M-a.length) (0:Rat)) j=cf a j):=rC a _;have hgR:∀j,RL (2*K+L+1) (g j):=fun j=>by rw[hg];exact zU hKa hKb kc h1 j
 have hPR:∀q∈a++List.replicate (M-a.length) 0,RL (2*K+L+1) q:=eI (UM hKa h1 _) (by omega);have HRL:Hid (∀k,∀q∈d8 (a++List.replicate (M-a.length) 0) g 0 k,RL (2*K+L+1) q):=fun k=>uN hPR hgR (by omega);have HKA:Hid (∀j,RL K (cf a j)):=fun j=>fV hKa (eO h1) j;have HKB:Hid (∀j,RL K (cf b j)):=fun j=>fV hKb (eO h1) j;have HDN:=Lib.hid hdn;obtain⟨W,eW,hb,X⟩:=bA w [.bool s1,.slice A1 k1 c1,.bool s2,.slice A2 k2 c2] 96;have haW:=ha.below hb;have hgo:=X.lt;have hWz:=hb.size;clear hdn hgR hPR hM hg;generalize hP:a++List.replicate (M-a.length) (0:Rat)=P at *;have HP:=Lib.hid hP;clear hP;go_enter Tryz.func82,Tryz.ntmps82
 go_wp2_with (first
  |(at_make;refine eZ rfl rfl 96 _ 4 64 Tryz.underlying63 rA rfl (by decide) M rfl rfl (by first|rfl|omega) (by first|rfl|omega) (by omega) (by omega) ?_;intro w1 hz1 hr1 hb1;replace hr1:Rw w1 W.heap.size 4 (List.replicate M zR) 96:=hr1)
  |(with_reducible refine UG rfl (d:= .tmp 15) (s:= .tmp 16) rfl rfl hr1 rfl (haW.below hb1) hM1 ?_;intro w2 R0 hst))
 rw[HP.out,←zM (l:=P) (g:=g) (i:=0)] at R0;have X2:Bx w2 w.heap.size [.bool s1,.slice A1 k1 c1,.bool s2,.slice A2 k2 c2] 96:=(hst.2.2.1 w.heap.size (by omega)).trans (X.below hb1);have hb2:=dE (aB hb hb1) hst.2 hWz;generalize W.heap.size=og at *;clear eW hb X haW hr1 hz1 hb1 hst;go_loopg [8] b.length (fun k i wr=>∃j,Hid (j+k=b.length)∧i= .int .i64 j∧OwnQ wr og (d8 P g 0 j)∧Bx wr w.heap.size [.bool s1,.slice A1 k1 c1,.bool s2,.slice A2 k2 c2] 96∧Below w.heap.size w wr)
 case atStart=>exact⟨0,by unfold Hid;omega,rfl,R0,X2,hb2⟩
 case round=>
  clear R0 X2 hb2;obtain⟨j,HJ,rfl,R,X,hb⟩:=hrel;generalize wr=wx at *;have hj0:(0:Int)≤(j:Int):=by omega
  cases gk with
  |zero=>
   have hj:j=b.length:=HJ.out;subst hj;have hQ:=R.nums M (by rw[jH,HPL.out];exact Nat.le_refl _);rw[jH,HPL.out] at hQ;have htr:=r7 (d8 P g 0 b.length) _ wx hQ (fun q hq=>Nat.le_trans (HRL.out _ q hq).1 (by omega)) (by rw[jH,HPL.out];omega);rw[HDN.out] at htr;clear R;go_wp2_with fail;refine htr.mono ?_;rintro e3 w3 ⟨v3,rfl,h3,hb3⟩;go_wp2_with fail;go_ret;exact⟨_,rfl,h3,aB hb hb3⟩
  |succ k=>
   have hjb:j<b.length:=by have:=HJ.out;omega
   have hj1:(j:Int)<(b.length:Int):=by omega
   have hj2:(j:Int)<(M:Int):=by omega
   obtain⟨bb,s3,A3,k3,c3,s4,A4,k4,c4,rfl,hbl,g0,hi⟩:=(hb'.below hb).cell hjb;obtain⟨r1,r2,r3⟩:=zK (l:=P) (g:=g) (Nat.zero_add j) (by rw[HPL.out];omega);rw[HPC.out] at r1;obtain⟨s5,A5,k5,c5,s6,A6,k6,c6,o0,ho⟩:=R.at_ r1;have ka:=HKA.out j;have kb:=HKB.out j;have hmul:=fun W u v h h'=>yZ c (cf b j) u v W h h' (K+L) (bV kc (by omega)) (bV kb (by omega)) (by omega);have hadd:=fun W u v h h'=>zE (cf a j) (c*cf b j) u v W h h' (L+K) (bV ka (by omega)) (iB kc kb) (by omega);rw[HG.out j] at r3;have R3:=Lib.hid r3;unfold fR at hmul hadd;have hxc:=hc.below hb;have ol:=R.lt;have of_:=R.free;have cX:=X.k4;clear r1 r3 ka kb;generalize cf a j+c*cf b j=nv at *;generalize c*cf b j=mv at *;generalize cf a j=av at *;generalize cf b j=bv at *;generalize d8 P g 0 j=RW at *;go_wp2_with fail
   go_region_with (first
    |(go_at_call 104;(with_reducible refine(hmul _ _ _ hxc.up hi.up).mono ?_);rintro e7 w7 ⟨v7,rfl,h7,hb7⟩;obtain⟨s7,A7,k7,c7,s8,A8,k8,c8,rfl⟩:=h7.form;have:=St.mk hb7;have o7:=o0.up (b:=w7) ol)
    |(go_at_call 124;(with_reducible refine(hadd _ _ _ ho.up h7.up).mono ?_);rintro e9 w9 ⟨v9,rfl,h9,hb9⟩;obtain⟨s9,A9,k9,c9,s0,A0,k0,c0,rfl⟩:=h9.form;have:=St.mk hb9;have o9:=o0.up (b:=w9) ol;have R9:=R.up (b:=w9);have f9:=R9.free))
   all_goals (
    go_wp2_with fail;obtain⟨zR,hst⟩:=R9.stored r2 h9;rw[R3.out] at zR;have zX:Bx _ w.heap.size [.bool s1,.slice A1 k1 c1,.bool s2,.slice A2 k2 c2] 96:=(hst.2.2.1 w.heap.size (by omega)).trans (X.up (b:=w9));have zb:=dE (mL (b:=w9) hb) hst.2 hWz;go_roundg k
    case rel=>exact⟨j+1,by have:=HJ.out;unfold Hid;omega,by go_num,zR,zX,zb⟩
    case measure=>omega)
theorem FN {a b:List Rat} (h:a.length=0∨b.length=0):aH aG (bB a b)=[]:=by
 unfold bB;rw[if_pos (h.imp List.eq_nil_of_length_eq_zero List.eq_nil_of_length_eq_zero)];rfl
theorem yG (a b:List Rat) (va vb:Value) (w:World) (ha:QsAt w va a) (hb':QsAt w vb b) (K:Nat) (hKa:∀q∈a,RL K q) (hKb:∀q∈b,RL K q) (h1:1≤K) (hla:a.length≤1024) (hlb:b.length≤1024) (hK:2*(1+a.length*(2*K+1)+2*K)+1≤549755813888):
  Calls Tryz.prog 85 #[va,vb] w (pH w (aH aG (bB a b))):=by
 obtain⟨A,ca,rfl,hca⟩:=ha.form;obtain⟨A',cb,rfl,hcb⟩:=hb'.form;go_enter Tryz.func85,Tryz.ntmps85;by_cases h0:a.length=0
 ·have HT:=Lib.hid (FN (a:=a) (b:=b) (.inl h0));have r0:((a.length:Int)==0)=true:=by rw[h0];rfl
  clear h0;go_wp2_with fail;go_ret;exact⟨_,rfl,by rw[HT.out];exact QsAt.nil _,Below.refl _ _⟩
 ·by_cases h0':b.length=0
  ·have HT:=Lib.hid (FN (a:=a) (b:=b) (.inr h0'));have r0:((a.length:Int)==0)=false:=by simpa using h0
   have r1:((b.length:Int)==0)=true:=by rw[h0'];rfl
   clear h0 h0';go_wp2_with fail;go_ret;exact⟨_,rfl,by rw[HT.out];exact QsAt.nil _,Below.refl _ _⟩
  ·have r0:((a.length:Int)==0)=false:=by simpa using h0
   have r1:((b.length:Int)==0)=false:=by simpa using h0'
   obtain⟨M,hM⟩:∃M,M=a.length+b.length-1:=⟨_,rfl⟩;have hMi:(a.length:Int)+(b.length:Int)-1=(M:Int):=by omega
   have hM1:a.length+b.length=M+1:=by omega
   have hM3:M≤2048:=by omega
   have HKA:Hid (∀j,RL K (cf a j)):=fun j=>fV hKa (eO h1) j;have HKB:Hid (∀j,RL K (cf b j)):=fun j=>fV hKb (eO h1) j;clear hM h0 h0';go_wp2_with (at_make;refine eZ rfl rfl 96 _ 4 64 Tryz.underlying63 rA rfl (by decide) M rfl rfl (by first|rfl|omega) (by first|rfl|omega) (by omega) (by omega) ?_;intro w1 hz1 hr1 hb1);have R0:=OwnQ.made hr1;clear hr1 hz1;clear r0 r1;go_loopg [6] a.length (fun k i wr=>∃n O,Hid (n+k=a.length)∧i= .int .i64 n∧Hid (O.length=M)∧Hid (∀j,cf O j=conv (fun k=>if k<n then cf a k else 0) (cf b) j)∧Hid (∀q∈O,RL (1+n*(2*K+1)) q)∧OwnQ wr w.heap.size O∧Below w.heap.size w wr)
   case atStart=>exact⟨0,List.replicate M 0,by unfold Hid;omega,rfl,List.length_replicate ..,(fun j=>by
    have:=rC [] M j;rw[List.nil_append,bS] at this;rw[this,eR (fun k=>if_neg (Nat.not_lt_zero k))]),(fun q hq=>bV (uO M q hq) (by omega)),R0,hb1⟩
   case round=>
    clear R0 hb1;obtain⟨n,O,HN,rfl,HOL,HOC,HOR,R,hb⟩:=hrel;generalize wr=wy at *;have hn0:(0:Int)≤(n:Int):=by omega
    cases gk with
    |zero=>
     have hn:n=a.length:=HN.out;subst hn;have hQ:=R.nums M (by rw[HOL.out];exact Nat.le_refl _);rw[HOL.out] at hQ;have htr:=r7 O _ wy hQ (fun q hq=>Nat.le_trans (HOR.out q hq).1 (by omega)) (by rw[HOL.out];omega);rw[UP HOC.out] at htr;clear R;go_wp2_with fail;refine htr.mono ?_;rintro e3 w3 ⟨v3,rfl,h3,hb3⟩;go_wp2_with fail;go_ret;exact⟨_,rfl,h3,aB hb hb3⟩
    |succ k=>
     have hna:n<a.length:=by have:=HN.out;omega
     have hn1:(n:Int)<(a.length:Int):=by omega
     obtain⟨g,hg⟩:∃g:Nat→Rat,g=fun j=>cf O j+cf a n*cf b (j-n):=⟨_,rfl⟩;have HG:Hid (∀j,g (n+j)=cf O (n+j)+cf a n*cf b j):=fun j=>by rw[hg];simp only[Nat.add_sub_cancel_left]
     have hst:=UO (O:=O) (a:=a) (b:=b) (i:=n) HOC.out (by rw[HOL.out];omega);have hsB:1+n*(2*K+1)+(K+K)+1=1+(n+1)*(2*K+1):=by rw[Nat.succ_mul n];omega
     have hOR:∀j,RL (1+n*(2*K+1)) (cf O j):=fun j=>fV HOR.out (eO (by omega)) j
     have hRR:=uN (l:=O) (g:=g) (i:=n) (k:=b.length) (K:=1+(n+1)*(2*K+1)) (eI HOR.out (by omega)) (fun j=>by
      have:=uP (hOR j) (iB (HKA.out n) (HKB.out (j-n)));rw[hsB] at this;rw[hg];exact this) (by omega)
     rw[←hg] at hst;have HSC:=Lib.hid hst;have HSR:=Lib.hid hRR;have hle:=Nat.mul_le_mul_right (2*K+1) (Nat.le_of_lt hna);have HOB:Hid (∀j,RL (1+a.length*(2*K+1)) (cf O j)):=fun j=>bV (hOR j) (by omega);have R':OwnQ wy w.heap.size (d8 O g n 0):=by rw[zM];exact R
     clear hg hst hsB hOR hRR hle HOC HOR R;go_wp2_with fail;go_loopg [7] b.length (fun k i wr=>∃j,Hid (j+k=b.length)∧i= .int .i64 j∧OwnQ wr w.heap.size (d8 O g n j)∧Below w.heap.size w wr)
     case atStart=>exact⟨0,by unfold Hid;omega,rfl,R',hb⟩
     case round=>
      clear R' hb;obtain⟨j,HJ,rfl,R,hb⟩:=hrel;generalize wr=wx at *;have hj0:(0:Int)≤(j:Int):=by omega
      cases gk with
      |zero=>
       have hj:j=b.length:=HJ.out;subst hj;go_wp2_with fail;go_roundg k
       case rel=>exact⟨n+1,d8 O g n b.length,by have:=HN.out;unfold Hid;omega,by go_num,by unfold Hid;rw[jH];exact HOL.out,HSC,HSR,R,hb⟩
       case measure=>omega
      |succ k'=>
       have hjb:j<b.length:=by have:=HJ.out;omega
       have hj1:(j:Int)<(b.length:Int):=by omega
       obtain⟨m,hm⟩:∃m,n+j=m:=⟨_,rfl⟩;have hmi:(n:Int)+(j:Int)=(m:Int):=by omega
       have hmM:m<M:=by omega
       have hm0:(0:Int)≤(m:Int):=by omega
       have hm2:(m:Int)<(M:Int):=by omega
       have hwr:IntKind.i64.wrap (m:Int)=(m:Int):=IntWalk.i64_in _ ⟨by omega,by omega⟩;obtain⟨ba,sa,Aa,ka,ca',sb,Ab,kb,cb',rfl,hal,p0,hxi⟩:=(ha.below hb).cell hna;obtain⟨bb,s3,A3,k3,c3,s4,A4,k4,c4,rfl,hbl,g0,hi⟩:=(hb'.below hb).cell hjb;obtain⟨r1,r2,r3⟩:=zK (l:=O) (g:=g) hm (by rw[HOL.out];exact hmM);obtain⟨s5,A5,k5,c5,s6,A6,k6,c6,o0,ho⟩:=R.at_ r1;have hgj:=HG.out j;rw[hm] at hgj;rw[hgj] at r3;have R3:=Lib.hid r3;have hmul:=fun W u v h h'=>yZ (cf a n) (cf b j) u v W h h' K (HKA.out n) (HKB.out j) (by omega);have hadd:=fun W u v h h'=>zE (cf O m) (cf a n*cf b j) u v W h h' (1+a.length*(2*K+1)+2*K) (bV (HOB.out m) (by omega)) (bV (iB (HKA.out n) (HKB.out j)) (by omega)) (by omega);unfold fR at hmul hadd;have ol:=R.lt;have of_:=R.free;clear r1 r3 hgj hm;generalize cf O m+cf a n*cf b j=nv at *;generalize cf a n*cf b j=mv at *;generalize cf O m=av at *;generalize cf b j=bv at *;generalize cf a n=xv at *;generalize d8 O g n j=RW at *;go_wp2_with fail
       go_region_with (first
        |(go_at_call 104;(with_reducible refine(hmul _ _ _ hxi.up hi.up).mono ?_);rintro e7 w7 ⟨v7,rfl,h7,hb7⟩;obtain⟨s7,A7,k7,c7,s8,A8,k8,c8,rfl⟩:=h7.form;have:=St.mk hb7;have o7:=o0.up (b:=w7) ol)
        |(go_at_call 124;(with_reducible refine(hadd _ _ _ ho.up h7.up).mono ?_);rintro e9 w9 ⟨v9,rfl,h9,hb9⟩;obtain⟨s9,A9,k9,c9,s0,A0,k0,c0,rfl⟩:=h9.form;have:=St.mk hb9;have o9:=o0.up (b:=w9) ol;have R9:=R.up (b:=w9);have f9:=R9.free))
       all_goals (
        go_wp2_with fail;obtain⟨zR,hst⟩:=R9.stored r2 h9;rw[R3.out] at zR;have zb:=dE (mL (b:=w9) hb) hst.2 (Nat.le_refl _);go_roundg k'
        case rel=>exact⟨j+1,by have:=HJ.out;unfold Hid;omega,by go_num,zR,zb⟩
        case measure=>omega)
end Go.Proofs.YtlojjipfnejbnaaGreatDoor
