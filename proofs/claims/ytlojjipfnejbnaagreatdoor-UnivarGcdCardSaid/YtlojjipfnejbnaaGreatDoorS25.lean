/-
  Contracts of functions that the statement reaches, and plain laws: RatE, PowA, NumA, NumB, NumC, NumD, NumE, NumF, NumG, NumN.
-/
import Derived.Test.YtlojjipfnejbnaaGreatDoorS01
import Derived.Test.YtlojjipfnejbnaaGreatDoorS05
import Derived.Test.YtlojjipfnejbnaaGreatDoorS18
import Derived.Test.YtlojjipfnejbnaaGreatDoorS19
import Derived.Deep.DeepCutAuto
import Derived.Deep.LoopGhost
set_option linter.unusedVariables false
set_option linter.unusedSimpArgs false
set_option maxHeartbeats 8000000
set_option maxRecDepth 100000
namespace Go.Proofs.YtlojjipfnejbnaaGreatDoor
open Go.RowKit Sos
def PN (w:World) (o:Option Rat) (e:Ending) (w':World):Prop:=∃v,e= .returned (.tuple #[v,.bool o.isSome])∧RatAt w' v (o.getD 0)∧Below w.heap.size w w'
theorem PO {l:List UInt8} (h:dN l=none):aR l=none:=by unfold aR;rw[h]
theorem PR {l n:List UInt8} {neg:Bool} (h:dN l=some (neg,n,[])):aR l=some ((cW neg (aL n):Int):Rat):=by unfold aR;rw[h];simp
theorem ES {l n d:List UInt8} {neg:Bool} (h:dN l=some (neg,n,d)) (hd:d≠[]):aR l=if Nat.gcd (aL n) (aL d)=1 then some (mkRat (cW neg (aL n)) (aL d)) else none:=by
 unfold aR;rw[h];simp[hd]
theorem ET {x:Int} {n d:Nat} (h:x.natAbs=n) (hg:Nat.gcd n d=1) (hd:d≠0) (hd1:d≠1):(mkRat x d).num=x∧aS (mkRat x d)=d:=by
 have h1:(mkRat x d).num=x:=by rw[Rat.num_mkRat,if_neg hd,h,Nat.gcd_comm,hg];simp
 have h2:(mkRat x d).den=d:=by rw[Rat.den_mkRat,if_neg hd,h,Nat.gcd_comm,hg];simp
 exact⟨h1,by unfold aS;rw[h2,if_neg hd1]⟩
theorem PS {l n d:List UInt8} {neg:Bool} (h:l=g9 neg n d):n.length≤l.length∧d.length≤l.length:=by
 subst h;unfold g9;by_cases e:d=[]<;>simp[e]<;>omega
theorem EU (l:List UInt8) (w:World) (hG:Glob w) (hl:l.length≤1073741824):
  Calls Tryz.prog 64 #[.string ⟨l.toArray⟩] w (PN w (aR l)):=by
 have hsp:=fun W=>PV l W (by omega);obtain⟨W,eW,hb,R⟩:=bA w [.bool false,.slice none 0 0,.bool false,.slice none 0 0] 83;have cM:=R.g4;go_enter Tryz.func64,Tryz.ntmps64;go_wp2_with fail;(try rw[eW]);clear eW;refine(hsp _).mono ?_;rintro e1 w1 ⟨neg,n,d,ok,rfl,hok,hno,hb1⟩;clear hsp;replace R:=R.below hb1;replace cM:=R.g4;replace hb:=aB hb hb1;have R_c10:∀o0:Obj,(w1.alloc o0).cell? ⟨w.heap.size,0,none⟩=some (.bool false):=fun o0=>(R.alloc o0).cell 0 rfl;have R_g10:∀o0:Obj,(w1.alloc o0).frozen? ⟨w.heap.size,0,none⟩=false:=fun o0=>(R.alloc o0).free 0;have R_c11:∀o0:Obj,(w1.alloc o0).cell? ⟨w.heap.size,1,none⟩=some (.slice none 0 0):=fun o0=>(R.alloc o0).cell 1 rfl;have R_g11:∀o0:Obj,(w1.alloc o0).frozen? ⟨w.heap.size,1,none⟩=false:=fun o0=>(R.alloc o0).free 1;have R_c12:∀o0:Obj,(w1.alloc o0).cell? ⟨w.heap.size,2,none⟩=some (.bool false):=fun o0=>(R.alloc o0).cell 2 rfl;have R_g12:∀o0:Obj,(w1.alloc o0).frozen? ⟨w.heap.size,2,none⟩=false:=fun o0=>(R.alloc o0).free 2;have R_c13:∀o0:Obj,(w1.alloc o0).cell? ⟨w.heap.size,3,none⟩=some (.slice none 0 0):=fun o0=>(R.alloc o0).cell 3 rfl;have R_g13:∀o0:Obj,(w1.alloc o0).frozen? ⟨w.heap.size,3,none⟩=false:=fun o0=>(R.alloc o0).free 3;cases ok with
 |false=>
  have HRD:=Lib.hid (PO (hno rfl));clear hok hno;go_wp2_with fail;have R_l:=R.lt;have hsz_:=hb.size;obtain⟨U0,eU0,hA,F⟩:=bA w1 [.bool neg,.string ⟨n.toArray⟩,.string ⟨d.toArray⟩] 129;replace R:=R.below hA;replace hk:=Keep.below hA;replace hb:=aB hb hA;obtain⟨W6,eW6,R,hb,hk,ff⟩:=R.put4 hb (by omega) (.bool false) (.slice none 0 0) (.bool false) (.slice none 0 0) rfl rfl;replace F:=ff F (by omega);rw[eU0,eW6];clear eU0 eW6;replace cM:=aa R.k4 F.k3;exact bodyPost_ret (v:= .tuple #[.agg #[.bool false,.slice none 0 0,.bool false,.slice none 0 0],.bool false]) (by simp[results,Tryz.results64,go_sem,R.k4]) rfl ⟨_,by rw[HRD.out];rfl,by rw[HRD.out];exact RatAt.of (IntAt.zero _) (IntAt.zero _) rfl rfl,hb⟩
 |true=>
  have hs:=hok rfl;obtain⟨hp,hj⟩:=DK hs;obtain⟨hln,hld⟩:=PS hj;have hvn:=mE hp.n_digs;have hvd:=mE hp.d_digs;have hpn:=fun W=>BJ ⟨n.toArray⟩ W hp.n_digs (by simp[ByteArray.size];omega);have hpd:=fun W=>BJ ⟨d.toArray⟩ W hp.d_digs (by simp[ByteArray.size];omega);simp only[] at hpn hpd;have HS:=Lib.hid hs;have HP:=Lib.hid hp;clear hok hno hs hp hj;go_wp2_with fail;have R_l:=R.lt;have hsz_:=hb.size;obtain⟨w2,ew2,hA,F⟩:=bA w1 [.bool neg,.string ⟨n.toArray⟩,.string ⟨d.toArray⟩] 129;replace R:=R.below hA;replace hk:=Keep.below hA;replace hb:=aB hb hA;rw[ew2];clear ew2;replace cM:=aa R.g4 F.k3;refine(hpn _).mono ?_;rintro e3 w3 ⟨v3,rfl,h3,hb3⟩;obtain⟨s3,A3,k3,c3,rfl⟩:=h3.form;replace R:=R.below hb3;replace F:=F.below hb3;replace cM:=aa R.g4 F.k3;replace hb:=aB hb hb3;have R_c10:∀o0:Obj,(w3.alloc o0).cell? ⟨w.heap.size,0,none⟩=some (.bool false):=fun o0=>(R.alloc o0).cell 0 rfl;have R_g10:∀o0:Obj,(w3.alloc o0).frozen? ⟨w.heap.size,0,none⟩=false:=fun o0=>(R.alloc o0).free 0;have R_c11:∀o0:Obj,(w3.alloc o0).cell? ⟨w.heap.size,1,none⟩=some (.slice none 0 0):=fun o0=>(R.alloc o0).cell 1 rfl;have R_g11:∀o0:Obj,(w3.alloc o0).frozen? ⟨w.heap.size,1,none⟩=false:=fun o0=>(R.alloc o0).free 1;have R_c12:∀o0:Obj,(w3.alloc o0).cell? ⟨w.heap.size,2,none⟩=some (.bool false):=fun o0=>(R.alloc o0).cell 2 rfl;have R_g12:∀o0:Obj,(w3.alloc o0).frozen? ⟨w.heap.size,2,none⟩=false:=fun o0=>(R.alloc o0).free 2;have R_c13:∀o0:Obj,(w3.alloc o0).cell? ⟨w.heap.size,3,none⟩=some (.slice none 0 0):=fun o0=>(R.alloc o0).cell 3 rfl;have R_g13:∀o0:Obj,(w3.alloc o0).frozen? ⟨w.heap.size,3,none⟩=false:=fun o0=>(R.alloc o0).free 3;have F_c10:∀o0:Obj,(w3.alloc o0).cell? ⟨w1.heap.size,0,none⟩=some (.bool neg):=fun o0=>(F.alloc o0).cell 0 rfl;have F_g10:∀o0:Obj,(w3.alloc o0).frozen? ⟨w1.heap.size,0,none⟩=false:=fun o0=>(F.alloc o0).free 0;have F_c11:∀o0:Obj,(w3.alloc o0).cell? ⟨w1.heap.size,1,none⟩=some (.string ⟨n.toArray⟩):=fun o0=>(F.alloc o0).cell 1 rfl;have F_g11:∀o0:Obj,(w3.alloc o0).frozen? ⟨w1.heap.size,1,none⟩=false:=fun o0=>(F.alloc o0).free 1;have F_c12:∀o0:Obj,(w3.alloc o0).cell? ⟨w1.heap.size,2,none⟩=some (.string ⟨d.toArray⟩):=fun o0=>(F.alloc o0).cell 2 rfl;have F_g12:∀o0:Obj,(w3.alloc o0).frozen? ⟨w1.heap.size,2,none⟩=false:=fun o0=>(F.alloc o0).free 2;have hna:(cW neg (aL n)).natAbs=aL n:=oV _ _;have hfin:∀W v,d=[]→IntAt W v (cW neg (aL n))→aR l=some ((cW neg (aL n):Int):Rat):=fun _ _ h _=>PR (by rw[←h];exact HS.out);cases neg with
  |false=>
   have h3:IntAt w3 _ (cW false (aL n)):=h3;generalize hx:cW false (aL n)=x at *;by_cases hd:d=[]
   ·have q1:(d==[])=true:=by rw[hd];rfl
    have HRD:=Lib.hid (hfin _ _ hd h3);clear hfin hpd hpn HS HP hx;go_wp2_with fail;have R_l:=R.lt;have F_l:=F.lt;have hsz_:=hb.size;obtain⟨U0,eU0,hA,X⟩:=bA w3 [.bool s3,.slice A3 k3 c3,.bool false,.slice none 0 0] 83;replace R:=R.below hA;replace F:=F.below hA;replace hk:=Keep.below hA;replace hb:=aB hb hA;replace h3:=h3.keep hk;obtain⟨W6,eW6,R,hb,hk,ff⟩:=R.put4 hb (by omega) (.bool s3) (.slice A3 k3 c3) (.bool false) (.slice none 0 0) rfl rfl;replace F:=ff F (by omega);replace X:=ff X (by omega);replace h3:=h3.keep hk;rw[eU0,eW6];clear eU0 eW6;replace cM:=aa R.k4 (aa F.k3 X.k4);exact bodyPost_ret (v:= .tuple #[.agg #[.bool s3,.slice A3 k3 c3,.bool false,.slice none 0 0],.bool true]) (by simp[results,Tryz.results64,go_sem,R.k4]) rfl ⟨_,by rw[HRD.out];rfl,by rw[HRD.out];exact RatAt.of h3 (IntAt.zero _) rfl rfl,hb⟩
   ·have q1:(d==[])=false:=by simpa using hd
    have hrd:=ES HS.out hd;have hd0:=tG HP.out.d_digs hd HP.out.d_head;have hd1:aL d≠1:=fun e=>HP.out.d_one (by rw[←mX HP.out.d_digs hd (.inr HP.out.d_head),e,decDigits_one]);rw[hx] at hrd;have HRD0:=Lib.hid hrd;clear hfin hpn HS HP hrd hx;go_wp2_with fail;have R_l:=R.lt;have F_l:=F.lt;have hsz_:=hb.size;obtain⟨w4,ew4,hA,X⟩:=bA w3 [.bool s3,.slice A3 k3 c3,.bool false,.slice none 0 0] 83;replace R:=R.below hA;replace F:=F.below hA;replace hk:=Keep.below hA;replace hb:=aB hb hA;replace h3:=h3.keep hk;rw[ew4];clear ew4;replace cM:=aa R.g4 (aa F.k3 X.g4);refine(hpd _).mono ?_;rintro e5 w5 ⟨v5,rfl,h5,hb5⟩;obtain⟨s5,A5,k5,c5,rfl⟩:=h5.form;replace R:=R.below hb5;replace F:=F.below hb5;replace X:=X.below hb5;replace cM:=aa R.g4 (aa F.k3 X.g4);replace hk:=Keep.below hb5;replace h3:=h3.keep hk;replace hb:=aB hb hb5;have hgc:=fun W v u hG h1 h2=>mT x ((aL d:Nat):Int) v u W hG h1 h2 1073741824 (by rw[hna];omega) (by rw[Int.natAbs_natCast];omega) (by decide);rw[hna,Int.natAbs_natCast] at hgc;unfold bW at hgc;clear hpd;go_wp2_with fail;have R_l:=R.lt;have F_l:=F.lt;have X_l:=X.lt;have hsz_:=hb.size;obtain⟨U0,eU0,X,hb,hk,ff⟩:=X.put1 hb (by omega) 2 (.bool s5) rfl;replace R:=ff R (by omega);replace F:=ff F (by omega);replace h3:=h3.keep hk;replace h5:=h5.keep hk;obtain⟨w6,ew6,X,hb,hk,ff⟩:=X.put1 hb (by omega) 3 (.slice A5 k5 c5) rfl;replace R:=ff R (by omega);replace F:=ff F (by omega);replace h3:=h3.keep hk;replace h5:=h5.keep hk;rw[eU0,ew6];clear eU0 ew6;replace cM:=aa R.g4 (aa F.k3 X.g4);refine(hgc _ _ _ (hG.below hb) h3 h5).mono ?_;rintro e8 w8 ⟨v8,rfl,h8,hb8⟩;obtain⟨s8,A8,k8,c8,rfl⟩:=h8.form;replace R:=R.below hb8;replace F:=F.below hb8;replace X:=X.below hb8;replace cM:=aa R.g4 (aa F.k3 X.g4);replace hk:=Keep.below hb8;replace h3:=h3.keep hk;replace h5:=h5.keep hk;replace hb:=aB hb hb8;clear hgc;have hgb:nl (Nat.gcd (aL n) (aL d))≤1073741824:=by
     refine Nat.le_trans (aX (Nat.le_of_dvd (by omega) (Nat.gcd_dvd_right _ _))) (by omega)
    go_wp2_with fail;refine(jL _ _ _ h8 (by rw[Int.natAbs_natCast];omega)).mono ?_;rintro e9 w9 ⟨rfl,hb9⟩;replace R:=R.below hb9;replace F:=F.below hb9;replace X:=X.below hb9;replace cM:=aa R.g4 (aa F.k3 X.g4);replace hk:=Keep.below hb9;replace h3:=h3.keep hk;replace h5:=h5.keep hk;replace hb:=aB hb hb9;by_cases hg1:Nat.gcd (aL n) (aL d)=1
    ·have hdd:decide (((Nat.gcd (aL n) (aL d):Nat):Int)=1)=true:=by rw[decide_eq_true_iff];omega
     obtain⟨hq1,hq2⟩:=ET hna hg1 hd0 hd1;have hrd:=HRD0.out;rw[if_pos hg1] at hrd;have HRD:=Lib.hid hrd;rw[hdd];clear hdd hrd HRD0;go_wp2_with fail;have R_l:=R.lt;have F_l:=F.lt;have X_l:=X.lt;have hsz_:=hb.size;obtain⟨W6,eW6,R,hb,hk,ff⟩:=R.put4 hb (by omega) (.bool s3) (.slice A3 k3 c3) (.bool s5) (.slice A5 k5 c5) rfl rfl;replace F:=ff F (by omega);replace X:=ff X (by omega);replace h3:=h3.keep hk;replace h5:=h5.keep hk;rw[eW6];clear eW6;replace cM:=aa R.k4 (aa F.k3 X.k4);exact bodyPost_ret (v:= .tuple #[.agg #[.bool s3,.slice A3 k3 c3,.bool s5,.slice A5 k5 c5],.bool true]) (by simp[results,Tryz.results64,go_sem,R.k4]) rfl ⟨_,by rw[HRD.out];rfl,by rw[HRD.out];exact RatAt.of h3 h5 hq1 hq2,hb⟩
    ·have hdd:decide (((Nat.gcd (aL n) (aL d):Nat):Int)=1)=false:=by rw[decide_eq_false_iff_not];omega
     have hrd:=HRD0.out;rw[if_neg hg1] at hrd;have HRD:=Lib.hid hrd;rw[hdd];clear hdd hrd HRD0;go_wp2_with fail;have R_l:=R.lt;have F_l:=F.lt;have X_l:=X.lt;have hsz_:=hb.size;obtain⟨W6,eW6,R,hb,hk,ff⟩:=R.put4 hb (by omega) (.bool false) (.slice none 0 0) (.bool false) (.slice none 0 0) rfl rfl;replace F:=ff F (by omega);replace X:=ff X (by omega);rw[eW6];clear eW6;replace cM:=aa R.k4 (aa F.k3 X.k4);exact bodyPost_ret (v:= .tuple #[.agg #[.bool false,.slice none 0 0,.bool false,.slice none 0 0],.bool false]) (by simp[results,Tryz.results64,go_sem,R.k4]) rfl ⟨_,by rw[HRD.out];rfl,by rw[HRD.out];exact RatAt.of (IntAt.zero _) (IntAt.zero _) rfl rfl,hb⟩
  |true=>
   have h3:IntAt w3 _ ((aL n:Nat):Int):=h3;have hsn:cW true (aL n)= -((aL n:Nat):Int):=rfl;rw[hsn] at hfin hna;go_wp2_with fail;have R_l:=R.lt;have F_l:=F.lt;have hsz_:=hb.size;obtain⟨w4,ew4,hA,X⟩:=bA w3 [.bool s3,.slice A3 k3 c3,.bool false,.slice none 0 0] 83;replace R:=R.below hA;replace F:=F.below hA;replace hk:=Keep.below hA;replace hb:=aB hb hA;replace h3:=h3.keep hk;rw[ew4];clear ew4;replace cM:=aa R.g4 (aa F.k3 X.g4);refine(oK _ _ _ h3 (by simp;omega)).mono ?_;rintro e7 w7 ⟨v7,rfl,h7,hb7⟩;obtain⟨s7,A7,k7,c7,rfl⟩:=h7.form;replace R:=R.below hb7;replace F:=F.below hb7;replace X:=X.below hb7;replace cM:=aa R.g4 (aa F.k3 X.g4);replace hb:=aB hb hb7;generalize hx: -((aL n:Nat):Int)=x at *;by_cases hd:d=[]
   ·have q1:(d==[])=true:=by rw[hd];rfl
    have HRD:=Lib.hid (hfin _ _ hd h7);clear hfin hpd hpn HS HP hx hsn;go_wp2_with fail;have R_l:=R.lt;have F_l:=F.lt;have X_l:=X.lt;have hsz_:=hb.size;obtain⟨U0,eU0,X,hb,hk,ff⟩:=X.put1 hb (by omega) 0 (.bool s7) rfl;replace R:=ff R (by omega);replace F:=ff F (by omega);replace h7:=h7.keep hk;obtain⟨U1,eU1,X,hb,hk,ff⟩:=X.put1 hb (by omega) 1 (.slice A7 k7 c7) rfl;replace R:=ff R (by omega);replace F:=ff F (by omega);replace h7:=h7.keep hk;obtain⟨W6,eW6,R,hb,hk,ff⟩:=R.put4 hb (by omega) (.bool s7) (.slice A7 k7 c7) (.bool false) (.slice none 0 0) rfl rfl;replace F:=ff F (by omega);replace X:=ff X (by omega);replace h7:=h7.keep hk;rw[eU0,eU1,eW6];clear eU0 eU1 eW6;replace cM:=aa R.k4 (aa F.k3 X.k4);exact bodyPost_ret (v:= .tuple #[.agg #[.bool s7,.slice A7 k7 c7,.bool false,.slice none 0 0],.bool true]) (by simp[results,Tryz.results64,go_sem,R.k4]) rfl ⟨_,by rw[HRD.out];rfl,by rw[HRD.out];exact RatAt.of h7 (IntAt.zero _) rfl rfl,hb⟩
   ·have q1:(d==[])=false:=by simpa using hd
    have hrd:=ES HS.out hd;rw[hsn] at hrd;have hd0:=tG HP.out.d_digs hd HP.out.d_head;have hd1:aL d≠1:=fun e=>HP.out.d_one (by rw[←mX HP.out.d_digs hd (.inr HP.out.d_head),e,decDigits_one]);have HRD0:=Lib.hid hrd;clear hfin hpn HS HP hrd hx hsn h3;go_wp2_with fail;have h3:=h7;clear h7;have R_l:=R.lt;have F_l:=F.lt;have X_l:=X.lt;have hsz_:=hb.size;obtain⟨U0,eU0,X,hb,hk,ff⟩:=X.put1 hb (by omega) 0 (.bool s7) rfl;replace R:=ff R (by omega);replace F:=ff F (by omega);replace h3:=h3.keep hk;obtain⟨w4,ew4,X,hb,hk,ff⟩:=X.put1 hb (by omega) 1 (.slice A7 k7 c7) rfl;replace R:=ff R (by omega);replace F:=ff F (by omega);replace h3:=h3.keep hk;rw[eU0,ew4];clear eU0 ew4;replace cM:=aa R.g4 (aa F.k3 X.g4);refine(hpd _).mono ?_;rintro e5 w5 ⟨v5,rfl,h5,hb5⟩;obtain⟨s5,A5,k5,c5,rfl⟩:=h5.form;replace R:=R.below hb5;replace F:=F.below hb5;replace X:=X.below hb5;replace cM:=aa R.g4 (aa F.k3 X.g4);replace hk:=Keep.below hb5;replace h3:=h3.keep hk;replace hb:=aB hb hb5;have hgc:=fun W v u hG h1 h2=>mT x ((aL d:Nat):Int) v u W hG h1 h2 1073741824 (by rw[hna];omega) (by rw[Int.natAbs_natCast];omega) (by decide);rw[hna,Int.natAbs_natCast] at hgc;unfold bW at hgc;clear hpd;go_wp2_with fail;have R_l:=R.lt;have F_l:=F.lt;have X_l:=X.lt;have hsz_:=hb.size;obtain⟨U0,eU0,X,hb,hk,ff⟩:=X.put1 hb (by omega) 2 (.bool s5) rfl;replace R:=ff R (by omega);replace F:=ff F (by omega);replace h3:=h3.keep hk;replace h5:=h5.keep hk;obtain⟨w6,ew6,X,hb,hk,ff⟩:=X.put1 hb (by omega) 3 (.slice A5 k5 c5) rfl;replace R:=ff R (by omega);replace F:=ff F (by omega);replace h3:=h3.keep hk;replace h5:=h5.keep hk;rw[eU0,ew6];clear eU0 ew6;replace cM:=aa R.g4 (aa F.k3 X.g4);refine(hgc _ _ _ (hG.below hb) h3 h5).mono ?_;rintro e8 w8 ⟨v8,rfl,h8,hb8⟩;obtain⟨s8,A8,k8,c8,rfl⟩:=h8.form;replace R:=R.below hb8;replace F:=F.below hb8;replace X:=X.below hb8;replace cM:=aa R.g4 (aa F.k3 X.g4);replace hk:=Keep.below hb8;replace h3:=h3.keep hk;replace h5:=h5.keep hk;replace hb:=aB hb hb8;clear hgc;have hgb:nl (Nat.gcd (aL n) (aL d))≤1073741824:=by
     refine Nat.le_trans (aX (Nat.le_of_dvd (by omega) (Nat.gcd_dvd_right _ _))) (by omega)
    go_wp2_with fail;refine(jL _ _ _ h8 (by rw[Int.natAbs_natCast];omega)).mono ?_;rintro e9 w9 ⟨rfl,hb9⟩;replace R:=R.below hb9;replace F:=F.below hb9;replace X:=X.below hb9;replace cM:=aa R.g4 (aa F.k3 X.g4);replace hk:=Keep.below hb9;replace h3:=h3.keep hk;replace h5:=h5.keep hk;replace hb:=aB hb hb9;by_cases hg1:Nat.gcd (aL n) (aL d)=1
    ·have hdd:decide (((Nat.gcd (aL n) (aL d):Nat):Int)=1)=true:=by rw[decide_eq_true_iff];omega
     obtain⟨hq1,hq2⟩:=ET hna hg1 hd0 hd1;have hrd:=HRD0.out;rw[if_pos hg1] at hrd;have HRD:=Lib.hid hrd;rw[hdd];clear hdd hrd HRD0;go_wp2_with fail;have R_l:=R.lt;have F_l:=F.lt;have X_l:=X.lt;have hsz_:=hb.size;obtain⟨W6,eW6,R,hb,hk,ff⟩:=R.put4 hb (by omega) (.bool s7) (.slice A7 k7 c7) (.bool s5) (.slice A5 k5 c5) rfl rfl;replace F:=ff F (by omega);replace X:=ff X (by omega);replace h3:=h3.keep hk;replace h5:=h5.keep hk;rw[eW6];clear eW6;replace cM:=aa R.k4 (aa F.k3 X.k4);exact bodyPost_ret (v:= .tuple #[.agg #[.bool s7,.slice A7 k7 c7,.bool s5,.slice A5 k5 c5],.bool true]) (by simp[results,Tryz.results64,go_sem,R.k4]) rfl ⟨_,by rw[HRD.out];rfl,by rw[HRD.out];exact RatAt.of h3 h5 hq1 hq2,hb⟩
    ·have hdd:decide (((Nat.gcd (aL n) (aL d):Nat):Int)=1)=false:=by rw[decide_eq_false_iff_not];omega
     have hrd:=HRD0.out;rw[if_neg hg1] at hrd;have HRD:=Lib.hid hrd;rw[hdd];clear hdd hrd HRD0;go_wp2_with fail;have R_l:=R.lt;have F_l:=F.lt;have X_l:=X.lt;have hsz_:=hb.size;obtain⟨W6,eW6,R,hb,hk,ff⟩:=R.put4 hb (by omega) (.bool false) (.slice none 0 0) (.bool false) (.slice none 0 0) rfl rfl;replace F:=ff F (by omega);replace X:=ff X (by omega);rw[eW6];clear eW6;replace cM:=aa R.k4 (aa F.k3 X.k4);exact bodyPost_ret (v:= .tuple #[.agg #[.bool false,.slice none 0 0,.bool false,.slice none 0 0],.bool false]) (by simp[results,Tryz.results64,go_sem,R.k4]) rfl ⟨_,by rw[HRD.out];rfl,by rw[HRD.out];exact RatAt.of (IntAt.zero _) (IntAt.zero _) rfl rfl,hb⟩
theorem u9 (x m:Nat):nl (x^m)≤m*nl x+1:=by
 induction m with
 |zero=>rw[Nat.pow_zero,gM (by decide) (by decide)];omega
 |succ m ih=>
  rw[Nat.pow_succ,Nat.succ_mul];have:=cJ (x^m) x;omega
theorem F2 (Y:Int) (h0:0≤Y) (h1:Y<aA):bits .and .u64 Y 1=Y%2:=by
 rw[u64_and Y 1 h0 (by unfold aA at h1;omega) (by decide) (by decide)];obtain⟨n,rfl⟩:=Int.eq_ofNat_of_zero_le h0;rw[Int.toNat_natCast,show(1:Int).toNat=2^1-1 from rfl,Nat.and_two_pow_sub_one_eq_mod];rfl
theorem Q9 (n k:Nat) (hn:n<BN):bits .and .u64 ((n:Int)/2^k) 1=((n/2^k%2:Nat):Int):=by
 have e:(n:Int)/2^k=((n/2^k:Nat):Int):=by rw[Int.natCast_ediv,Int.natCast_pow];rfl
 have:n/2^k≤n:=Nat.div_le_self _ _;rw[e,F2 _ (Int.natCast_nonneg _) (by unfold aA;unfold BN at hn;generalize n/2^k=m at *;omega)];rfl
theorem QA (x:Int) (n:Nat):x^n=if (decide (x<0)&&decide (n%2=1)) then -((x.natAbs^n:Nat):Int) else ((x.natAbs^n:Nat):Int):=by
 by_cases h:x<0
 ·have e:x= -(x.natAbs:Int):=by omega
  simp only[h,decide_true,Bool.true_and];generalize x.natAbs=a at *;subst e;clear h;induction n with
  |zero=>simp
  |succ n ih=>
   rw[Int.pow_succ,ih,Nat.pow_succ];by_cases h1:n%2=1
   ·rw[if_pos (by simpa using h1),if_neg (by simp;omega),Int.neg_mul_neg,Int.natCast_mul]
   ·rw[if_neg (by simpa using h1),if_pos (by simp;omega),Int.mul_neg,Int.natCast_mul]
 ·have e:x=(x.natAbs:Int):=by omega
  simp only[h,decide_false,Bool.false_and];rw[if_neg (by simp),Int.natCast_pow,←e]
theorem QB (x n k:Nat):(x^(n/2^(k+1))*x^(n/2^(k+1)))*(if n/2^k%2=1 then x else 1)=x^(n/2^k):=by
 have e:n/2^(k+1)=n/2^k/2:=by rw[Nat.pow_succ,Nat.div_div_eq_div_mul]
 rw[e];generalize n/2^k=m;rw[←Nat.pow_add];split
 ·rw[←Nat.pow_succ];congr 1;omega
 ·rw[Nat.mul_one];congr 1;omega
theorem F3 (x n:Nat) (vx:Value) (w:World) (hx:NatAt w vx x) (hn:n<BN) (hlim:2*(n*nl x+1)+nl x≤aF):
  Calls Tryz.prog 110 #[vx,.int .u64 n] w (fY w [vx] (x^n)):=by
 obtain⟨A,c,rfl,hc,hr,ho⟩:=id hx;have hnB:(n:Int)≤18446744073709551615:=by unfold BN at hn;omega
 have hbl:=CS 64 n (by rw[nV] at hn;exact hn);have hle:Lib.bitLenAux 64 n≤64:=Lib.bitLenAux_le 64 n 64 (by rw[nV] at hn;exact hn);have hl0:n/2^Lib.bitLen n=0:=Nat.div_eq_of_lt hbl.1;have hle':Lib.bitLen n≤64:=hle;clear hbl hle;go_enter Tryz.func110,Tryz.ntmps110;go_wp2_with fail;have h1:NatAt (w.alloc (.cells #[.int .u64 1] 118)) (.slice (some ⟨w.heap.size,0,none⟩) 1 1) 1:=by
  refine⟨_,1,by rw[gM (by decide) (by decide)],by rw[gM (by decide) (by decide)];exact Nat.le_refl _,?_,Old.mk (by simp)⟩;rw[m5 (by decide) (by decide)];refine Rd.mk (by simp) ?_;intro i hi;obtain rfl:i=0:=by simpa using hi
  simp[go_sem]
 have hb:Below w.heap.size w (w.alloc (.cells #[.int .u64 1] 118)):=(Below.refl _ _).alloc (Nat.le_refl _) _;generalize w.alloc (.cells #[.int .u64 1] 118)=W at *;refine(Tryz.bits_Len n _ (by omega) hnB).mono ?_;rintro e1 w1 ⟨rfl,rfl⟩;rw[Int.toNat_natCast];generalize Lib.bitLen n=L at *;go_wp2_with fail;go_loopg [5,6] L (fun k v i wr=>i= .int .i64 ((k:Int)-1)∧k≤64∧NatAt wr v (x^(n/2^k))∧From w [.slice A (nl x) c] v∧Below w.heap.size w wr)
 case atStart=>exact⟨by go_num,hle',by rw[hl0,Nat.pow_zero];exact h1,From.new (Nat.le_refl _),hb⟩
 case round=>
  clear h1 hb;obtain⟨rfl,hk,hv,hf,hb⟩:=hrel;generalize wr=wy at *;cases gk with
  |zero=>
   rw[Nat.pow_zero,Nat.div_one] at hv;obtain⟨Av,cv,rfl,hcv,hrv,hov⟩:=id hv;go_wp2_with fail;go_ret;exact⟨_,rfl,hv,hf,hb⟩
  |succ k=>
   have hpb:=QB x n k;have hnl:=u9 x (n/2^(k+1));have hdl:n/2^(k+1)*nl x≤n*nl x:=Nat.mul_le_mul_right _ (Nat.div_le_self _ _);have hnl2:=cJ (x^(n/2^(k+1))) (x^(n/2^(k+1)));generalize x^(n/2^(k+1))=P at *;obtain⟨Av,cv,rfl,hcv,hrv,hov⟩:=id hv;have hk0:(0:Int)≤(k:Int):=by omega
   have HPB:=Lib.hid hpb;clear hpb;unfold aF at hlim;go_wp2_with fail;refine(mB P P _ _ _ hv hv (by unfold aF;omega)).mono ?_;rintro e2 w2 ⟨v2,rfl,h2,hf2,hb2⟩;obtain⟨A2,c2,rfl,hc2,hr2,ho2⟩:=id h2
   have hf2':=hf2.trans (vs:=[.slice A (nl x) c]) hb.size (fun u hu=>by
    rcases List.mem_cons.1 hu with rfl|hu
    ·exact hf
    ·rcases List.mem_cons.1 hu with rfl|hu
     ·exact hf
     ·cases hu)
   have hb':=aB hb hb2;have hsh:IntKind.u64.wrap (k:Int)=(k:Int):=by rw[IntKind.wrap_u64];omega
   have hand:=Q9 n k hn;by_cases hbit:n/2^k%2=1
   ·rw[hbit] at hand;rw[hbit] at HPB;have HPP:Hid (P*P*x=x^(n/2^k)):=HPB.out;clear hbit HPB;have hnl3:=cJ P P;go_wp2_with fail;refine(mB (P*P) x _ _ _ h2 (hx.below hb') (by unfold aF;omega)).mono ?_;rintro e3 w3 ⟨v3,rfl,h3,hf3,hb3⟩;obtain⟨A3,c3,rfl,hc3,hr3,ho3⟩:=id h3
    have hf3':=hf3.trans (vs:=[.slice A (nl x) c]) hb'.size (fun u hu=>by
     rcases List.mem_cons.1 hu with rfl|hu
     ·exact hf2'
     ·rcases List.mem_cons.1 hu with rfl|hu
      ·exact From.mem (List.mem_cons_self ..)
      ·cases hu)
    go_wp2_with fail;go_roundg k
    case rel=>exact⟨by go_num,by omega,by rw[←HPP.out];exact h3,hf3',aB hb' hb3⟩
    case measure=>omega
   ·have hbit:n/2^k%2=0:=by omega
    rw[hbit] at hand;rw[hbit] at HPB;have HPP:Hid (P*P=x^(n/2^k)):=by have:=HPB.out;rw[if_neg (by decide),Nat.mul_one] at this;exact this
    clear hbit HPB;go_wp2_with fail;go_roundg k
    case rel=>exact⟨by go_num,by omega,by rw[←HPP.out];exact h2,hf2',hb'⟩
    case measure=>omega
theorem qP (x:Int) (n:Nat) (vx:Value) (w:World) (hx:IntAt w vx x) (hn:n<BN) (hlim:2*(n*nl x.natAbs+1)+nl x.natAbs≤aF):
  Calls Tryz.prog 66 #[vx,.int .u64 n] w (bW w (x^n)):=by
 obtain⟨ux,rfl,hux⟩:=hx;obtain⟨c0,c1,r0,r1,hfr,hsz,hb⟩:=BL w (.bool (decide (x<0))) ux 53;have hsum:=QA x n;have hna:(x^n).natAbs=x.natAbs^n:=Int.natAbs_pow x n;have hux1:=hux.below hb;have hand:=F2 (n:Int) (by omega) (by unfold aA;unfold BN at hn;omega);have hnl:=u9 x.natAbs n;obtain⟨bt,hbt⟩:∃bt:Bool,decide (n%2=1)=bt:=⟨_,rfl⟩;have hbb:(bits .and .u64 (n:Int) 1==1)=bt:=by
  rw[hand,←hbt];by_cases h:n%2=1
  ·simp only[h,decide_true];rw[beq_iff_eq];omega
  ·simp only[h,decide_false];rw[beq_eq_false_iff_ne];omega
 rw[hbt] at hsum;clear hand hbt;have HS:=Lib.hid hsum;have HNA:=Lib.hid hna;have HSZ:=Lib.hid hsz;obtain⟨sn,HSN⟩:∃sn,Hid (decide (x^n<0)=sn):=⟨_,rfl⟩;generalize decide (x<0)=sx at *;obtain⟨A4,c4,rfl,hc4,hr4,ho4⟩:=id hux;clear hsum hna hsz;cases sx with
 |false=>
  rw[Bool.false_and] at HS;go_enter Tryz.func66,Tryz.ntmps66;go_wp2_with fail;generalize (w.alloc (.cells #[.bool false,.slice A4 (nl x.natAbs) c4] 53)).alloc (.cells #[.bool false,.slice none 0 0] 53)=W at *;refine(F3 x.natAbs n _ _ hux1 hn hlim).mono ?_;rintro e3 w3 ⟨v3,rfl,h3,hf3,hb3⟩;obtain⟨A3,c3,rfl,hc3,hr3,ho3⟩:=id h3;have l2:w.heap.size+1<W.heap.size:=by have:=HSZ.out;omega
  replace r0:=(hb3.cell (p:=⟨w.heap.size+1,0,none⟩) l2).trans r0;replace r1:=(hb3.cell (p:=⟨w.heap.size+1,1,none⟩) l2).trans r1;have f0:=(hb3.frozen (p:=⟨w.heap.size+1,0,none⟩) l2).trans (hfr 0);have f1:=(hb3.frozen (p:=⟨w.heap.size+1,1,none⟩) l2).trans (hfr 1);go_wp2_with fail;refine(lV false _ _ (x^n) _ h3 (by unfold aF at hlim;omega) HS.out).mono ?_;rintro e5 w5 ⟨he,hb5⟩;rw[HSN.out] at he;subst he;have l3:=Nat.lt_of_lt_of_le l2 hb3.size;have r0':=(hb5.cell (p:=⟨w.heap.size+1,0,none⟩) l3).trans r0;have r1':=(hb5.cell (p:=⟨w.heap.size+1,1,none⟩) l3).trans r1;have f0':=(hb5.frozen (p:=⟨w.heap.size+1,0,none⟩) l3).trans f0;have f1':=(hb5.frozen (p:=⟨w.heap.size+1,1,none⟩) l3).trans f1;go_wp2_with fail;have hst:=kH (p:= .bool sn) (q:= .slice A3 (nl (x.natAbs^n)) c3) r0' r1';have hbw:Below w.heap.size w w5:=hb.trans ((aB hb3 hb5).mono hb.size);have hbz:=(hbw.setCell (p:=⟨w.heap.size+1,0,none⟩) (by simp) (.bool sn)).setCell (p:=⟨w.heap.size+1,1,none⟩) (by simp) (.slice A3 (nl (x.natAbs^n)) c3);obtain⟨z0,z1⟩:=hst;have hn4:=hf3.ne l2 (fun u hu=>by rw[List.mem_singleton.1 hu];exact hux.ne (by omega));have hv6:NatAt ((w5.setCell ⟨w.heap.size+1,0,none⟩ (.bool sn)).setCell ⟨w.heap.size+1,1,none⟩ (.slice A3 (nl (x.natAbs^n)) c3)) (.slice A3 (nl (x.natAbs^n)) c3) (x.natAbs^n):=((h3.below hb5).set _ hn4).set _ hn4;generalize (w5.setCell ⟨w.heap.size+1,0,none⟩ (.bool sn)).setCell ⟨w.heap.size+1,1,none⟩ (.slice A3 (nl (x.natAbs^n)) c3)=W6 at *;exact bodyPost_ret (v:= .agg #[.bool sn,.slice A3 (nl (x.natAbs^n)) c3]) (by simp[results,Tryz.results66,go_sem,z0,z1]) rfl ⟨_,rfl,⟨_,by rw[HSN.out],by rw[HNA.out];exact hv6⟩,hbz⟩
 |true=>
  rw[Bool.true_and] at HS;go_enter Tryz.func66,Tryz.ntmps66;go_wp2_with fail;generalize (w.alloc (.cells #[.bool true,.slice A4 (nl x.natAbs) c4] 53)).alloc (.cells #[.bool false,.slice none 0 0] 53)=W at *;refine(F3 x.natAbs n _ _ hux1 hn hlim).mono ?_;rintro e3 w3 ⟨v3,rfl,h3,hf3,hb3⟩;obtain⟨A3,c3,rfl,hc3,hr3,ho3⟩:=id h3;have l2:w.heap.size+1<W.heap.size:=by have:=HSZ.out;omega
  replace r0:=(hb3.cell (p:=⟨w.heap.size+1,0,none⟩) l2).trans r0;replace r1:=(hb3.cell (p:=⟨w.heap.size+1,1,none⟩) l2).trans r1;have f0:=(hb3.frozen (p:=⟨w.heap.size+1,0,none⟩) l2).trans (hfr 0);have f1:=(hb3.frozen (p:=⟨w.heap.size+1,1,none⟩) l2).trans (hfr 1);go_wp2_with fail;refine(lV bt _ _ (x^n) _ h3 (by unfold aF at hlim;omega) HS.out).mono ?_;rintro e5 w5 ⟨he,hb5⟩;rw[HSN.out] at he;subst he;have l3:=Nat.lt_of_lt_of_le l2 hb3.size;have r0':=(hb5.cell (p:=⟨w.heap.size+1,0,none⟩) l3).trans r0;have r1':=(hb5.cell (p:=⟨w.heap.size+1,1,none⟩) l3).trans r1;have f0':=(hb5.frozen (p:=⟨w.heap.size+1,0,none⟩) l3).trans f0;have f1':=(hb5.frozen (p:=⟨w.heap.size+1,1,none⟩) l3).trans f1;go_wp2_with fail;have hst:=kH (p:= .bool sn) (q:= .slice A3 (nl (x.natAbs^n)) c3) r0' r1';have hbw:Below w.heap.size w w5:=hb.trans ((aB hb3 hb5).mono hb.size);have hbz:=(hbw.setCell (p:=⟨w.heap.size+1,0,none⟩) (by simp) (.bool sn)).setCell (p:=⟨w.heap.size+1,1,none⟩) (by simp) (.slice A3 (nl (x.natAbs^n)) c3);obtain⟨z0,z1⟩:=hst;have hn4:=hf3.ne l2 (fun u hu=>by rw[List.mem_singleton.1 hu];exact hux.ne (by omega));have hv6:NatAt ((w5.setCell ⟨w.heap.size+1,0,none⟩ (.bool sn)).setCell ⟨w.heap.size+1,1,none⟩ (.slice A3 (nl (x.natAbs^n)) c3)) (.slice A3 (nl (x.natAbs^n)) c3) (x.natAbs^n):=((h3.below hb5).set _ hn4).set _ hn4;generalize (w5.setCell ⟨w.heap.size+1,0,none⟩ (.bool sn)).setCell ⟨w.heap.size+1,1,none⟩ (.slice A3 (nl (x.natAbs^n)) c3)=W6 at *;exact bodyPost_ret (v:= .agg #[.bool sn,.slice A3 (nl (x.natAbs^n)) c3]) (by simp[results,Tryz.results66,go_sem,z0,z1]) rfl ⟨_,rfl,⟨_,by rw[HSN.out],by rw[HNA.out];exact hv6⟩,hbz⟩
def U (ds:List Nat):List Value:=ds.map (fun d:Nat=>Value.int .u32 (d:Int))
theorem SI (ds:List Nat):(U ds).length=ds.length:=List.length_map _
theorem gZ {ds:List Nat} {i d:Nat} (h:ds[i]? =some d):(U ds)[i]? =some (.int .u32 (d:Int)):=by unfold U;rw[List.getElem?_map,h];rfl
theorem SJ (ds:List Nat) (i x:Nat):(U ds).set i (.int .u32 (x:Int))=U (ds.set i x):=by unfold U;rw[List.map_set]
def Ds (w:World) (v:Value) (ds:List Nat):Prop:=∃A c,v= .slice A ds.length c∧ds.length≤c∧Dg ds∧(ds=[]∨∃b,A=some ⟨b,0,none⟩∧b<w.heap.size∧∀(i d:Nat),ds[i]? =some d→w.cell? ⟨b,i,none⟩=some (.int .u32 (d:Int)))
def Mg (w:World) (v:Value) (n:Nat):Prop:=∃ds,Ds w v ds∧aN ds∧nv ds=n
section
variable {w w':World} {v:Value} {ds:List Nat}
theorem Ds.form (h:Ds w v ds):∃A c,v= .slice A ds.length c∧ds.length≤c:=by
 obtain⟨A,c,hv,hc,_⟩:=h;exact⟨A,c,hv,hc⟩
theorem Ds.dg (h:Ds w v ds):Dg ds:=by
 obtain⟨A,c,hv,hc,hd,_⟩:=h;exact hd
theorem Ds.cap {A:Option Addr} {l c:Nat} (h:Ds w (.slice A l c) ds):ds.length≤c:=by
 obtain⟨A,c,e,hc,_⟩:=h;simp only[Value.slice.injEq] at e;omega
theorem Ds.nil (w:World) (A:Option Addr) (c:Nat):Ds w (.slice A 0 c) []:=⟨A,c,rfl,Nat.zero_le _,(fun d hd=>by cases hd),.inl rfl⟩
theorem Ds.below (h:Ds w v ds) (hb:Below w.heap.size w w'):Ds w' v ds:=by
 obtain⟨A,c,hv,hc,hd,h⟩:=h;refine⟨A,c,hv,hc,hd,?_⟩;rcases h with h|⟨b,e,hl,hB⟩
 ·exact .inl h
 ·exact .inr ⟨b,e,Nat.lt_of_lt_of_le hl hb.size,fun i d hi=>(hb.cell (p:=⟨b,i,none⟩) hl).trans (hB i d hi)⟩
theorem Ds.at_ {A:Option Addr} {l c i d:Nat} (h:Ds w (.slice A l c) ds) (hi:ds[i]? =some d):∃b,A=some ⟨b,0,none⟩∧b<w.heap.size∧w.cell? ⟨b,i,none⟩=some (.int .u32 (d:Int)):=by
 obtain⟨A',c',e,hc,hd,h⟩:=h;simp only[Value.slice.injEq] at e;obtain⟨rfl,rfl,rfl⟩:=e;rcases h with h|⟨b,e,hl,hB⟩
 ·rw[h] at hi;simp at hi
 ·exact⟨b,e,hl,hB i d hi⟩
theorem Ds.cut {A:Option Addr} {l c:Nat} (h:Ds w (.slice A l c) ds) (k:Nat) (hk:k≤ds.length):Ds w (.slice A k c) (ds.take k):=by
 obtain⟨A',c',e,hc,hd,h⟩:=h;simp only[Value.slice.injEq] at e;obtain⟨rfl,rfl,rfl⟩:=e;refine⟨A,c,by rw[List.length_take,Nat.min_eq_left hk],by rw[List.length_take];omega,hd.take k,?_⟩;rcases h with h|⟨b,e,hl,hB⟩
 ·left;rw[h];simp
 ·refine .inr ⟨b,e,hl,fun i d hi=>hB i d ?_⟩;rw[List.getElem?_take] at hi;split at hi
  ·exact hi
  ·cases hi
theorem Ds.own {b:Nat} {es:List Nat} (h:Bx w b (U (ds++es)) 170) (hd:Dg ds) (c:Nat) (hc:ds.length≤c):Ds w (.slice (some ⟨b,0,none⟩) ds.length c) ds:=
 ⟨_,c,rfl,hc,hd,.inr ⟨b,rfl,h.lt,fun i d hi=>h.cell i (gZ (by rw[List.getElem?_append_left (List.getElem?_eq_some_iff.1 hi).1];exact hi))⟩⟩
theorem Mg.below {n:Nat} (h:Mg w v n) (hb:Below w.heap.size w w'):Mg w' v n:=by
 obtain⟨ds,h1,h2,h3⟩:=h;exact⟨ds,h1.below hb,h2,h3⟩
theorem Mg.drew {n:Nat} (h:Mg w v n):Mg w.drew v n:=h.below (Below.refl _ _).drew
theorem Mg.form {n:Nat} (h:Mg w v n):∃A l c,v= .slice A l c:=by
 obtain⟨ds,h1,h2,h3⟩:=h;obtain⟨A,c,hv,_⟩:=h1.form;exact⟨A,_,c,hv⟩
theorem Mg.zero (w:World) (A:Option Addr) (c:Nat):Mg w (.slice A 0 c) 0:=⟨[],Ds.nil w A c,(fun a h=>by simp at h),rfl⟩
end
def yN (w:World) (n:Nat) (e:Ending) (w':World):Prop:=∃v,e= .returned v∧Mg w' v n∧Below w.heap.size w w'
theorem nC:(Tryz.prog.info? 170).map (fun i=>(i.zero,i.size,i.bytes))=some (some (.int .u32 0),1,4):=by kernel_rfl
theorem Bx.zeros {w:World} {b n:Nat} (h:Rw w b 1 (List.replicate n [Value.int .u32 0]) 170):Bx w b (U (List.replicate n 0)) 170:=by
 have e:(List.replicate n [Value.int .u32 0]).flatten=U (List.replicate n 0):=by
  unfold U;clear h;induction n with
  |zero=>rfl
  |succ n ih=>rw[List.replicate_succ,List.flatten_cons,ih];rfl
 have:=h.1;rwa [e] at this
theorem Bx.mid {w:World} {b i x:Nat} {P Q:List Nat} (h:Bx w b (U (P++x :: Q)) 170) (hP:P.length=i):w.cell? ⟨b,i,none⟩=some (.int .u32 (x:Int)):=h.cell i (gZ (yQ hP))
theorem Bx.next {w:World} {b i x y:Nat} {P Q:List Nat} {v:Value} (h:Bx w b (U (P++x :: Q)) 170) (hP:P.length=i) (hv:v= .int .u32 (y:Int)):Bx (w.setCell ⟨b,i,none⟩ v) b (U ((P++[y])++Q)) 170:=by
 subst hv;have:=h.set i (.int .u32 (y:Int));rwa [SJ,SM hP] at this
theorem oE {a:Int} {b:Nat} (h:a=(b:Int)):Value.int .u32 a= .int .u32 (b:Int):=by rw[h]
theorem uH {a:Int} {b:Nat} (h:a=(b:Int)):Value.int .u64 a= .int .u64 (b:Int):=by rw[h]
theorem yO {x s t:Nat} (hx:x<4294967296) (hst:s+t≤4294967296):∃D1 D r c:Nat,IntKind.u64.wrap ((x:Int)-s)=D1∧IntKind.u64.wrap ((D1:Int)-t)=D∧(D:Int)%4294967296=r∧bits .and .u64 ((D:Int)/4294967296) 1=c∧c≤1∧r<4294967296∧D1≤18446744073709551615∧D≤18446744073709551615∧x+aC*c=r+s+t:=by
 have hw:∀n:Int,IntKind.u64.wrap n=n%18446744073709551616:=fun n=>by simp[IntKind.wrap,IntKind.bits,IntKind.signed]
 unfold aC;rw[hw];rcases Nat.lt_or_ge x (s+t) with h|h
 ·refine⟨(((x:Int)-s)%18446744073709551616).toNat,18446744073709551616+x-s-t,4294967296+x-s-t,1,by omega,by rw[hw];omega,by omega,?_,by omega,by omega,by omega,by omega,by omega⟩;rw[show((18446744073709551616+x-s-t:Nat):Int)/4294967296=4294967295 by omega];decide
 ·refine⟨x-s,x-s-t,x-s-t,0,by omega,by rw[hw];omega,by omega,?_,by omega,by omega,by omega,by omega,by omega⟩;rw[show((x-s-t:Nat):Int)/4294967296=0 by omega];decide
theorem Bx.prev {w:World} {b k y:Nat} {Q:List Nat} {v:Value} (h:Bx w b (U (List.replicate (k+1) 0++Q)) 170) (hv:v= .int .u32 (y:Int)):Bx (w.setCell ⟨b,k,none⟩ v) b (U (List.replicate k 0++y :: Q)) 170:=by
 rw[List.replicate_succ',List.append_assoc] at h;have:=h.next (P:=List.replicate k 0) List.length_replicate hv;rwa [List.append_assoc] at this
theorem Bx.last {w:World} {b k:Nat} {Q:List Nat} (h:Bx w b (U (List.replicate (k+1) 0++Q)) 170):w.cell? ⟨b,k,none⟩=some (.int .u32 ((0:Nat):Int)):=by
 rw[List.replicate_succ',List.append_assoc] at h;exact h.mid List.length_replicate
theorem yP (r x:Nat) (hr:r<4294967296) (hx:x<4294967296):bits .or .u64 ((r:Int)*4294967296) (x:Int)=((r*aC+x:Nat):Int):=by
 rw[u64_or _ _ (by omega) (by omega) (by omega) (by omega),show((r:Int)*4294967296).toNat=2^32*r by omega,Int.toNat_natCast,yX hx,Nat.mul_comm];rfl
theorem Ds.src {w:World} {A:Option Addr} {l c:Nat} {ds:List Nat} (h:Ds w (.slice A l c) ds):Src w A (U ds):=by
 obtain⟨A',c',e,hc,hd,h⟩:=h;simp only[Value.slice.injEq] at e;obtain⟨rfl,rfl,rfl⟩:=e;rcases h with h|⟨b,e,hl,hB⟩
 ·exact .inl (by rw[h];rfl)
 ·refine .inr ⟨b,0,e,fun i u hu=> ?_⟩;unfold U at hu;rw[List.getElem?_map] at hu;cases hd:ds[i]? with
  |none=>rw[hd] at hu;cases hu
  |some d=>
   rw[hd] at hu;injection hu with hu;rw[Nat.zero_add,hB i d hd,←hu]
theorem Ds.row {w:World} {B n:Nat} {v:Value} {ds:List Nat} (h:w.ownsRow B 170 1 v n (U ds)) (hn:ds.length=n) (hd:Dg ds):Ds w v ds:=by
 subst hn;rcases h.2 with ⟨rfl,h0⟩|⟨g,cap,cur,rfl,hb,hh,hn,_,hs,ht⟩
 ·obtain rfl:=List.eq_nil_of_length_eq_zero h0;exact Ds.nil _ _ _
 ·refine⟨_,cap,rfl,hn,hd,.inr ⟨g,rfl,(Array.getElem?_eq_some_iff.1 hh).1,fun i d hi=> ?_⟩⟩;rw[cell_of_row w g i cur _ (0,0) hh,←Array.getElem?_toList];have h1:=gZ hi;rw[←ht,List.getElem?_take] at h1;split at h1
  ·exact h1
  ·cases h1
theorem SK (ds:List Nat):∀u∈U ds,u.oneCell'=true:=fun u hu=>by
 obtain⟨d,_,rfl⟩:=List.mem_map.1 hu;rfl
theorem SL {t c b:Nat} (ht:t<4294967296) (hc:c≤4294967296) (hb:b≤1):∃d D:Nat,IntKind.u64.wrap ((t:Int)-c)=d∧IntKind.u64.wrap ((d:Int)-b)=D∧d≤18446744073709551615∧(t=c+b→D=0)∧(c+b=t+1→D=18446744073709551615):=by
 have hw:∀n:Int,IntKind.u64.wrap n=n%18446744073709551616:=fun n=>by simp[IntKind.wrap,IntKind.bits,IntKind.signed]
 refine⟨(((t:Int)-c)%18446744073709551616).toNat,(((t:Int)-c-b)%18446744073709551616).toNat,by rw[hw];omega,by rw[hw];omega,by omega,by omega,by omega⟩
theorem iO {ds:List Nat} {n:Nat} (ht:aN ds) (hn:nv ds=n):ds.length≤2*nl n:=by
 by_cases h0:ds=[]
 ·rw[h0];exact Nat.zero_le _
 ·have h1:=yW ht h0;have h2:=bG n;have h3:BN^nl n=aC^(2*nl n):=by rw[Nat.pow_mul];rfl
  rw[hn] at h1;rw[h3] at h2;have:=(Nat.pow_lt_pow_iff_right (a:=aC) (by decide)).1 (Nat.lt_of_le_of_lt h1 h2);omega
def KM (w w':World):Prop:=w.heap.size≤w'.heap.size∧∀p k x,w.cell? p=some (Value.int k x)→w'.cell? p=some (Value.int k x)
section
variable {w w' W:World} {b B:Nat} {t:TypeId} {cs:List Value}
theorem KM.trans {a b c:World} (h:KM a b) (k:KM b c):KM a c:=⟨Nat.le_trans h.1 k.1,fun p i x hp=>k.2 p i x (h.2 p i x hp)⟩
theorem KM.below (hb:Below w.heap.size w w'):KM w w':=⟨hb.size,fun p k x h=>(hb.cell (block_lt_of_cell h)).trans h⟩
theorem Mg.keep {v:Value} {n:Nat} (h:Mg w v n) (hk:KM w w'):Mg w' v n:=by
 obtain⟨ds,⟨A,c,hv,hc,hd,h⟩,h2,h3⟩:=h;refine⟨ds,⟨A,c,hv,hc,hd,?_⟩,h2,h3⟩;rcases h with h|⟨b,e,hl,hB⟩
 ·exact .inl h
 ·exact .inr ⟨b,e,Nat.lt_of_lt_of_le hl hk.1,fun i d hi=>hk.2 _ _ _ (hB i d hi)⟩
theorem Bx.mut1 (h:Bx W b cs t) (hb:Below B w W) (hB:B≤b) (i:Nat) (v:Value) (hn:fZ cs[i]? =true):
  ∃W',W.setCell ⟨b,i,none⟩ v=W'∧Bx W' b (cs.set i v) t∧Below B w W'∧KM W W'∧∀{g:Nat} {cs:List Value} {t:TypeId},Bx W g cs t→b≠g→Bx W' g cs t:=by
 obtain⟨W',e,h1,h2, -,ff⟩:=h.put1 hb hB i v hn;refine⟨W',e,h1,h2,?_,ff⟩;subst e;refine⟨by simp,fun p k x hp=> ?_⟩;rw[World.cell?_setCell_other _ _ _ _ ?_,hp];rintro rfl;cases hc:cs[i]? with
 |none=>rw[hc] at hn;cases hn
 |some c=>
  rw[h.cell i hc] at hp;injection hp with hp;rw[hc,hp] at hn;cases hn
theorem Bx.mut2 (h:Bx W b cs t) (hb:Below B w W) (hB:B≤b) (v0 v1:Value) {a0 a1:Value} (hc:cs=[a0,a1]) (hn:(fZ (some a0)&&fZ (some a1))=true):
  ∃W',(W.setCell ⟨b,0,none⟩ v0).setCell ⟨b,1,none⟩ v1=W'∧Bx W' b [v0,v1] t∧Below B w W'∧KM W W'∧∀{g:Nat} {cs:List Value} {t:TypeId},Bx W g cs t→b≠g→Bx W' g cs t:=by
 subst hc;simp only[Bool.and_eq_true] at hn;obtain⟨W1,rfl,h1,b1,k1,f1⟩:=h.mut1 hb hB 0 v0 hn.1;obtain⟨W2,rfl,h2,b2,k2,f2⟩:=h1.mut1 b1 hB 1 v1 hn.2;exact⟨_,rfl,h2,b2,k1.trans k2,fun k hne=>f2 (f1 k hne) hne⟩
theorem Bx.mut4 (h:Bx W b cs t) (hb:Below B w W) (hB:B≤b) (v0 v1 v2 v3:Value) {a0 a1 a2 a3:Value} (hc:cs=[a0,a1,a2,a3]) (hn:(fZ (some a0)&&(fZ (some a1)&&(fZ (some a2)&&fZ (some a3))))=true):
  ∃W',(((W.setCell ⟨b,0,none⟩ v0).setCell ⟨b,1,none⟩ v1).setCell ⟨b,2,none⟩ v2).setCell ⟨b,3,none⟩ v3=W'∧Bx W' b [v0,v1,v2,v3] t∧Below B w W'∧KM W W'∧∀{g:Nat} {cs:List Value} {t:TypeId},Bx W g cs t→b≠g→Bx W' g cs t:=by
 subst hc;simp only[Bool.and_eq_true] at hn;obtain⟨W1,rfl,h1,b1,k1,f1⟩:=h.mut1 hb hB 0 v0 hn.1;obtain⟨W2,rfl,h2,b2,k2,f2⟩:=h1.mut1 b1 hB 1 v1 hn.2.1;obtain⟨W3,rfl,h3,b3,k3,f3⟩:=h2.mut1 b2 hB 2 v2 hn.2.2.1;obtain⟨W4,rfl,h4,b4,k4,f4⟩:=h3.mut1 b3 hB 3 v3 hn.2.2.2;exact⟨_,rfl,h4,b4,((k1.trans k2).trans k3).trans k4,fun k hne=>f4 (f3 (f2 (f1 k hne) hne) hne) hne⟩
end
theorem yM (ds:List Nat) (A:Option Addr) (c:Nat) (w:World) (hv:Ds w (.slice A ds.length c) ds) (hl:ds.length≤4398046511104):
  Calls Tryz.prog 160 #[.slice A ds.length c] w fun e w'=>e= .returned (.slice A (aH aG ds).length c)∧w=w':=by
 have hc:ds.length≤c:=hv.cap;go_enter Tryz.func160,Tryz.ntmps160;go_wp2_with fail;go_loopg [0] ds.length (fun k s wr=>∃m,Hid (m=k)∧s= .slice A m c∧m≤ds.length∧Hid (aH aG (ds.take m)=aH aG ds)∧w=wr)
 case atStart=>exact⟨ds.length,rfl,rfl,Nat.le_refl _,by unfold Hid;rw[List.take_length],rfl⟩
 case round=>
  obtain⟨m,HM,rfl,hm,HT,rfl⟩:=hrel;cases gk with
  |zero=>
   obtain rfl:m=0:=HM.out;have HTT:Hid (aH aG ds=[]):=HT.out.symm;go_wp2_with fail;go_ret;rw[HTT.out];exact⟨rfl,rfl⟩
  |succ k=>
   have hmk:m=k+1:=HM.out;subst hmk;obtain⟨d,hd⟩:∃d,ds[k]? =some d:=⟨_,List.getElem?_eq_getElem (by omega)⟩;obtain⟨b,rfl,hb,g0⟩:=hv.at_ hd;have HDN:=Lib.hid (tH aG ds hd);have HST:=Lib.hid (tI aG ds hd);have hm2:k+1≤c:=by omega
   clear hd;by_cases h0:d=0
   ·subst h0;go_wp2_with fail;go_roundg k
    case rel=>exact⟨k,rfl,by go_num,by omega,by unfold Hid;rw[←HDN.out rfl];exact HT.out,rfl⟩
    case measure=>omega
   ·have q0:((d:Int)==0)=false:=by simpa using h0
    have HTT:Hid (aH aG ds=ds.take (k+1)):=by unfold Hid;rw[←HT.out];exact HST.out (by simpa [aG] using h0)
    clear h0;go_wp2_with fail;go_ret;rw[HTT.out,List.length_take,Nat.min_eq_left hm];exact⟨rfl,rfl⟩
theorem GE (ds es:List Nat) (b n c:Nat) (w:World) (h:Bx w b (U (ds++es)) 170) (hd:Dg ds) (hn:nv ds=n) (hc:ds.length≤c) (hl:ds.length≤4398046511104):
  Calls Tryz.prog 160 #[.slice (some ⟨b,0,none⟩) ds.length c] w fun e w'=>∃k c',e= .returned (.slice (some ⟨b,0,none⟩) k c')∧Mg w (.slice (some ⟨b,0,none⟩) k c') n∧w=w':=
 have hD:=Ds.own h hd c hc
 (yM ds _ c w hD hl).mono fun e w' ⟨he,hw⟩=>⟨_,_,he,⟨aH aG ds,by
  have:=hD.cut (aH aG ds).length (cK _ _);rwa [←DL] at this,fC ds,by rw[GL];exact hn⟩,hw⟩
theorem GF (ds es:List Nat) (b n c:Nat) (w:World) (h:Bx w b (U (ds++es)) 170) (hd:Dg ds) (hn:nv ds=n) (hc:ds.length≤c) (hl:ds.length≤4398046511104):
  Calls Tryz.prog 160 #[.slice (some ⟨b,0,none⟩) ds.length c] w fun e w'=>∃v,e= .returned v∧Mg w v n∧w=w':=
 (GE ds es b n c w h hd hn hc hl).mono fun e w' ⟨k,c',he,hm,hw⟩=>⟨_,he,hm,hw⟩
theorem nB (ds:List Nat) (b n c:Nat) (w:World) (h:Bx w b (U ds) 170) (hd:Dg ds) (hn:nv ds=n) (hc:ds.length≤c) (hl:ds.length≤4398046511104):
  Calls Tryz.prog 160 #[.slice (some ⟨b,0,none⟩) ds.length c] w fun e w'=>∃v,e= .returned v∧Mg w v n∧w=w':=GF ds [] b n c w (by rw[List.append_nil];exact h) hd hn hc hl
theorem GG (a b:Nat) (va vb:Value) (w:World) (ha:Mg w va a) (hb':Mg w vb b) (la:nl a≤1099511627776) (lb:nl b≤1099511627776):
  Calls Tryz.prog 158 #[va,vb] w (yN w (a+b)):=by
 obtain⟨X,Y,VX,VY,hX,hY,lX,hl,hs,hsl⟩:∃X Y VX VY,Ds w VX X∧Ds w VY Y∧X.length≤2199023255552∧Y.length≤X.length∧Hid (nv X+nv Y=a+b)∧(va=VX∧vb=VY∨va=VY∧vb=VX∧Y.length<X.length):=by
  obtain⟨xs,hx,tx,rfl⟩:=ha;obtain⟨ys,hy,ty,rfl⟩:=hb';have lx:=iO tx rfl;have ly:=iO ty rfl;rcases Nat.lt_or_ge xs.length ys.length with h|h
  ·exact⟨ys,xs,vb,va,hy,hx,by omega,by omega,Nat.add_comm _ _,.inr ⟨rfl,rfl,h⟩⟩
  ·exact⟨xs,ys,va,vb,hx,hy,by omega,h,rfl,.inl ⟨rfl,rfl⟩⟩
 obtain⟨A,c,rfl,hc⟩:=hX.form;obtain⟨B,d,rfl,hd⟩:=hY.form;have dX:=hX.dg;have dY:=hY.dg;clear ha hb';rcases hsl with ⟨rfl,rfl⟩|⟨rfl,rfl,h⟩
 all_goals (
  go_enter Tryz.func158,Tryz.ntmps158;go_wp2_with (at_make;refine eZ rfl rfl 170 _ 1 4 Tryz.underlying92 nC rfl (by decide) (X.length+1) rfl rfl rfl rfl (by omega) (by omega) ?_;intro w1 hz1 hr1 hb1);have R:=Bx.zeros hr1;clear hr1 hz1;go_loopg [6,7] X.length (fun k s t wr=>∃(P:List Nat) (e i:Nat),Hid (i+k=X.length)∧s= .int .u64 (e:Int)∧t= .int .i64 (i:Int)∧e≤1∧Hid (P.length=i)∧Dg P∧Hid (nv P+aC^i*e=nv (X.take i)+nv (Y.take i))∧Bx wr w.heap.size (U (P++List.replicate (k+1) 0)) 170∧Below w.heap.size w wr)
  case atStart=>exact⟨[],0,0,by unfold Hid;omega,rfl,rfl,by omega,rfl,(fun d hd=>by cases hd),rfl,R,hb1⟩
  case round=>
   clear R hb1;obtain⟨P,e,i,HJ,rfl,rfl,he,HP,dP,HV,R,hb⟩:=hrel;generalize wr=wx at *;have hi0:(0:Int)≤(i:Int):=by omega
   cases gk with
   |zero=>
    have hi:i=X.length:=HJ.out;subst hi;have g0:=R.mid HP.out;have f0:=R.free X.length;have hi1:¬(X.length:Int)<(X.length:Int):=by omega
    go_wp2_with fail;have R2:=R.next (y:=e) HP.out rfl;have hl2:=gH (x:=e) HP.out;have hv:nv (P++[e])=a+b:=by
     have:=HV.out;rw[fH (Nat.le_refl _),fH hl] at this;rw[jF e HP.out,this,hs.out]
    have ht:=fun W h=>nB (P++[e]) w.heap.size (a+b) (X.length+1) W h (dP.snoc (by unfold aC;omega)) hv (by omega) (by omega);rw[List.replicate_zero,List.append_nil] at R2;simp only[hl2] at ht;refine(ht _ R2).mono ?_;rintro e2 w2 ⟨v,rfl,hm,rfl⟩;go_wp2_with fail;go_ret;exact⟨_,rfl,hm,hb.setCell (p:=⟨w.heap.size,X.length,none⟩) (Nat.le_refl _) _⟩
   |succ k=>
    have hi1:i<X.length:=by have:=HJ.out;omega
    obtain⟨x,hx⟩:∃x,X[i]? =some x:=⟨_,List.getElem?_eq_getElem hi1⟩;obtain⟨bx,rfl,hbx,gx⟩:=(hX.below hb).at_ hx;have x32:=dX.get hx;unfold aC at x32;have g0:=R.mid HP.out;have f0:=R.free i;have HS:=fun q=>Lib.hid (yR HP.out HV.out (show e+x+q=e+(x+q) by omega));have HX:=Lib.hid (fM X i);have HY:=Lib.hid (fM Y i);rw[eF hx] at HX;clear hx;by_cases hy1:i<Y.length
    ·obtain⟨y,hy⟩:∃y,Y[i]? =some y:=⟨_,List.getElem?_eq_getElem hy1⟩;obtain⟨by',rfl,hby,gy⟩:=(hY.below hb).at_ hy;have y32:=dY.get hy;unfold aC at y32;rw[eF hy] at HY;clear hy;go_wp2_with fail;go_roundg k
     case rel=>exact⟨P++[(e+x+y)%aC],(e+x+y)/aC,i+1,by have:=HJ.out;unfold Hid;omega,uH (by unfold aC;omega),by go_num,by unfold aC;omega,gH HP.out,dP.snoc (Nat.mod_lt _ jV),by unfold Hid;rw[HX.out,HY.out,(HS y).out,Nat.mul_add];omega,R.next HP.out (oE (by unfold aC;omega)),hb.setCell (p:=⟨w.heap.size,i,none⟩) (Nat.le_refl _) _⟩
     case measure=>omega
    ·rw[pK (by omega)] at HY;go_wp2_with fail;go_roundg k
     case rel=>exact⟨P++[(e+x)%aC],(e+x)/aC,i+1,by have:=HJ.out;unfold Hid;omega,uH (by unfold aC;omega),by go_num,by unfold aC;omega,gH HP.out,dP.snoc (Nat.mod_lt _ jV),by unfold Hid;rw[HX.out,HY.out];exact(HS 0).out.trans (by rw[Nat.mul_add];omega),R.next HP.out (oE (by unfold aC;omega)),hb.setCell (p:=⟨w.heap.size,i,none⟩) (Nat.le_refl _) _⟩
     case measure=>omega)
theorem GH (a b:Nat) (va vb:Value) (w:World) (ha:Mg w va a) (hb':Mg w vb b) (la:nl a≤1099511627776) (lb:nl b≤1099511627776):
  Calls Tryz.prog 190 #[va,vb] w (sS w (bM a b)):=by
 obtain⟨X,hX,tX,rfl⟩:=ha;obtain⟨Y,hY,tY,rfl⟩:=hb';have lX:=iO tX rfl;have lY:=iO tY rfl;have dX:=hX.dg;have dY:=hY.dg;obtain⟨A,c,rfl,hc⟩:=hX.form;obtain⟨B,d,rfl,hd⟩:=hY.form;rcases Nat.lt_trichotomy X.length Y.length with h|h|h
 ·have hcm:Hid (bM (nv X) (nv Y)= -1):=iX (by have:=uI dX tY h;omega);have q0:((X.length:Int) != (Y.length:Int))=true:=by simp;omega
  go_enter Tryz.func190,Tryz.ntmps190;go_wp2_with fail;go_ret;exact⟨by rw[hcm.out];rfl,Below.refl _ _⟩
 ·have q0:((X.length:Int) != (Y.length:Int))=false:=by simp;omega
  have HL:=Lib.hid h;clear h;go_enter Tryz.func190,Tryz.ntmps190;go_wp2_with fail;go_loopg [5] X.length (fun k s wr=>∃i:Int,Hid (i+1=k)∧s= .int .i64 i∧ -1≤i∧i<X.length∧Hid (X.drop k=Y.drop k)∧Below w.heap.size w wr)
  case atStart=>exact⟨(X.length:Int)-1,by unfold Hid;omega,rfl,by omega,by omega,by unfold Hid;rw[List.drop_of_length_le (Nat.le_refl _),List.drop_of_length_le (by rw[HL.out];exact Nat.le_refl _)],Below.refl _ _⟩
  case round=>
   obtain⟨i,HJ,rfl,h1,h2,HD,hb⟩:=hrel;generalize wr=wx at *;cases gk with
   |zero=>
    have hi:¬0≤i:=by have:=HJ.out;omega
    have hcm:Hid (bM (nv X) (nv Y)=0):=by
     have:X=Y:=HD.out;rw[this];exact wH _
    go_wp2_with fail;go_ret;exact⟨by rw[hcm.out];rfl,hb⟩
   |succ k=>
    have hi:i=(k:Int):=by have:=HJ.out;omega
    subst hi;obtain⟨x,hx⟩:∃x,X[k]? =some x:=⟨_,List.getElem?_eq_getElem (by omega)⟩;have h4:k<Y.length:=by have:=HL.out;omega
    obtain⟨y,hy⟩:∃y,Y[k]? =some y:=⟨_,List.getElem?_eq_getElem h4⟩;obtain⟨bx,rfl,hbx,gx⟩:=(hX.below hb).at_ hx;obtain⟨by',rfl,hby,gy⟩:=(hY.below hb).at_ hy;have hlt:=fun h:x<y=>GM dX dY hx hy HL.out HD.out h;have hgt:=fun h:y<x=>GM dY dX hy hx HL.out.symm HD.out.symm h;have hde:x=y→X.drop k=Y.drop k:=fun h=>by
     have e1:=(List.getElem?_eq_some_iff.1 hx);have e2:=(List.getElem?_eq_some_iff.1 hy);rw[List.drop_eq_getElem_cons e1.1,List.drop_eq_getElem_cons e2.1,HD.out,e1.2,e2.2,h]
    have HLT:=Lib.hid hlt;have HGT:=Lib.hid hgt;have HDE:=Lib.hid hde;clear hlt hgt hde hx hy;rcases Nat.lt_trichotomy x y with h|h|h
    ·have q1:((x:Int) != (y:Int))=true:=by simp;omega
     have hcm:Hid (bM (nv X) (nv Y)= -1):=iX (by have:=HLT.out h;omega);go_wp2;go_quiet (fail);go_wp2;go_quiet (fail);go_wp2;go_ret;exact⟨by rw[hcm.out];rfl,cH (cH hb _) _⟩
    ·have q1:((x:Int) != (y:Int))=false:=by simp;omega
     have HE:=Lib.hid (HDE.out h);clear HDE;subst h;go_wp2;go_quiet (fail);go_wp2;go_roundg k
     case rel=>exact⟨(k:Int)-1,by unfold Hid;omega,by go_num,by omega,by omega,HE,cH hb _⟩
     case measure=>omega
    ·have q1:((x:Int) != (y:Int))=true:=by simp;omega
     have hcm:Hid (bM (nv X) (nv Y)=1):=nU (by have:=HGT.out h;omega);have h3:¬(x:Int)<(y:Int):=by omega
     go_wp2;go_quiet (fail);go_wp2;go_quiet (fail);go_wp2;go_ret;exact⟨by rw[hcm.out];rfl,cH (cH hb _) _⟩
 ·have hcm:Hid (bM (nv X) (nv Y)=1):=nU (by have:=uI dY tX h;omega);have q0:((X.length:Int) != (Y.length:Int))=true:=by simp;omega
  have q1:¬(X.length:Int)<(Y.length:Int):=by omega
  go_enter Tryz.func190,Tryz.ntmps190;go_wp2_with fail;go_ret;exact⟨by rw[hcm.out];rfl,Below.refl _ _⟩
theorem GI (a b:Nat) (va vb:Value) (w:World) (ha:Mg w va a) (hb':Mg w vb b) (la:nl a≤1099511627776) (lb:nl b≤1099511627776) (hab:b≤a):
  Calls Tryz.prog 191 #[va,vb] w (yN w (a-b)):=by
 obtain⟨X,hX,tX,rfl⟩:=ha;obtain⟨Y,hY,tY,rfl⟩:=hb';have lX:=iO tX rfl;have lY:=iO tY rfl;have dX:=hX.dg;have dY:=hY.dg;have hl:Y.length≤X.length:=by
  rcases Nat.lt_or_ge X.length Y.length with h|h
  ·have:=uI dX tY h;omega
  ·exact h
 have HAB:=Lib.hid hab;obtain⟨A,c,rfl,hc⟩:=hX.form;obtain⟨B,d,rfl,hd⟩:=hY.form;clear tX tY hab;go_enter Tryz.func191,Tryz.ntmps191;go_wp2_with (at_make;refine eZ rfl rfl 170 _ 1 4 Tryz.underlying92 nC rfl (by decide) X.length rfl rfl rfl rfl (by omega) (by omega) ?_;intro w1 hz1 hr1 hb1);have R:=Bx.zeros hr1;clear hr1 hz1;go_loopg [6,7] X.length (fun k s t wr=>∃(P:List Nat) (e i:Nat),Hid (i+k=X.length)∧s= .int .u64 (e:Int)∧t= .int .i64 (i:Int)∧e≤1∧Hid (P.length=i)∧Dg P∧Hid (nv (X.take i)+aC^i*e=nv P+nv (Y.take i))∧Bx wr w.heap.size (U (P++List.replicate k 0)) 170∧Below w.heap.size w wr)
 case atStart=>exact⟨[],0,0,by unfold Hid;omega,rfl,rfl,by omega,rfl,(fun d hd=>by cases hd),rfl,R,hb1⟩
 case round=>
  clear R hb1;obtain⟨P,e,i,HJ,rfl,rfl,he,HP,dP,HV,R,hb⟩:=hrel;generalize wr=wx at *;have hi0:(0:Int)≤(i:Int):=by omega
  cases gk with
  |zero=>
   have hi:i=X.length:=HJ.out;subst hi;have hi1:¬(X.length:Int)<(X.length:Int):=by omega
   rw[List.replicate_zero,List.append_nil] at R;have hv:nv P=nv X-nv Y:=by
    have h1:=HV.out;have h2:=HAB.out;have h3:=lJ dP;rw[HP.out] at h3;rw[fH (Nat.le_refl _),fH hl] at h1;rcases(show e=0∨e=1 by omega) with rfl|rfl
    ·omega
    ·omega
   have ht:=nB P w.heap.size _ X.length wx R dP hv (by rw[HP.out];exact Nat.le_refl _) (by rw[HP.out];omega);rw[HP.out] at ht;go_wp2_with fail;refine ht.mono ?_;rintro e2 w2 ⟨v,rfl,hm,rfl⟩;go_wp2_with fail;go_ret;exact⟨_,rfl,hm,hb⟩
  |succ k=>
   have hi1:i<X.length:=by have:=HJ.out;omega
   obtain⟨x,hx⟩:∃x,X[i]? =some x:=⟨_,List.getElem?_eq_getElem hi1⟩;obtain⟨bx,rfl,hbx,gx⟩:=(hX.below hb).at_ hx;have x32:=dX.get hx;unfold aC at x32;have g0:=R.mid HP.out;have f0:=R.free i;have HX:=Lib.hid (fM X i);have HY:=Lib.hid (fM Y i);rw[eF hx] at HX;clear hx;by_cases hy1:i<Y.length
   ·obtain⟨y,hy⟩:∃y,Y[i]? =some y:=⟨_,List.getElem?_eq_getElem hy1⟩;obtain⟨by',rfl,hby,gy⟩:=(hY.below hb).at_ hy;have y32:=dY.get hy;unfold aC at y32;rw[eF hy] at HY;clear hy;obtain⟨D1,D,r,q,h1,h2,h3,h4,h5,h6,h9,h7,h8⟩:=yO (s:=e) (t:=y) x32 (by omega);have HS:=Lib.hid (yS (c:=q) HP.out HV.out (show x+aC*q=r+y+e by omega));clear h8;go_wp2_with fail;go_roundg k
    case rel=>exact⟨P++[r],q,i+1,by have:=HJ.out;unfold Hid;omega,rfl,by go_num,by omega,gH HP.out,dP.snoc (by unfold aC;omega),by unfold Hid;rw[HX.out,HY.out];exact HS.out,R.next HP.out rfl,hb.setCell (p:=⟨w.heap.size,i,none⟩) (Nat.le_refl _) _⟩
    case measure=>omega
   ·rw[pK (by omega)] at HY;obtain⟨D1,D,r,q,h1,h2,h3,h4,h5,h6,h9,h7,h8⟩:=yO (s:=e) (t:=0) x32 (by omega);have HS:=Lib.hid (yS (c:=q) (p:=0) HP.out HV.out (show x+aC*q=r+0+e by omega));rw[IntWalk.u64_in _ (by omega)] at h2;obtain rfl:D=D1:=by omega
    clear h8 h2;go_wp2_with fail;go_roundg k
    case rel=>exact⟨P++[r],q,i+1,by have:=HJ.out;unfold Hid;omega,rfl,by go_num,by omega,gH HP.out,dP.snoc (by unfold aC;omega),by unfold Hid;rw[HX.out,HY.out];exact HS.out,R.next HP.out rfl,hb.setCell (p:=⟨w.heap.size,i,none⟩) (Nat.le_refl _) _⟩
    case measure=>omega
def GA (w:World) (a d:Nat) (e:Ending) (w':World):Prop:=∃v,e= .returned (.tuple #[v,.int .u32 ((a%d:Nat):Int)])∧Mg w' v (a/d)∧(∀g,v.ownBlock=some g→w.heap.size≤g∧g<w'.heap.size)∧Below w.heap.size w w'
theorem GB (a d:Nat) (va:Value) (w:World) (ha:Mg w va a) (la:nl a≤1099511627776) (h0:0<d) (h32:d<4294967296):
  Calls Tryz.prog 165 #[va,.int .u32 (d:Int)] w (GA w a d):=by
 obtain⟨X,hX,tX,rfl⟩:=ha;have lX:=iO tX rfl;have dX:=hX.dg;obtain⟨A,c,rfl,hc⟩:=hX.form;clear tX;go_enter Tryz.func165,Tryz.ntmps165;go_wp2_with (at_make;refine eZ rfl rfl 170 _ 1 4 Tryz.underlying92 nC rfl (by decide) X.length rfl rfl rfl rfl (by omega) (by omega) ?_;intro w1 hz1 hr1 hb1);have R:=Bx.zeros hr1;clear hr1 hz1;go_loopg [7,8] X.length (fun k s t wr=>∃(Q:List Nat) (r:Nat) (i:Int),Hid (i+1=k)∧s= .int .u64 (r:Int)∧t= .int .i64 i∧ -1≤i∧i<X.length∧r<d∧Hid (Q.length+k=X.length)∧Dg Q∧Hid (d*nv Q+r=nv (X.drop k))∧Bx wr w.heap.size (U (List.replicate k 0++Q)) 170∧Below w.heap.size w wr)
 case atStart=>exact⟨[],0,(X.length:Int)-1,by unfold Hid;omega,rfl,rfl,by omega,by omega,h0,by unfold Hid;simp,(fun d hd=>by cases hd),by unfold Hid;rw[List.drop_length];rfl,by rw[List.append_nil];exact R,hb1⟩
 case round=>
  clear R hb1;obtain⟨Q,r,i,HJ,rfl,rfl,h1,h2,hr,HQ,dQ,HV,R,hb⟩:=hrel;generalize wr=wx at *;cases gk with
  |zero=>
   have hi:¬0≤i:=by have:=HJ.out;omega
   have hq:Q.length=X.length:=HQ.out;rw[List.replicate_zero,List.nil_append] at R;have hv:d*nv Q+r=nv X:=HV.out;have hm:nv X%d=r:=by rw[←hv,Nat.mul_add_mod,Nat.mod_eq_of_lt hr]
   have hd:nv Q=nv X/d:=by rw[←hv,Nat.mul_add_div h0,Nat.div_eq_of_lt hr,Nat.add_zero]
   have ht:=GE Q [] w.heap.size _ X.length wx (by rw[List.append_nil];exact R) dQ hd (by omega) (by omega);rw[hq] at ht;have HM:=Lib.hid hm;clear hq hv hm hd;go_wp2_with fail;refine ht.mono ?_;rintro e2 w2 ⟨k2,c2,rfl,hm,rfl⟩;go_wp2_with fail;go_ret2;exact⟨_,by rw[HM.out];rfl,hm,fun g hg=>by have:=R.lt;simp[Value.ownBlock] at hg;omega,hb⟩
  |succ k=>
   have hi:i=(k:Int):=by have:=HJ.out;omega
   subst hi;obtain⟨x,hx⟩:∃x,X[k]? =some x:=⟨_,List.getElem?_eq_getElem (by omega)⟩;obtain⟨bx,rfl,hbx,gx⟩:=(hX.below hb).at_ hx;have x32:=dX.get hx;unfold aC at x32;have g0:=R.last;have f0:=R.free k;have hor:=yP r x (by omega) x32;have HX:=Lib.hid (yV hx);clear hx;have hs:r*aC+x<d*4294967296:=by
    have:(r+1)*4294967296≤d*4294967296:=Nat.mul_le_mul_right _ hr;unfold aC;omega
   have hs2:d*4294967296≤4294967295*4294967296:=Nat.mul_le_mul_right _ (by omega);generalize hS:r*aC+x=S at *;have HS:=Lib.hid hS;have hdiv:S/d<4294967296:=Nat.div_lt_of_lt_mul hs;have hmod:S%d<d:=Nat.mod_lt _ h0;have e1:((S:Int))/(d:Int)=((S/d:Nat):Int):=(Int.natCast_ediv S d).symm;have e2:((S:Int))%(d:Int)=((S%d:Nat):Int):=(Int.natCast_emod S d).symm;have hst:d*nv (S/d :: Q)+S%d=nv (X.drop k):=by
    rw[HX.out,←HV.out];exact SQ (by rw[Nat.mul_comm,Nat.div_add_mod,HS.out])
   have HST:=Lib.hid hst;have hsb:S≤18446744073709551615:=by omega
   clear hst hS hs hs2;generalize S/d=q at *;generalize S%d=m at *;go_wp2_with fail;go_roundg k
   case rel=>exact⟨q :: Q,m,(k:Int)-1,by unfold Hid;omega,by rw[e2],by go_num,by omega,by omega,hmod,by have:=HQ.out;unfold Hid;rw[List.length_cons];omega,(fun z hz=>by
    rcases List.mem_cons.1 hz with rfl|hz
    ·exact hdiv
    ·exact dQ z hz),HST,R.prev rfl,hb.setCell (p:=⟨w.heap.size,k,none⟩) (Nat.le_refl _) _⟩
   case measure=>omega
theorem SF {s x z:Nat} (hs:s<32) (hx:x<4294967296) (hz:z<2^s):∃V L H:Nat,IntKind.u64.wrap ((x:Int)*2^s)=V∧V≤18446744073709551615∧bits .or .u32 (z:Int) ((V:Int)%4294967296)=L∧(V:Int)/4294967296=H∧L<4294967296∧H<2^s∧H<4294967296∧L+aC*H=z+2^s*x:=by
 have h1:x*2^s<4294967296*2^s:=Nat.mul_lt_mul_of_pos_right hx (Nat.pow_pos (by decide));have h2:2^s≤2^31:=Nat.pow_le_pow_right (by decide) (by omega);have h3:(4294967296:Nat)=2^s*2^(32-s):=by rw[←Nat.pow_add,show s+(32-s)=32 by omega]
 have hm:x*2^s%4294967296=2^s*(x%2^(32-s)):=by conv=>lhs;rw[h3,Nat.mul_comm x,Nat.mul_mod_mul_left]
 have hx':x%2^(32-s)+1≤2^(32-s):=Nat.mod_lt _ (Nat.pow_pos (by decide));have h4:2^s*(x%2^(32-s)+1)≤4294967296:=by rw[h3];exact Nat.mul_le_mul_left _ hx'
 have hmb:=Nat.mod_lt (x*2^s) (show 4294967296>0 by decide);have hdm:=Nat.mod_add_div (x*2^s) 4294967296;refine⟨x*2^s,z+x*2^s%4294967296,x*2^s/4294967296,?_,by omega,?_,(Int.natCast_ediv _ _).symm,by rw[hm];rw[Nat.mul_add] at h4;omega,Nat.div_lt_of_lt_mul h1,by omega,by unfold aC;rw[Nat.mul_comm (2^s)];omega⟩
 ·rw[show((x:Int)*2^s)=((x*2^s:Nat):Int) by rw[Int.natCast_mul,Int.natCast_pow];rfl];exact IntWalk.u64_in _ (by omega)
 ·rw[show((x*2^s:Nat):Int)%4294967296=((x*2^s%4294967296:Nat):Int) from(Int.natCast_emod _ _).symm,u32_or _ _ (by omega) (by omega) (by omega) (by omega),Int.toNat_natCast,Int.toNat_natCast,hm,Nat.or_comm,yX hz,Nat.add_comm]
theorem SG {s x y:Nat} (hs:s<32) (hx:x<4294967296) (hy:y<4294967296):∃V L:Nat,IntKind.u64.wrap (32-(s:Int))=((32-s:Nat):Int)∧IntKind.u64.wrap ((y:Int)*2^(32-s))=V∧IntKind.u32.wrap (V:Int)=L∧bits .or .u32 ((x/2^s:Nat):Int) (L:Int)=((x/2^s+L:Nat):Int)∧L=2^(32-s)*(y%2^s)∧x/2^s+L<4294967296:=by
 have h3:(4294967296:Nat)=2^(32-s)*2^s:=by rw[←Nat.pow_add,show 32-s+s=32 by omega]
 have hp:0<2^s:=Nat.pow_pos (by decide);have h1:y*2^(32-s)≤4294967295*4294967296:=Nat.mul_le_mul (by omega) (Nat.pow_le_pow_right (n:=2) (by decide) (show 32-s≤32 by omega));have hm:y*2^(32-s)%4294967296=2^(32-s)*(y%2^s):=by conv=>lhs;rw[h3,Nat.mul_comm y,Nat.mul_mod_mul_left]
 have hxd:x/2^s<2^(32-s):=Nat.div_lt_of_lt_mul (by rw[Nat.mul_comm,←h3];exact hx);have hy':y%2^s+1≤2^s:=Nat.mod_lt _ hp;have h4:2^(32-s)*(y%2^s+1)≤4294967296:=by rw[h3];exact Nat.mul_le_mul_left _ hy'
 rw[Nat.mul_add,Nat.mul_one] at h4;generalize x/2^s=xq at *;refine⟨y*2^(32-s),2^(32-s)*(y%2^s),?_,?_,?_,?_,rfl,by omega⟩
 ·rw[show(32:Int)-s=((32-s:Nat):Int) by omega];exact IntWalk.u64_in _ (by omega)
 ·rw[show((y:Int)*2^(32-s))=((y*2^(32-s):Nat):Int) by rw[Int.natCast_mul,Int.natCast_pow];rfl];exact IntWalk.u64_in _ (by omega)
 ·rw[IntKind.wrap_u32,←hm];exact(Int.natCast_emod _ _).symm
 ·rw[u32_or _ _ (by omega) (by omega) (by omega) (by omega),Int.toNat_natCast,Int.toNat_natCast,Nat.or_comm,yX hxd,Nat.add_comm]
def SH (w:World) (X:List Nat) (s:Nat) (e:Ending) (w':World):Prop:=e= .returned (.slice (some ⟨w.heap.size,0,none⟩) (X.length+1) (X.length+1))∧∃Z:List Nat,Bx w' w.heap.size (U Z) 170∧Z.length=X.length+1∧Dg Z∧nv Z=2^s*nv X∧Below w.heap.size w w'
theorem GC (X:List Nat) (va:Value) (s:Nat) (w:World) (hX:Ds w va X) (lX:X.length≤2199023255552) (hs:s<32):
  Calls Tryz.prog 209 #[va,.int .u64 (s:Int)] w (SH w X s):=by
 have dX:=hX.dg;obtain⟨A,c,rfl,hc⟩:=hX.form;go_enter Tryz.func209,Tryz.ntmps209;go_wp2_with (at_make;refine eZ rfl rfl 170 _ 1 4 Tryz.underlying92 nC rfl (by decide) (X.length+1) rfl rfl rfl rfl (by omega) (by omega) ?_;intro w1 hz1 hr1 hb1);have R:=Bx.zeros hr1;clear hr1 hz1;go_loopg [6] X.length (fun k t wr=>∃(P:List Nat) (z i:Nat),Hid (i+k=X.length)∧t= .int .i64 (i:Int)∧Hid (P.length=i)∧Dg P∧Hid (z<2^s)∧Hid (nv P+aC^i*z=2^s*nv (X.take i))∧Bx wr w.heap.size (U (P++z :: List.replicate k 0)) 170∧Below w.heap.size w wr)
 case atStart=>exact⟨[],0,0,by unfold Hid;omega,rfl,rfl,(fun d hd=>by cases hd),Nat.pow_pos (by decide),rfl,R,hb1⟩
 case round=>
  clear R hb1;obtain⟨P,z,i,HJ,rfl,HP,dP,HZ,HV,R,hb⟩:=hrel;generalize wr=wx at *;have hi0:(0:Int)≤(i:Int):=by omega
  cases gk with
  |zero=>
   have hi:i=X.length:=HJ.out;subst hi;have hi1:¬(X.length:Int)<(X.length:Int):=by omega
   go_wp2_with fail;go_ret;refine⟨rfl,P++[z],R,by rw[gH HP.out],dP.snoc (Nat.lt_of_lt_of_le HZ.out (Nat.pow_le_pow_right (by decide) (show s≤32 by omega))),?_,hb⟩;rw[jF z HP.out,HV.out,fH (Nat.le_refl _)]
  |succ k=>
   have hi1:i<X.length:=by have:=HJ.out;omega
   obtain⟨x,hx⟩:∃x,X[i]? =some x:=⟨_,List.getElem?_eq_getElem hi1⟩;obtain⟨bx,rfl,hbx,gx⟩:=(hX.below hb).at_ hx;have x32:=dX.get hx;unfold aC at x32;have HX:=Lib.hid (fM X i);rw[eF hx] at HX;clear hx;obtain⟨V,L,H,h1,h2,h3,h4,h5,h6,h7,h8⟩:=SF hs x32 HZ.out;have g0:=R.mid HP.out;have f0:=fun j=>R.free j;have hn1:=R.next (y:=L) HP.out rfl;rw[List.replicate_succ] at hn1;have g1:=hn1.mid (gH HP.out);have hn2:=hn1.next (y:=H) (gH HP.out) rfl;have hv:nv (P++[L])+aC^(i+1)*H=2^s*nv (X.take (i+1)):=by
    rw[HX.out,jF _ HP.out,Nat.pow_succ,Nat.mul_assoc,Nat.add_assoc,←Nat.mul_add,h8,Nat.mul_add,Nat.mul_add,←HV.out,Nat.mul_left_comm];omega
   have HV2:=Lib.hid hv;have H6:=Lib.hid h6;clear hv h8 h6 hn1;go_wp2_with fail;go_roundg k
   case rel=>exact⟨P++[L],H,i+1,by have:=HJ.out;unfold Hid;omega,by go_num,gH HP.out,dP.snoc h5,H6,HV2,(by rw[List.append_assoc] at hn2;exact hn2),(hb.setCell (p:=⟨w.heap.size,i,none⟩) (Nat.le_refl _) _).setCell (p:=⟨w.heap.size,i+1,none⟩) (Nat.le_refl _) _⟩
   case measure=>omega
theorem GD (a b:Nat) (va vb:Value) (w:World) (ha:Mg w va a) (hb':Mg w vb b) (la:nl a≤1099511627776) (lb:nl b≤1099511627776):
  Calls Tryz.prog 159 #[va,vb] w (yN w (a*b)):=by
 obtain⟨X,hX,tX,rfl⟩:=ha;obtain⟨Y,hY,tY,rfl⟩:=hb';have lX:=iO tX rfl;have lY:=iO tY rfl;have dX:=hX.dg;have dY:=hY.dg;obtain⟨A,c,rfl,hc⟩:=hX.form;obtain⟨B,d,rfl,hd⟩:=hY.form;clear tX tY;by_cases hx0:X=[]
 ·subst hx0;rw[show nv []*nv Y=0 from Nat.zero_mul _];go_enter Tryz.func159,Tryz.ntmps159;go_wp2_with fail;go_ret;exact⟨_,rfl,Mg.zero _ _ _,Below.refl _ _⟩
 ·have qx:((X.length:Int)==0)=false:=by have:=List.length_pos_iff.2 hx0;simp;omega
  by_cases hy0:Y=[]
  ·subst hy0;rw[show nv X*nv []=0 from Nat.mul_zero _];clear hx0;go_enter Tryz.func159,Tryz.ntmps159;go_wp2_with fail;go_ret;exact⟨_,rfl,Mg.zero _ _ _,Below.refl _ _⟩
  ·have qy:((Y.length:Int)==0)=false:=by have:=List.length_pos_iff.2 hy0;simp;omega
   clear hx0 hy0;go_enter Tryz.func159,Tryz.ntmps159;go_wp2_with (at_make;refine eZ rfl rfl 170 _ 1 4 Tryz.underlying92 nC rfl (by decide) (X.length+Y.length) rfl rfl rfl rfl (by omega) (by omega) ?_;intro w1 hz1 hr1 hb1);have R:=Bx.zeros hr1;rw[Nat.add_comm,←List.replicate_append_replicate] at R;clear hr1 hz1;go_loopg [6] X.length (fun k t wr=>∃(P:List Nat) (i:Nat),Hid (i+k=X.length)∧t= .int .i64 (i:Int)∧Hid (P.length=i+Y.length)∧Dg P∧Hid (nv P=nv (X.take i)*nv Y)∧Bx wr w.heap.size (U (P++List.replicate k 0)) 170∧Below w.heap.size w wr)
   case atStart=>exact⟨_,0,by unfold Hid;omega,rfl,by unfold Hid;rw[List.length_replicate];omega,Dg.zeros _,by unfold Hid;rw[TC,List.take_zero];exact(Nat.zero_mul _).symm,R,hb1⟩
   case round=>
    clear R hb1;obtain⟨P,i,HJ,rfl,HP,dP,HV,R,hb⟩:=hrel;generalize wr=wx at *;have hi0:(0:Int)≤(i:Int):=by omega
    cases gk with
    |zero=>
     have hi:i=X.length:=HJ.out;subst hi;have hi1:¬(X.length:Int)<(X.length:Int):=by omega
     rw[List.replicate_zero,List.append_nil] at R;have ht:=nB P w.heap.size (nv X*nv Y) (X.length+Y.length) wx R dP (by rw[HV.out,fH (Nat.le_refl _)]) (by rw[HP.out];exact Nat.le_refl _) (by rw[HP.out];omega);rw[HP.out] at ht;go_wp2_with fail;refine ht.mono ?_;rintro e2 w2 ⟨v,rfl,hm,rfl⟩;go_wp2_with fail;go_ret;exact⟨_,rfl,hm,hb⟩
    |succ k=>
     have hi1:i<X.length:=by have:=HJ.out;omega
     obtain⟨x,hx⟩:∃x,X[i]? =some x:=⟨_,List.getElem?_eq_getElem hi1⟩;have x32:=dX.get hx;have HX:=Lib.hid (fM X i);rw[eF hx] at HX;have HXX:=Lib.hid hx;clear hx;have hlo:(P.take i).length=i:=by rw[List.length_take,HP.out];omega
     have hxs:(P.drop i).length=Y.length:=by rw[List.length_drop,HP.out];omega
     have dlo:=dP.take i;have dxs:=dP.drop i;have hsp:=SO P i;rw[←List.take_append_drop i P] at R;generalize P.take i=lo at *;generalize P.drop i=xs at *;have HLO:=Lib.hid hlo;have HXS:=Lib.hid hxs;have HSP:=Lib.hid hsp;clear hlo hxs hsp;go_wp2_with fail;go_loopg [7,8] Y.length (fun m s t wr=>∃(Z T:List Nat) (e j:Nat),Hid (j+m=Y.length)∧s= .int .u64 (e:Int)∧t= .int .i64 (j:Int)∧e<aC∧Hid (Z.length=j)∧Hid (xs.drop j=T)∧Dg Z∧Hid (nv Z+aC^j*e=nv (xs.take j)+x*nv (Y.take j))∧Bx wr w.heap.size (U ((lo++Z)++(T++List.replicate (k+1) 0))) 170∧Below w.heap.size w wr)
     case atStart=>exact⟨[],xs,0,0,by unfold Hid;omega,rfl,rfl,jV,rfl,rfl,(fun d hd=>by cases hd),by unfold Hid;rw[List.take_zero,List.take_zero];simp[nv],by rw[List.append_nil,←List.append_assoc];exact R,hb⟩
     case round=>
      clear R hb;obtain⟨Z,T,e,j,HJ2,rfl,rfl,he,HZ,HT,dZ,HW,R,hb⟩:=hrel;generalize wr=wy at *;have hj0:(0:Int)≤(j:Int):=by omega
      have HL:Hid ((lo++Z).length=i+j):=by unfold Hid;rw[List.length_append,HLO.out,HZ.out]
      cases gk with
      |zero=>
       have hj:j=Y.length:=HJ2.out;subst hj;have hj1:¬(Y.length:Int)<(Y.length:Int):=by omega
       have hT:T=[]:=by rw[←HT.out,←HXS.out];exact List.drop_length
       subst hT;rw[List.nil_append,List.replicate_succ] at R;have g0:=R.mid HL.out;have f0:=fun n=>R.free n;have hn:=R.next (y:=e) HL.out rfl;have hv:nv (lo++(Z++[e]))=nv (X.take (i+1))*nv Y:=by
        rw[jG,jF e HZ.out,HLO.out,HW.out,fH (by rw[HXS.out];exact Nat.le_refl _),fH (Nat.le_refl _),HX.out,Nat.add_mul,←HV.out,HSP.out,Nat.mul_add,Nat.mul_assoc,Nat.add_assoc]
       have HV2:=Lib.hid hv;clear hv;unfold aC at he;go_wp2_with fail;go_roundg k
       case rel=>exact⟨lo++(Z++[e]),i+1,by have:=HJ.out;unfold Hid;omega,by go_num,by unfold Hid;rw[List.length_append,gH HZ.out,HLO.out];omega,dlo.app (dZ.snoc he),HV2,(by rw[←List.append_assoc];exact hn),hb.setCell (p:=⟨w.heap.size,i+Y.length,none⟩) (Nat.le_refl _) _⟩
       case measure=>omega
      |succ m=>
       have hj1:j<Y.length:=by have:=HJ2.out;omega
       obtain⟨y,hy⟩:∃y,Y[j]? =some y:=⟨_,List.getElem?_eq_getElem hj1⟩;obtain⟨z,hz⟩:∃z,xs[j]? =some z:=⟨_,List.getElem?_eq_getElem (by rw[HXS.out];exact hj1)⟩;obtain⟨bx,rfl,hbx,gx⟩:=(hX.below hb).at_ HXX.out;obtain⟨by',rfl,hby,gy⟩:=(hY.below hb).at_ hy;have y32:=dY.get hy;have z32:=dxs.get hz;have hT:T=z :: xs.drop (j+1):=by rw[←HT.out];exact(List.drop_eq_getElem_cons (by rw[HXS.out];exact hj1)).trans (by rw[(List.getElem?_eq_some_iff.1 hz).2])
       subst hT;have HY:=Lib.hid (fM Y j);have HZZ:=Lib.hid (fM xs j);rw[eF hy] at HY;rw[eF hz] at HZZ;clear hy hz HT;have g0:=R.mid HL.out;have f0:=fun n=>R.free n;obtain⟨b1,b2⟩:=SP x32 y32 he z32;have hst:=yR HZ.out HW.out (show e+(x*y+z)=e+(x*y+z) from rfl);rw[show nv (xs.take j)+x*nv (Y.take j)+aC^j*(x*y+z)=nv (xs.take (j+1))+x*nv (Y.take (j+1)) by rw[HY.out,HZZ.out];grind] at hst;have w1:IntKind.u64.wrap ((x:Int)*y)=((x*y:Nat):Int):=by rw[←Int.natCast_mul];exact IntWalk.u64_in _ (by unfold aC at b1;omega)
       generalize x*y=p at *;have w2:IntKind.u64.wrap ((p:Int)+z)=((p+z:Nat):Int):=by rw[←Int.natCast_add];exact IntWalk.u64_in _ (by unfold aC at b1;omega)
       generalize hq:p+z=q at *;have w3:IntKind.u64.wrap ((e:Int)+q)=((e+q:Nat):Int):=by rw[←Int.natCast_add];exact IntWalk.u64_in _ (by unfold aC at b1;omega)
       have hse:e+q≤18446744073709551615:=by unfold aC at b1;omega
       generalize e+q=s at *;have HS:=Lib.hid hst;have w4:=IntWalk.i64_in ((i:Int)+j) (by omega);have w5:(0:Int)≤(i:Int)+j:=by omega
       have w6:((i:Int)+j).toNat=i+j:=by omega
       have w7:i+j<X.length+Y.length:=by omega
       clear hst hq HW HY HZZ;unfold aC at x32 y32 z32 he b2;go_wp2_with fail;go_quiet (fail);go_wp2_with fail;go_roundg m
       case rel=>exact⟨Z++[s%aC],xs.drop (j+1),s/aC,j+1,by have:=HJ2.out;unfold Hid;omega,uH (by unfold aC;omega),by go_num,b2,gH HZ.out,rfl,dZ.snoc (Nat.mod_lt _ jV),HS,(by
        rw[←List.append_assoc lo];exact(show Bx (wy.drewN _) _ (U ((lo++Z)++z :: (xs.drop (j+1)++List.replicate (k+1) 0))) _ from R).next HL.out (oE (a:=(s:Int)%4294967296) (b:=s%aC) (by unfold aC;omega))),(cH hb _).setCell (p:=⟨w.heap.size,i+j,none⟩) (Nat.le_refl _) _⟩
       case measure=>omega
def oD:Code→List Code
 | .loop c=>[c]
 | .seq a b=>oD a++oD b
 | .block _ c=>oD c
 | .scope c=>oD c
 | .cond _ a b=>oD a++oD b
 |_=>[]
noncomputable def dvBody:Code:=((Tryz.f189.body.map oD).getD []).getD 1 .skip
def uF (S V U N Q:Value) (f:Nat→Value) (J:Value):Act:=⟨#[f 0,f 1,f 2,f 3,f 4,f 5,f 6,f 7,S,V,U,N,f 12,Q,J,f 15,f 16,f 17,f 18,f 19,f 20,f 21,f 22,f 23,f 24,f 25,f 26,f 27,f 28,f 29,f 30,f 31,f 32,f 33,f 34,f 35,f 36,f 37,f 38,f 39,f 40,f 41,f 42,f 43,f 44,f 45,f 46,f 47,f 48,f 49,f 50,f 51,f 52,f 53,f 54,f 55,f 56,f 57,f 58,f 59,f 60,f 61,f 62,f 63,f 64,f 65,f 66,f 67,f 68,f 69,f 70,f 71,f 72,f 73,f 74,f 75,f 76,f 77,f 78,f 79,f 80,f 81,f 82,f 83,f 84,f 85,f 86,f 87,f 88,f 89,f 90,f 91,f 92,f 93,f 94,f 95,f 96,f 97,f 98,f 99,f 100,f 101,f 102,f 103,f 104,f 105,f 106,f 107,f 108,f 109,f 110,f 111,f 112,f 113,f 114,f 115,f 116,f 117,f 118,f 119,f 120,f 121,f 122,f 123,f 124,f 125,f 126,f 127,f 128,f 129,f 130,f 131,f 132,f 133,f 134,f 135,f 136,f 137,f 138,f 139,f 140,f 141,f 142,f 143,f 144,f 145,f 146,f 147,f 148,f 149,f 150,f 151,f 152,f 153,f 154,f 155,f 156,f 157,f 158,f 159,f 160,f 161,f 162,f 163,f 164,f 165,f 166,f 167,f 168,f 169,f 170,f 171,f 172,f 173,f 174,f 175,f 176,f 177,f 178,f 179,f 180,f 181,f 182,f 183,f 184,f 185,f 186,f 187,f 188,f 189,f 190,f 191,f 192,f 193,f 194,f 195,f 196,f 197,f 198,f 199,f 200,f 201,f 202,f 203,f 204,f 205,f 206,f 207,f 208,f 209,f 210,f 211,f 212,f 213,f 214,f 215,f 216,f 217,f 218,f 219,f 220,f 221,f 222,f 223,f 224,f 225,f 226,f 227,f 228,f 229,f 230,f 231,f 232,f 233,f 234,f 235,f 236,f 237,f 238,f 239,f 240,f 241,f 242,f 243,f 244,f 245,f 246,f 247,f 248,f 249,f 250,f 251,f 252,f 253,f 254,f 255,f 256,f 257,f 258,f 259,f 260,f 261,f 262,f 263,f 264,f 265,f 266,f 267,f 268,f 269,f 270,f 271,f 272,f 273,f 274,f 275,f 276,f 277,f 278,f 279,f 280,f 281,f 282,f 283,f 284,f 285,f 286,f 287,f 288,f 289,f 290,f 291,f 292,f 293,f 294,f 295,f 296,f 297,f 298,f 299],[]⟩
def G9 (w:World) (gv gu gq n M:Nat) (vs As:List Nat) (k:Nat) (J:Value) (wr:World):Prop:=
 ∃(us rs:List Nat) (j:Int) (z:Nat),Hid (j+1=k)∧J= .int .i64 j∧ -1≤j∧j≤M∧Hid (us.length=n+k)∧Hid (z+k=M+1)∧Dg us∧Dg rs∧Hid (nv us<nv vs*aC^k)∧Hid (nv us+nv vs*aC^k*nv rs=nv As)∧
  Bx wr gv (U (vs++[0])) 170∧Bx wr gu (U (us++List.replicate z 0)) 170∧Bx wr gq (U (List.replicate k 0++rs)) 170∧Hid (rs.length=z)∧Below w.heap.size w wr
def uG (S:Value) (gv gu gq n M lx ly:Nat):(Nat→Value)→Value→Act:=uF S (.slice (some ⟨gv,0,none⟩) n (ly+1)) (.slice (some ⟨gu,0,none⟩) (lx+1) (lx+1)) (.int .i64 (n:Int)) (.slice (some ⟨gq,0,none⟩) (M+1) (M+1))
def DvI (w:World) (S:Value) (gv gu gq n M:Nat) (vs As:List Nat) (lx ly:Nat) (k:Nat) (a:Act) (wr:World):Prop:=
 ∃l:List Value,a=⟨l.toArray,[]⟩∧l.length=300∧G9 w gv gu gq n M vs As k (l.getD 14 undef) wr∧l.getD 8 undef=S∧l.getD 9 undef= .slice (some ⟨gv,0,none⟩) n (ly+1)∧l.getD 10 undef= .slice (some ⟨gu,0,none⟩) (lx+1) (lx+1)∧l.getD 11 undef= .int .i64 (n:Int)∧l.getD 13 undef= .slice (some ⟨gq,0,none⟩) (M+1) (M+1)
theorem SD (f:Nat→Value):⟨((List.range 300).map f).toArray,[]⟩=uF (f 8) (f 9) (f 10) (f 11) (f 13) f (f 14):=rfl
theorem DvI.open_ {w:World} {S:Value} {gv gu gq n M:Nat} {vs As:List Nat} {lx ly k:Nat} {a:Act} {wr:World} (h:DvI w S gv gu gq n M vs As lx ly k a wr):∃f J,G9 w gv gu gq n M vs As k J wr∧a=uG S gv gu gq n M lx ly f J:=by
 obtain⟨l,rfl,hl,hr,h8,h9,h10,h11,h13⟩:=h;refine⟨fun i=>l.getD i undef,_,hr,?_⟩;unfold uG;rw[←h8,←h9,←h10,←h11,←h13,←SD (fun i=>l.getD i undef)];congr 2;refine List.ext_getElem (by simp[hl]) (fun i h1 h2=> ?_);simp[h1]
theorem SE {w:World} {S:Value} {gv gu gq n p M:Nat} {vs As:List Nat} {lx ly:Nat} (HV:Hid (Dvs vs n p)) (hgv:w.heap.size≤gv) (hvu:gv<gu) (huq:gu<gq) (HXN:Hid (lx+1=n+(M+1))) (hlx:lx≤2199023255552) (hn2:2≤n) (hln:n≤ly+1) (hM:M≤lx) (k:Nat) {a:Act} {wx:World} (hI:DvI w S gv gu gq n M vs As lx ly (k+1) a wx)
  (JJ:Nat→Act→World→Prop) (K:Act→World→Prop) (Q0:Exit→Act→World→Prop) (hJ:∀k a' w',DvI w S gv gu gq n M vs As lx ly k a' w'→JJ k a' w') (hK:∀a' w',Handed JJ (k+1) a' w'→K a' w'):dvBody.wp Tryz.prog (Exit.then K Q0) a wx:=by
 obtain⟨f,J,⟨us,rs,j,z,HJ,rfl,hj1,hj2,HAS,HZ,dA,dR,HLT,HINV,VX,UX,QX,HRS,hb⟩,rfl⟩:=hI.open_;unfold uG uF;have hjk:j=(k:Int):=by have:=HJ.out;omega
 subst hjk;have HVL:=Lib.hid HV.out.len;have HVN:=Lib.hid HV.out.lt;have dV:=HV.out.dg;obtain⟨lo,xs,t,u1,u0,v1,v0,qt,rt,X,t32,u1_32,u0_32,v1_32,v0_32,v1_0,qt32⟩:=TB HV.out HAS.out dA HLT.out;have gt:=UX.cell (k+n) (gZ (X.c2 _));have g1:=UX.cell (k+n-1) (gZ (X.c1 _));have g0:=UX.cell (k+n-2) (gZ (X.c0 _));have gv1:=VX.cell (n-1) (gZ X.d1);have gv0:=VX.cell (n-2) (gZ X.d0);obtain⟨w1,w2,w3,w4,w5,w6,w7,w8,w9,w10⟩:IntKind.i64.wrap ((k:Int)+n)=(k:Int)+n∧IntKind.i64.wrap ((k:Int)+n-1)=(k:Int)+n-1∧(0:Int)≤(k:Int)+n-1∧((k:Int)+n-1).toNat=k+n-1∧((k:Int)+n).toNat=k+n∧(0:Int)≤(k:Int)+n∧k+n<lx+1∧k+n-1<lx+1∧IntKind.u64.wrap ((t:Int)*4294967296)=(t:Int)*4294967296∧k+n-2<lx+1:=by
  have:=HXN.out;unfold aC at t32;exact⟨IntWalk.i64_in _ (by omega),IntWalk.i64_in _ (by omega),by omega,by omega,by omega,by omega,by omega,by omega,IntWalk.u64_in _ (by omega),by omega⟩
 have hor:=yP t u1 t32 u1_32;have HX:=Lib.hid X;have e1:((t*aC+u1:Nat):Int)/(v1:Int)=(((t*aC+u1)/v1:Nat):Int):=(Int.natCast_ediv _ _).symm;have e2:((t*aC+u1:Nat):Int)%(v1:Int)=(((t*aC+u1)%v1:Nat):Int):=(Int.natCast_emod _ _).symm;have hE0:=Lib.hid X.first;have hh0:=X.first.hi;have hr0:(t*aC+u1)%v1<aC:=Nat.lt_trans (Nat.mod_lt _ v1_0) v1_32;have hT:t*aC+u1≤18446744073709551615:=by unfold aC at t32 u1_32⊢;omega
 generalize (t*aC+u1)/v1=h at *;generalize (t*aC+u1)%v1=r at *;generalize t*aC+u1=T at *;unfold aC at t32 u1_32 u0_32 v1_32 v0_32 qt32 hh0 hr0;clear X HLT HAS HV;conv=>arg 2;whnf
 go_wp2_with fail;go_quiet (fail);go_upto_block 4 with fail;go_cut [16,17] from 115 to 150 (fun s s17 wy=>∃h':Nat,s= .int .u64 (h':Int)∧qt≤h'∧h'≤qt+1∧h'<4294967296∧Bx wy gv (U (vs++[0])) 170∧Bx wy gu (U (us++List.replicate z 0)) 170∧Bx wy gq (U (List.replicate (k+1) 0++rs)) 170∧Below w.heap.size w wy)
 case first=>
  replace hb:=cH hb nq;replace VX:Bx (wx.drewN nq) _ _ _:=VX;replace UX:Bx (wx.drewN nq) _ _ _:=UX;replace QX:Bx (wx.drewN nq) _ _ _:=QX;clear gt g1 g0 gv1 gv0;generalize wx.drewN nq=wx at *;obtain⟨x1,x2,x3,x4,x5,x6,x7,x8⟩:IntKind.i64.wrap ((n:Int)-2)=(n:Int)-2∧(0:Int)≤(n:Int)-2∧((n:Int)-2).toNat=n-2∧IntKind.i64.wrap ((k:Int)+n-2)=(k:Int)+n-2∧(0:Int)≤(k:Int)+n-2∧((k:Int)+n-2).toNat=k+n-2∧n-2≤n∧n-1≤n:=by
   have:=HXN.out;exact⟨IntWalk.i64_in _ (by omega),by omega,by omega,IntWalk.i64_in _ (by omega),by omega,by omega,by omega,by omega⟩
  go_wp2_with fail;go_loopg [16,17] (h-qt) (fun g s t' wy=>∃h r:Nat,Hid (h=qt+g)∧s= .int .u64 (h:Int)∧t'= .int .u64 (r:Int)∧Hid (Est t u1 v1 qt h r)∧r<4294967296∧h≤4294967297∧Bx wy gv (U (vs++[0])) 170∧Bx wy gu (U (us++List.replicate z 0)) 170∧Bx wy gq (U (List.replicate (k+1) 0++rs)) 170∧Below w.heap.size w wy)
  case atStart=>exact⟨h,r,by have:=hE0.out.lo;unfold Hid;omega,rfl,by rw[e2],hE0,hr0,hh0,VX,UX,QX,hb⟩
  case round=>
   clear VX UX QX hb hE0 hr0 hh0 e1 e2;obtain⟨h,r,HG,rfl,rfl,HE,hr0,hh0,VX,UX,QX,hb⟩:=hrel;generalize wr=wy at *;have g0:=UX.cell (k+n-2) (gZ (HX.out.c0 _));have gv1:=VX.cell (n-1) (gZ HX.out.d1);have gv0:=VX.cell (n-2) (gZ HX.out.d0);rcases Nat.lt_or_ge 4294967295 h with hbig|hbig
   ·have q0:decide ((4294967296:Int)≤(h:Int))=true:=by simp;omega
    obtain⟨hE,h1⟩:=HX.out.more h r HE.out (.inl (by unfold aC;omega));have HE2:=Lib.hid hE;clear hE;rcases Nat.lt_or_ge 4294967295 (r+v1) with hbr|hbr
    ·have q2:decide ((4294967296:Int)≤(r:Int)+v1)=true:=by simp;omega
     have hf:=HX.out.fin _ _ HE2.out (.inr (by unfold aC;omega));go_wp2_with fail;go_quiet (fail);go_wp2_with fail;go_meet;exact⟨h-1,by go_num,hf.1,hf.2.1,hf.2.2,VX,UX,QX,cH hb _⟩
    ·have q2:decide ((4294967296:Int)≤(r:Int)+v1)=false:=by simp;omega
     have q3:r+v1<4294967296:=by omega
     obtain⟨g,rfl⟩:∃g,gk=g+1:=⟨gk-1,by have:=HG.out;have:=HE2.out.lo;omega⟩;clear hbr;go_wp2_with fail;go_quiet (fail);go_wp2_with fail;go_roundg g
     case rel=>exact⟨h-1,r+v1,by have:=HG.out;unfold Hid;omega,by go_num,by go_num,HE2,by omega,by omega,VX,UX,QX,cH hb _⟩
     case measure=>omega
   ·have q0:decide ((4294967296:Int)≤(h:Int))=false:=by simp;omega
    have hP:h*v0≤4294967295*4294967295:=Nat.mul_le_mul (by omega) (by omega);have y1:IntKind.u64.wrap ((h:Int)*v0)=((h*v0:Nat):Int):=by rw[←Int.natCast_mul];exact IntWalk.u64_in _ (by omega)
    have y2:=yP r u0 hr0 u0_32;have y3:=IntWalk.u64_in ((r:Int)*4294967296) (by omega);by_cases hc:r*aC+u0<h*v0
    ·have q1:decide (r*aC+u0<h*v0)=true:=by simp;omega
     obtain⟨hE,h1⟩:=HX.out.more h r HE.out (.inr hc);have HE2:=Lib.hid hE;clear hE hc hP;generalize r*aC+u0=R at *;generalize h*v0=P at *;rcases Nat.lt_or_ge 4294967295 (r+v1) with hbr|hbr
     ·have q2:decide ((4294967296:Int)≤(r:Int)+v1)=true:=by simp;omega
      have hf:=HX.out.fin _ _ HE2.out (.inr (by unfold aC;omega));go_wp2_with fail;go_quiet (fail);clear y1 y2 y3 w9 hor;go_wp2_with fail;go_meet;exact⟨h-1,by go_num,hf.1,hf.2.1,hf.2.2,VX,UX,QX,cH hb _⟩
     ·have q2:decide ((4294967296:Int)≤(r:Int)+v1)=false:=by simp;omega
      have q3:r+v1<4294967296:=by omega
      obtain⟨g,rfl⟩:∃g,gk=g+1:=⟨gk-1,by have:=HG.out;have:=HE2.out.lo;omega⟩;clear hbr;go_wp2_with fail;go_quiet (fail);clear y1 y2 y3 w9 hor;go_wp2_with fail;go_roundg g
      case rel=>exact⟨h-1,r+v1,by have:=HG.out;unfold Hid;omega,by go_num,by go_num,HE2,by omega,by omega,VX,UX,QX,cH hb _⟩
      case measure=>omega
    ·have q1:decide (r*aC+u0<h*v0)=false:=by simp;omega
     have hf:=HX.out.fin h r HE.out (.inl ⟨by unfold aC;omega,by omega⟩);clear hc hP;generalize r*aC+u0=R at *;generalize h*v0=P at *;go_wp2_with fail;go_quiet (fail);clear y1 y2 y3 w9 hor;go_wp2_with fail;go_meet;exact⟨h,rfl,hf.1,hf.2.1,hf.2.2,VX,UX,QX,cH hb _⟩
 case rest=>
  obtain⟨h',rfl,hq1,hq2,h32,VX,UX,QX,hb⟩:=hcut;clear hE0 hh0 hr0 e1 e2 hor hT w9 gt g1 g0 gv1 gv0 w1 w2 w3 w4 w10 u1_32 u0_32 v1_32 v0_32 v1_0;generalize wx.drewN nq=wx0 at *;rw[HX.out.us_,show lo++(xs++[t])++List.replicate z 0=(lo++[])++(xs++t :: List.replicate z 0) by simp] at UX;have HLO:=Lib.hid HX.out.lo_;have HXS:=Lib.hid HX.out.xs_;have dxs:=HX.out.dxs;go_wp2_with fail
  go_loopg [18,19,20] n (fun m s t' s' wy=>∃(Z T:List Nat) (c b i:Nat),Hid (i+m=n)∧s= .int .u64 (c:Int)∧t'= .int .u64 (b:Int)∧s'= .int .i64 (i:Int)∧c<4294967296∧b≤1∧Hid (Z.length=i)∧Hid (xs.drop i=T)∧Dg Z∧Hid (nv (xs.take i)+aC^i*(c+b)=nv Z+h'*nv (vs.take i))∧
   Bx wy gv (U (vs++[0])) 170∧Bx wy gu (U ((lo++Z)++(T++t :: List.replicate z 0))) 170∧Bx wy gq (U (List.replicate (k+1) 0++rs)) 170∧Below w.heap.size w wy)
  case atStart=>exact⟨[],xs,0,0,0,by unfold Hid;omega,rfl,rfl,rfl,by omega,by omega,rfl,rfl,(fun d hd=>by cases hd),by unfold Hid;simp[nv],VX,UX,QX,hb⟩
  case round=>
   clear VX UX QX hb;obtain⟨Z,T,c,b,i,HI,rfl,rfl,rfl,hc,hb1,HZL,HT,dZ,HSUB,VX,UX,QX,hb⟩:=hrel;generalize wr=wy at *;have hi0:(0:Int)≤(i:Int):=by omega
   cases gk with
   |succ m=>
    have hin:i<n:=by have:=HI.out;omega
    obtain⟨x,hx⟩:∃x,xs[i]? =some x:=⟨_,List.getElem?_eq_getElem (by rw[HXS.out];exact hin)⟩;obtain⟨y,hy⟩:∃y,vs[i]? =some y:=⟨_,List.getElem?_eq_getElem (by rw[HVL.out];exact hin)⟩;have x32:=dxs.get hx;have y32:=dV.get hy;have HL:Hid ((lo++Z).length=i+k):=by unfold Hid;rw[List.length_append,HLO.out,HZL.out];omega
    have hT:T=x :: xs.drop (i+1):=by rw[←HT.out];exact(List.drop_eq_getElem_cons (by rw[HXS.out];exact hin)).trans (by rw[(List.getElem?_eq_some_iff.1 hx).2])
    subst hT;have gx:=UX.mid HL.out;have fx:=fun j=>UX.free j;have gy:=VX.cell i (gZ (by rw[List.getElem?_append_left (by rw[HVL.out];exact hin)];exact hy));have HXN2:=Lib.hid (fM xs i);have HVN2:=Lib.hid (fM vs i);rw[eF hx] at HXN2;rw[eF hy] at HVN2;clear hx hy HT;unfold aC at x32 y32;have hP:h'*y≤4294967295*4294967295:=Nat.mul_le_mul (by omega) (by omega);have y1:IntKind.u64.wrap ((h':Int)*y)=((h'*y:Nat):Int):=by rw[←Int.natCast_mul];exact IntWalk.u64_in _ (by omega)
    have hHY:∃P,h'*y=P:=⟨_,rfl⟩;obtain⟨P,hHY⟩:=hHY;rw[hHY] at y1 hP;have y2:(P:Int)+c=((P+c:Nat):Int):=rfl;have hpb:P+c≤18446744073709551615:=by omega
    have hpm:(P+c)%4294967296+4294967296*((P+c)/4294967296)=P+c:=Nat.mod_add_div _ _;have y3:((P+c:Nat):Int)/4294967296=(((P+c)/4294967296:Nat):Int):=(Int.natCast_ediv _ _).symm;have y4:bits .and .u64 ((P+c:Nat):Int) 4294967295=(((P+c)%4294967296:Nat):Int):=by rw[wV _ (by omega) (by unfold aA;omega)];exact(Int.natCast_emod _ _).symm
    have hc':(P+c)/4294967296<4294967296:=Nat.div_lt_of_lt_mul (by omega);have hm':(P+c)%4294967296<4294967296:=Nat.mod_lt _ (by decide);generalize (P+c)/4294967296=c' at *;generalize (P+c)%4294967296=pm at *;generalize hpp:P+c=pp at *;obtain⟨D1,D,r',q',z1,z2,z3,z4,z5,z6,z7,z8,z9⟩:=yO (s:=pm) (t:=b) x32 (by omega);have HS:=Lib.hid (yS (x:=r') (p:=h'*y) (c:=c'+q') HZL.out HSUB.out (show x+aC*(c'+q')=r'+h'*y+(c+b) by rw[hHY];unfold aC at z9⊢;omega));clear z9 hpm hHY hpp;go_wp2_with fail;go_roundg m
    case rel=>exact⟨Z++[r'],xs.drop (i+1),c',q',i+1,by have:=HI.out;unfold Hid;omega,rfl,rfl,by go_num,hc',z5,gH HZL.out,rfl,dZ.snoc (by unfold aC;exact z6),by unfold Hid;rw[HXN2.out,HVN2.out,Nat.mul_add h',Nat.mul_left_comm h'];exact HS.out,VX.far _ _ (by omega),by rw[←List.append_assoc lo];exact UX.next HL.out rfl,QX.far _ _ (by omega),hb.setCell (p:=⟨gu,i+k,none⟩) (show w.heap.size≤gu by omega) _⟩
    case measure=>omega
   |zero=>
    have hin:i=n:=HI.out;subst hin;have hi1:¬(i:Int)<(i:Int):=by omega
    have hT:T=[]:=by rw[←HT.out,←HXS.out];exact List.drop_length
    subst hT;rw[List.nil_append] at UX;have HL:Hid ((lo++Z).length=k+i):=by unfold Hid;rw[List.length_append,HLO.out,HZL.out]
    have hsub:=HSUB.out;rw[fH (by rw[HXS.out];exact Nat.le_refl _),fH (by rw[HVL.out];exact Nat.le_refl _)] at hsub;have hZ:nv Z<aC^i:=by have:=lJ dZ;rwa [HZL.out] at this
    have hcases:=ST (X:=nv xs) (t:=t) (h:=h') (k:=c+b) rfl HX.out.u_.symm HX.out.r_ HVN.out hq1 hq2 hsub hZ;obtain⟨td,tD,k1,k2,k3,k4,k5⟩:=SL (t:=t) (c:=c) (b:=b) t32 (by omega) hb1;have gtt:=UX.mid HL.out;have ftt:=fun j=>UX.free j;have gq0:=QX.last;have fq0:=fun j=>QX.free j;have dlo:=HX.out.dlo;have HFIN:Hid (∀R:List Nat,R.length=i→nv R=rt→nv (lo++R)<nv vs*aC^k∧nv (lo++R)+nv vs*aC^k*nv (qt :: rs)=nv As):=fun R hR1 hR2=>⟨SV dlo HLO.out (by rw[hR2];exact HX.out.r_),SU HLO.out HXS.out HX.out.u_ hR2 (by rw[←HX.out.us_];exact HINV.out)⟩;clear hsub HSUB HT;rcases hcases with ⟨e1,e2,e3⟩|⟨e1,e2,e3⟩
    ·have k6:IntKind.u64.wrap ((td:Int)-b)=0:=by rw[k2,k4 e2];rfl
     have F:=Lib.hid (HFIN.out Z HZL.out e3);subst e1;clear k2 k4 k5 e2 e3 HFIN;go_wp2_with fail;refine Handed.intro k (Nat.lt_succ_self k) (hJ _ _ _ ⟨_,rfl,rfl,⟨lo++Z,h' :: rs,(k:Int)-1,z+1,by unfold Hid;omega,rfl,by omega,by omega,by unfold Hid;rw[List.length_append,HLO.out,HZL.out];omega,by have:=HZ.out;unfold Hid;omega,dlo.app dZ,?_,F.out.1,F.out.2,(VX.far _ _ (show gu≠gv by omega)).far _ _ (show gq≠gv by omega),?_,(QX.far _ _ (by omega)).prev rfl,by unfold Hid;rw[List.length_cons,HRS.out],(hb.setCell (p:=⟨gu,k+i,none⟩) (show w.heap.size≤gu by omega) _).setCell (p:=⟨gq,k,none⟩) (show w.heap.size≤gq by omega) _⟩,rfl,rfl,rfl,rfl,rfl⟩)
     ·intro d hd;rcases List.mem_cons.1 hd with rfl|hd
      ·exact h32
      ·exact dR d hd
     ·rw[List.replicate_succ,←List.singleton_append,←List.append_assoc];exact(UX.next (y:=0) HL.out rfl).far _ _ (by omega)
    ·have k6:IntKind.u64.wrap ((td:Int)-b)=18446744073709551615:=by rw[k2,k5 e2];rfl
     have HE3:=Lib.hid e3;have hh1:1≤h':=by omega
     have UX2:=UX.next (y:=4294967295) HL.out rfl;have HZN:=Lib.hid hZ;have HQ:=Lib.hid e1;clear k2 k4 k5 e1 e2 e3 hZ gq0 fq0;go_wp2_with fail;rw[show lo++Z++[4294967295]++List.replicate z 0=(lo++[])++(Z++4294967295 :: List.replicate z 0) by simp] at UX2
     go_loopg [18,24] i (fun m s t' wy=>∃(R T:List Nat) (c q:Nat),Hid (q+m=i)∧s= .int .u64 (c:Int)∧t'= .int .i64 (q:Int)∧c≤1∧Hid (R.length=q)∧Hid (Z.drop q=T)∧Dg R∧Hid (nv R+aC^q*c=nv (Z.take q)+nv (vs.take q))∧
      Bx wy gv (U (vs++[0])) 170∧Bx wy gu (U ((lo++R)++(T++4294967295 :: List.replicate z 0))) 170∧Bx wy gq (U (List.replicate (k+1) 0++rs)) 170∧Below w.heap.size w wy)
     case atStart=>exact⟨[],Z,0,0,by unfold Hid;omega,rfl,rfl,by omega,rfl,rfl,(fun d hd=>by cases hd),by unfold Hid;simp[nv],VX.far _ _ (by omega),UX2,QX.far _ _ (by omega),hb.setCell (p:=⟨gu,k+i,none⟩) (show w.heap.size≤gu by omega) _⟩
     case round=>
      clear VX UX UX2 QX hb gtt ftt hi1 k1 k3 k6 hb1;obtain⟨R,T,c,q,HI2,rfl,rfl,hc1,HRL,HT2,dR2,HADD,VX,UX,QX,hb⟩:=hrel;generalize wr=wz at *;have hq0:(0:Int)≤(q:Int):=by omega
      cases gk with
      |succ m=>
       have hqi:q<i:=by have:=HI2.out;omega
       obtain⟨x,hx⟩:∃x,Z[q]? =some x:=⟨_,List.getElem?_eq_getElem (by rw[HZL.out];exact hqi)⟩;obtain⟨y,hy⟩:∃y,vs[q]? =some y:=⟨_,List.getElem?_eq_getElem (by rw[HVL.out];exact hqi)⟩;have x32:=dZ.get hx;have y32:=dV.get hy;have HL2:Hid ((lo++R).length=q+k):=by unfold Hid;rw[List.length_append,HLO.out,HRL.out];omega
       have hT:T=x :: Z.drop (q+1):=by rw[←HT2.out];exact(List.drop_eq_getElem_cons (by rw[HZL.out];exact hqi)).trans (by rw[(List.getElem?_eq_some_iff.1 hx).2])
       subst hT;have gx:=UX.mid HL2.out;have fx:=fun j=>UX.free j;have gy:=VX.cell q (gZ (by rw[List.getElem?_append_left (by rw[HVL.out];exact hqi)];exact hy));have HXN2:=Lib.hid (fM Z q);have HVN2:=Lib.hid (fM vs q);rw[eF hx] at HXN2;rw[eF hy] at HVN2;have HS:=Lib.hid (yR HRL.out HADD.out (show c+(x+y)=c+(x+y) from rfl));clear hx hy HT2;unfold aC at x32 y32;have y1:IntKind.u64.wrap ((x:Int)+y)=((x+y:Nat):Int):=IntWalk.u64_in _ (by omega);have hxy:x+y≤8589934590:=by omega
       generalize hX:x+y=X at *;have y2:IntKind.u64.wrap ((c:Int)+X)=((c+X:Nat):Int):=IntWalk.u64_in _ (by omega);have hcX:c+X≤8589934591:=by omega
       have HX2:=Lib.hid hX;clear hX;generalize c+X=s at *;obtain⟨x1,x2,x3,x4⟩:IntKind.i64.wrap ((q:Int)+k)=(q:Int)+k∧(0:Int)≤(q:Int)+k∧((q:Int)+k).toNat=q+k∧q+k<lx+1:=⟨IntWalk.i64_in _ (by omega),by omega,by omega,by omega⟩;go_wp2_with fail;go_quiet (fail);clear y1 y2;go_wp2_with fail;go_roundg m
       case rel=>exact⟨R++[s%aC],Z.drop (q+1),s/aC,q+1,by have:=HI2.out;unfold Hid;omega,uH (by unfold aC;omega),by go_num,by unfold aC;omega,gH HRL.out,rfl,dR2.snoc (Nat.mod_lt _ jV),(by unfold Hid;rw[HXN2.out,HVN2.out,HS.out,←HX2.out,Nat.mul_add];omega),(show Bx (wz.drewN _) _ _ _ from VX).far _ _ (by omega),by rw[←List.append_assoc lo];exact(show Bx (wz.drewN _) _ (U ((lo++R)++x :: (Z.drop (q+1)++4294967295 :: List.replicate z 0))) _ from UX).next HL2.out (oE (a:=(s:Int)%4294967296) (b:=s%aC) (by unfold aC;omega)),(show Bx (wz.drewN _) _ _ _ from QX).far _ _ (by omega),(cH hb _).setCell (p:=⟨gu,q+k,none⟩) (show w.heap.size≤gu by omega) _⟩
       case measure=>omega
      |zero=>
       have hqi:q=i:=HI2.out;subst hqi;have hi2:¬(q:Int)<(q:Int):=by omega
       have hT:T=[]:=by rw[←HT2.out,←HZL.out];exact List.drop_length
       subst hT;rw[List.nil_append] at UX;have HL2:Hid ((lo++R).length=k+q):=by unfold Hid;rw[List.length_append,HLO.out,HRL.out]
       have hadd:=HADD.out;rw[fH (by rw[HZL.out];exact Nat.le_refl _),fH (by rw[HVL.out];exact Nat.le_refl _),HE3.out] at hadd;have hR:nv R<aC^q:=by have:=lJ dR2;rwa [HRL.out] at this
       have hr:=HX.out.r_;have hV:=HVN.out;obtain⟨hc2,hrr⟩:c=1∧nv R=rt:=by
        rcases(show c=0∨c=1 by omega) with rfl|rfl
        ·rw[Nat.mul_zero] at hadd;omega
        ·rw[Nat.mul_one] at hadd;omega
       subst hc2;have F:=Lib.hid (HFIN.out R HRL.out hrr);have gx:=UX.mid HL2.out;have fx:=fun j=>UX.free j;have gq0:=QX.last;have fq0:=fun j=>QX.free j;have hq:h'-1=qt:=by have:=HQ.out;omega
       have hqi:((h':Int)-1)=(qt:Int):=by omega
       clear hadd hR hr hV hrr HADD HT2 HFIN HE3;go_wp2_with fail;refine Handed.intro k (Nat.lt_succ_self k) (hJ _ _ _ ⟨_,rfl,rfl,⟨lo++R,qt :: rs,(k:Int)-1,z+1,by unfold Hid;omega,rfl,by omega,by omega,by unfold Hid;rw[List.length_append,HLO.out,HRL.out];omega,by have:=HZ.out;unfold Hid;omega,dlo.app dR2,?_,F.out.1,F.out.2,(VX.far _ _ (show gu≠gv by omega)).far _ _ (show gq≠gv by omega),?_,(QX.far _ _ (by omega)).prev rfl,by unfold Hid;rw[List.length_cons,HRS.out],(hb.setCell (p:=⟨gu,k+q,none⟩) (show w.heap.size≤gu by omega) _).setCell (p:=⟨gq,k,none⟩) (show w.heap.size≤gq by omega) _⟩,rfl,rfl,rfl,rfl,rfl⟩)
       ·intro d hd;rcases List.mem_cons.1 hd with rfl|hd
        ·exact qt32
        ·exact dR d hd
       ·rw[List.replicate_succ,←List.singleton_append,←List.append_assoc];exact(UX.next (y:=0) HL2.out rfl).far _ _ (by omega)
def yL (w:World) (a b:Nat) (e:Ending) (w':World):Prop:=∃v u,e= .returned (.tuple #[v,u])∧Mg w' v (a/b)∧Mg w' u (a%b)∧Below w.heap.size w w'
theorem G7 (a b:Nat) (va vb:Value) (w:World) (ha:Mg w va a) (hb':Mg w vb b) (la:nl a≤1099511627776) (lb:nl b≤1099511627776) (h0:0<b):
  Calls Tryz.prog 189 #[va,vb] w (yL w a b):=by
 have hcm:=GH a b va vb w ha hb' la lb;by_cases hab:a<b
 ·rw[iX (by omega)] at hcm;obtain⟨X,hX,tX,hx⟩:=ha;have lX:=iO tX hx;have dX:=hX.dg;obtain⟨A,c,rfl,hc⟩:=hX.form;obtain⟨Y,hY,tY,hy⟩:=hb';obtain⟨B,d,rfl,hd⟩:=hY.form;have HQ:Hid (a/b=0∧a%b=a):=⟨Nat.div_eq_of_lt hab,Nat.mod_eq_of_lt hab⟩;clear hY tY hy hab;go_enter Tryz.func189,Tryz.ntmps189;go_wp2_with fail;refine hcm.mono ?_;rintro e1 w1 ⟨rfl,hb1⟩;have hA:Below w1.heap.size w1 (w1.alloc (.cells #[] 170)):=(Below.refl _ _).alloc (Nat.le_refl _) _;have hsrc:=((hX.below hb1).below hA).src;have hown0:=wG w1 170 1;have hbA:=aB hb1 hA;go_wp2_with (at_builtin;refine eJ rfl rfl 170 _ 1 4 Tryz.underlying92 nC rfl (by decide) w1.heap.size (.slice (some ⟨w1.heap.size,0,none⟩) 0 0) 0 [] rfl hown0 (U X) rfl (by rw[SI,Nat.mul_one]) hsrc (SK _) (by omega) (by omega) (by simp) ?_;intro v2 w2 ho2 hg2 hat2);rw[List.nil_append] at ho2;have hm:=Ds.row ho2 (Nat.zero_add _).symm dX;go_ret2;exact⟨_,_,rfl,by rw[HQ.out.1];exact Mg.zero _ _ _,by rw[HQ.out.2];exact⟨X,hm,tX,hx⟩,hbA.grown hg2 (by have:=hb1.size;simp;omega) (by simp[Value.ownBlock];exact hb1.size)⟩
 ·obtain⟨c0,hc0,HC⟩:∃c0,¬c0<0∧bM a b=c0:=⟨_,by rcases iY (a:Int) b with ⟨h,_⟩|⟨_,e⟩|⟨_,e⟩<;>omega,rfl⟩;rw[HC] at hcm;clear HC;obtain⟨Y,hY,tY,hy⟩:=id hb';have lY:=iO tY hy;obtain⟨B,d,rfl,hd⟩:=hY.form;by_cases h1:Y.length=1
  ·have q1:((Y.length:Int)==1)=true:=by rw[h1];rfl
   obtain⟨y,rfl⟩:∃y,Y=[y]:=List.length_eq_one_iff.1 h1;have hyb:y=b:=by rw[←hy];simp[nv]
   subst hyb;have y32:y<aC:=hY.dg y (List.mem_singleton.2 rfl);unfold aC at y32;obtain⟨A,_,_,rfl⟩:=ha.form;simp only[List.length_singleton] at hcm;clear hab h1 hy tY;obtain⟨gy,rfl,hgl,gy0⟩:=hY.at_ (i:=0) (d:=y) rfl;have hcy:=fun (W:World) (hb:Below w.heap.size w W)=>(hb.cell (p:=⟨gy,0,none⟩) hgl).trans gy0;go_enter Tryz.func189,Tryz.ntmps189;go_wp2_with fail;refine hcm.mono ?_;rintro e1 w1 ⟨rfl,hb1⟩;have gy1:=hcy w1 hb1;clear gy0 hcy;go_wp2_with fail;refine(GB a y _ w1 (ha.below hb1) la h0 y32).mono ?_;rintro e2 w2 ⟨v2,rfl,hm2, -,hb2⟩;have hr:a%y<aC:=by have:=Nat.mod_lt a h0;unfold aC;omega
   have hA:Below w2.heap.size w2 (w2.alloc (.cells #[.int .u32 ((a%y:Nat):Int)] 170)):=(Below.refl _ _).alloc (Nat.le_refl _) _;have hB:Bx (w2.alloc (.cells #[.int .u32 ((a%y:Nat):Int)] 170)) w2.heap.size (U [a%y]) 170:=Bx.new _ _ _;replace hm2:=hm2.below hA;have hb:=(aB hb1 hb2).trans (hA.mono (aB hb1 hb2).size);have ht:=nB [a%y] w2.heap.size (a%y) 1 _ hB (fun z hz=>by rw[List.mem_singleton.1 hz];exact hr) (by simp[nv]) (Nat.le_refl _) (by simp);simp only[List.length_singleton] at ht;clear hr;generalize hr:a%y=r at *;generalize hq:a/y=q at *;have HR:=Lib.hid (And.intro hq hr);clear hr hq;go_wp2_with fail;refine ht.mono ?_;rintro e3 w3 ⟨v3,rfl,hm3,rfl⟩;go_wp2_with fail;go_ret2;exact⟨_,_,rfl,by rw[HR.out.1];exact hm2,by rw[HR.out.2];exact hm3,hb⟩
  ·have q1:((Y.length:Int)==1)=false:=by simp;omega
   obtain⟨X,hX,tX,hx⟩:=ha;have lX:=iO tX hx;have dY:=hY.dg;obtain⟨A,c,rfl,hc⟩:=hX.form;obtain⟨p,n,hp,hn,HN⟩:∃p n,Y.length=p+1+1∧2≤n∧Hid (n=p+1+1):=by
    have:Y.length≠0:=fun e=>by
     rw[List.eq_nil_of_length_eq_zero e] at hy;have:nv []=0:=rfl;omega
    exact⟨Y.length-2,Y.length,by omega,by omega,(show Y.length=_ by omega)⟩
   have hYX:Y.length≤X.length:=by
    rcases Nat.lt_or_ge X.length Y.length with h|h
    ·have:=uI hX.dg tY h;omega
    ·exact h
   obtain⟨y,hyt⟩:∃y,Y[p+1]? =some y:=⟨_,List.getElem?_eq_getElem (by omega)⟩;have hy0:y≠0:=tY y (by rw[List.getLast?_eq_getElem?,hp];exact hyt);have y32:=dY.get hyt;obtain⟨S,s32,s1,s2⟩:=T6 hy0 y32;have HY:=Lib.hid (fun Z (dZ:Dg Z) (hZ:Z.length=p+1+2) (hv:nv Z=2^S*nv Y)=>T0 dY dZ hp hZ (eF hyt) s1 s2 s32 hv);obtain⟨gy,rfl,hgl,gy0⟩:=hY.at_ hyt;have hcy:=fun (W:World) (hb:Below w.heap.size w W)=>(hb.cell (p:=⟨gy,p+1,none⟩) hgl).trans gy0;have HS:=Lib.hid (And.intro s1 s2);have HP:=Lib.hid hp;have HXY:=Lib.hid (And.intro hx hy);have HAB:=Lib.hid hab;unfold aC at y32;have hp1:p+1<Y.length:=by omega
   clear hyt gy0 s1 s2 hp hx hy hab h1;go_enter Tryz.func189,Tryz.ntmps189;go_wp2_with fail;refine hcm.mono ?_;rintro e1 w1 ⟨rfl,hb1⟩;have gy1:=hcy w1 hb1;clear hcy;go_wp2_with fail;go_loopg [8] S (fun k t wr=>∃s,Hid (s+k=S)∧t= .int .u64 (s:Int)∧w1=wr)
   case atStart=>exact⟨0,by unfold Hid;omega,rfl,rfl⟩
   case round=>
    obtain⟨s,HJ,rfl,rfl⟩:=hrel;have hs32:s<32:=by have:=HJ.out;omega
    have hle:y*2^s≤y*2^S:=Nat.mul_le_mul_left _ (Nat.pow_le_pow_right (by decide) (by have:=HJ.out;omega));have hw:IntKind.u32.wrap ((y:Int)*2^s)=((y*2^s:Nat):Int):=by
     have:=HS.out.2;rw[show((y:Int)*2^s)=((y*2^s:Nat):Int) by rw[Int.natCast_mul,Int.natCast_pow];rfl];exact IntWalk.u32_in _ (by omega)
    have hix:((Y.length:Int)-1)=((p+1:Nat):Int):=by have:=HP.out;omega
    cases gk with
    |zero=>
     have hsS:s=S:=HJ.out;subst hsS;have q2:¬((y*2^s:Nat):Int)<2147483648:=by have:=HS.out.1;omega
     generalize y*2^s=yy at *;clear hle;go_wp2_with fail;refine(GC Y _ s w1 (hY.below hb1) (by omega) hs32).mono ?_;rintro e2 w2 ⟨rfl,Z,hZ,hZl,dZ,hZv,hb2⟩;obtain⟨vs,hZe,hZt,hvl,dV,hVv,hvt,hVlt⟩:=HY.out Z dZ (by rw[hZl,HP.out]) hZv;have ht:=yM Z _ (Y.length+1) w2 (Ds.own (es:=[]) (by rw[List.append_nil];exact hZ) dZ _ (by omega)) (by omega);rw[hZl,hZt,hvl,←HN.out] at ht;rw[hZe] at hZ;have HVV:=Lib.hid hVv;have hgv:=hb1.size;have hvlt:=hZ.lt;replace hb1:=aB hb1 hb2;clear hZl dZ hZv hZe hZt hVv HY gy1;go_wp2_with fail;refine ht.mono ?_;rintro e3 w3 ⟨rfl,rfl⟩;go_wp2_with fail;refine(GC X _ s w2 (hX.below hb1) (by omega) hs32).mono ?_;rintro e4 w4 ⟨rfl,As,hA,hAl,dA,hAv,hb4⟩;replace hZ:=hZ.below hb4;have hgu:=hb4.size;have hult:=hA.lt;replace hb1:=aB hb1 hb4;obtain⟨M,hM⟩:∃M,X.length=M+Y.length:=⟨X.length-Y.length,by omega⟩;have hMj:((X.length:Int)+1)-(n:Int)=(M:Int)+1:=by have:=HP.out;have:=HN.out;omega
     have HM:=Lib.hid hM;have hM2:M≤X.length:=by omega
     clear hM;clear ht;go_wp2_with (at_make;refine eZ rfl rfl 170 _ 1 4 Tryz.underlying92 nC rfl (by decide) (M+1) rfl rfl rfl rfl (by omega) (by omega) ?_;intro w5 hz5 hr5 hb5);have Q:=Bx.zeros hr5;replace hA:=hA.below hb5;replace hZ:=hZ.below hb5;replace hb1:=aB hb1 hb5;have hst:=T3 (M:=M) hX.dg hvl (by rw[HM.out,HP.out]) hvt hs32;rw[←hAv] at hst;have HST:=Lib.hid hst;have HAV:=Lib.hid hAv;have hAn:As.length=n+(M+1):=by rw[hAl,HM.out,HP.out,HN.out];omega
     have HAL:=Lib.hid hAn;have HV:Hid (Dvs vs n p):=⟨HN.out,by rw[hvl,HN.out],dV,hvt,by rw[HN.out];exact hVlt⟩;have HXN:Hid (X.length+1=n+(M+1)):=by unfold Hid;rw[HM.out,HP.out,HN.out];omega
     have hnY:n≤Y.length+1:=by have:=HP.out;have:=HN.out;omega
     have hst2:Hid (2^s*nv Y=nv vs):=HVV.out.symm;clear hr5 hb5 hb4 hb2 hst hAv hAl hAn hvl hvt hVlt hcm hix;generalize w1.heap.size=gv at *;generalize w2.heap.size=gu at *;generalize w4.heap.size=gq at *;go_wp2_with fail;refine wp_loop_ghost_k (DvI w (.int .u64 (s:Int)) gv gu gq n M vs As X.length Y.length) (M+1) ⟨_,rfl,rfl,⟨As,[],(M:Int),0,by unfold Hid;omega,rfl,by omega,by omega,HAL.out,by unfold Hid;omega,dA,(fun d hd=>by cases hd),HST.out,by unfold Hid;rw[pL,Nat.mul_zero,Nat.add_zero],hZ,by rw[List.replicate_zero,List.append_nil];exact hA,by rw[List.append_nil];exact Q,rfl,hb1⟩,rfl,rfl,rfl,rfl,rfl⟩ ?_;intro gk a' wr hI JJ K hJ hK;clear hZ hA Q hb1 dA;cases gk with
     |succ k=>exact SE HV hgv (by omega) (by omega) HXN (by omega) hn hnY hM2 k hI JJ K _ hJ hK
     |zero=>
      clear hJ hK;obtain⟨f,J,⟨us,rs,j,z,HJ2,rfl,hj1,hj2,HUL,HZ,dU,dR,HLT,HINV,VX,UX,QX,HRS,hb⟩,rfl⟩:=hI.open_;unfold uG uF;have hj0:¬0≤j:=by have:=HJ2.out;omega
      have hz:z=M+1:=HZ.out;subst hz;have hul:us.length=n:=HUL.out
      obtain⟨hq,hr⟩:nv rs=a/b∧nv us=2^s*(a%b):=TA h0 (by
       have h1:=HINV.out;rw[Nat.pow_zero,Nat.mul_one,HVV.out,HAV.out,HXY.out.1,HXY.out.2] at h1;exact h1) (by
       have h1:=HLT.out;rw[Nat.pow_zero,Nat.mul_one,HVV.out,HXY.out.2] at h1;exact h1)
      have hn2:n≤X.length+1:=by have:=HXN.out;omega
      have ht:=yM us _ (X.length+1) wr (Ds.own UX dU _ (by omega)) (by omega);rw[hul] at ht;obtain⟨tl,hus, -, -⟩:=nW aG us;have dRR:=dU.trim;have hnr:=GL us;rw[hr] at hnr;have hLn:=cK aG us;rw[hul] at hLn;generalize aH aG us=rr at *;rw[hus,List.append_assoc] at UX;generalize tl++List.replicate (M+1) 0=tail at *;have HQ:=Lib.hid hq;have HNR:=Lib.hid hnr;clear hq hr hus hnr HINV HLT HUL HJ2 HZ dU;go_wp2_with fail;refine ht.mono ?_;rintro e6 w6 ⟨rfl,rfl⟩;clear ht;go_wp2_with fail
      go_loopg [26] rr.length (fun k t wy=>∃(P T:List Nat) (i:Nat),Hid (i+k=rr.length)∧t= .int .i64 (i:Int)∧Hid (P.length=i)∧Hid (rr.drop i=T)∧Dg P∧Hid (2^s*nv P+aV rr 0%2^s=nv (rr.take i)+aC^i*(aV rr i%2^s))∧
       Bx wy gu (U (P++(T++tail))) 170∧Bx wy gq (U (List.replicate 0 0++rs)) 170∧Below w.heap.size w wy)
      case atStart=>exact⟨[],rr,0,by unfold Hid;omega,rfl,rfl,rfl,(fun d hd=>by cases hd),by unfold Hid;rw[List.take_zero,pL,Nat.mul_zero,Nat.pow_zero,Nat.one_mul],UX,QX,hb⟩
      case round=>
       clear UX VX QX hb;obtain⟨P,T,i,HI,rfl,HPL,HT,dP,HV2,UX,QX,hb⟩:=hrel;generalize wr=wy at *;have hi0:(0:Int)≤(i:Int):=by omega
       cases gk with
       |zero=>
        have hi:i=rr.length:=HI.out;subst hi;have hi1:¬(rr.length:Int)<(rr.length:Int):=by omega
        have hT:T=[]:=by rw[←HT.out];exact List.drop_length
        subst hT;rw[List.nil_append] at UX;rw[List.replicate_zero,List.nil_append] at QX
        have hv:nv P=a%b:=T9 (r:=aV rr 0) (by
         have h1:=HV2.out;rw[fH (Nat.le_refl _),pK (Nat.le_refl _),Nat.zero_mod,Nat.mul_zero,Nat.add_zero] at h1;exact h1) HNR.out
        have t1:=nB rs gq (a/b) (M+1) wy QX dR HQ.out (by rw[HRS.out];exact Nat.le_refl _) (by rw[HRS.out];omega);have t2:=GF P tail gu (a%b) (X.length+1) wy UX dP hv (by rw[HPL.out];omega) (by rw[HPL.out];omega);rw[HRS.out] at t1;rw[HPL.out] at t2;go_wp2_with fail;refine t1.mono ?_;rintro e7 w7 ⟨v7,rfl,m7,rfl⟩;go_wp2_with fail;refine t2.mono ?_;rintro e8 w8 ⟨v8,rfl,m8,rfl⟩;go_wp2_with fail;go_ret2;exact⟨_,_,rfl,m7,m8,hb⟩
       |succ k=>
        have hi1:i<rr.length:=by have:=HI.out;omega
        obtain⟨x,hx⟩:∃x,rr[i]? =some x:=⟨_,List.getElem?_eq_getElem hi1⟩;have x32:=dRR.get hx;have hT:T=x :: rr.drop (i+1):=by rw[←HT.out];exact(List.drop_eq_getElem_cons hi1).trans (by rw[(List.getElem?_eq_some_iff.1 hx).2])
        subst hT;have hv3:2^s*nv P+aV rr 0%2^s=nv (rr.take i)+aC^i*(x%2^s):=by have:=HV2.out;rw[eF hx] at this;exact this
        have hst:=fun y=>Lib.hid (T7 (y:=y) hs32 HPL.out hv3);have HX:=Lib.hid (fM rr i);rw[eF hx] at HX;clear hx HT;have gx:=UX.mid HPL.out;have fx:=fun j=>UX.free j;have U1:=UX.next (y:=x/2^s) HPL.out rfl;have y1:(x:Int)/2^s=((x/2^s:Nat):Int):=by rw[Int.natCast_ediv,Int.natCast_pow];rfl
        have hxs:x/2^s≤x:=Nat.div_le_self _ _;unfold aC at x32;by_cases hi2:i+1<rr.length
        ·obtain⟨y,hy⟩:∃y,rr[i+1]? =some y:=⟨_,List.getElem?_eq_getElem hi2⟩;have y32:=dRR.get hy;have hT:rr.drop (i+1)=y :: rr.drop (i+2):=(List.drop_eq_getElem_cons hi2).trans (by rw[(List.getElem?_eq_some_iff.1 hy).2]);have HT:=Lib.hid hT;rw[hT] at U1;have gz:=U1.cell i (gZ (by rw[List.append_assoc];exact yQ HPL.out));have gy1:=U1.mid (gH HPL.out);have fz:=fun j=>U1.free j;unfold aC at y32;have HY2:aV rr (i+1)=y:=eF hy;have hi3:(i:Int)+1<(rr.length:Int):=by omega
         replace HY2:=Lib.hid HY2;obtain⟨V,L,k1,k2,k3,k4,k5,k6⟩:=SG hs32 x32 y32;have HS0:=hst y;rw[←k5] at HS0;have k7:=IntWalk.i64_in ((i:Int)+1) (by omega);have k8:(0:Int)≤(i:Int)+1:=by omega
         have k9:((i:Int)+1).toNat=i+1:=by omega
         have U2:=U1;rw[List.append_assoc] at U2;have U3:=U2.next (y:=x/2^s+L) HPL.out rfl;clear hy hT k5;generalize x/2^s=xq at *;go_wp2_with fail;go_region
         all_goals (
          go_wp2_with fail;go_roundg k
          case rel=>exact⟨P++[xq+L],rr.drop (i+1),i+1,by have:=HI.out;unfold Hid;omega,by go_num,gH HPL.out,rfl,dP.snoc (by unfold aC;omega),(by
           unfold Hid;rw[HX.out,HY2.out];exact HS0.out),(by rw[HT.out];exact U3),(QX.far _ _ (show gu≠gq by omega)).far _ _ (show gu≠gq by omega),((hb.setCell (p:=⟨gu,i,none⟩) (show w.heap.size≤gu by omega) _).setCell (p:=⟨gu,i,none⟩) (show w.heap.size≤gu by omega) _).drew⟩
          case measure=>omega)
        ·have hi3:¬(i:Int)+1<(rr.length:Int):=by omega
         have HS0:=hst 0;generalize x/2^s=xq at *;go_wp2_with fail;go_roundg k
         case rel=>exact⟨P++[xq],rr.drop (i+1),i+1,by have:=HI.out;unfold Hid;omega,by go_num,gH HPL.out,rfl,dP.snoc (by unfold aC;omega),by
          unfold Hid;rw[HX.out,pK (l:=rr) (i:=i+1) (by omega)];have:=HS0.out;rw[Nat.zero_mod,Nat.mul_zero,Nat.add_zero,Nat.mul_zero,Nat.add_zero] at this;rw[Nat.zero_mod,Nat.mul_zero,Nat.add_zero];exact this,U1,QX.far _ _ (show gu≠gq by omega),hb.setCell (p:=⟨gu,i,none⟩) (show w.heap.size≤gu by omega) _⟩
         case measure=>omega
    |succ k=>
     have q2:((y*2^s:Nat):Int)<2147483648:=by
      have h1:=HS.out.2;have h2:y*2^(s+1)≤y*2^S:=Nat.mul_le_mul_left _ (Nat.pow_le_pow_right (by decide) (by have:=HJ.out;omega));rw[Nat.pow_succ] at h2;have h3:y*(2^s*2)=y*2^s*2:=by rw[Nat.mul_assoc]
      omega
     generalize y*2^s=yy at *;go_wp2_with fail;go_roundg k
     case rel=>exact⟨s+1,by have:=HJ.out;unfold Hid;omega,by go_num,rfl⟩
     case measure=>omega
def NI (w:World) (v:Value) (n:Int):Prop:=∃u,v= .agg #[.bool (decide (n<0)),u]∧Mg w u n.natAbs
def lI (w:World) (n:Int) (e:Ending) (w':World):Prop:=∃v,e= .returned v∧NI w' v n∧Below w.heap.size w w'
section
variable {w w':World} {v u:Value} {n:Int} {s:Bool}
theorem NI.below (h:NI w v n) (hb:Below w.heap.size w w'):NI w' v n:=by
 obtain⟨u,e,h⟩:=h;exact⟨u,e,h.below hb⟩
theorem NI.keep (h:NI w v n) (hk:KM w w'):NI w' v n:=by
 obtain⟨u,e,h⟩:=h;exact⟨u,e,h.keep hk⟩
theorem NI.drew (h:NI w v n):NI w.drew v n:=h.below (Below.refl _ _).drew
theorem NI.form (h:NI w v n):∃s A k c,v= .agg #[.bool s,.slice A k c]:=by
 obtain⟨u,rfl,h⟩:=h;obtain⟨A,k,c,rfl⟩:=h.form;exact⟨_,A,k,c,rfl⟩
theorem NI.words (h:NI w (.agg #[.bool s,u]) n):Mg w u n.natAbs:=by
 obtain⟨u,e,h⟩:=h;simp at e;rw[e.2];exact h
theorem NI.neg (h:NI w (.agg #[.bool s,u]) n):s=decide (n<0):=by
 obtain⟨u,e,h⟩:=h;simp at e;exact e.1
theorem NI.zero (w:World):NI w (.agg #[.bool false,.slice none 0 0]) 0:=⟨_,rfl,Mg.zero _ _ _⟩
theorem Mg.len {A:Option Addr} {k c m:Nat} (h:Mg w (.slice A k c) m):(k=0↔m=0)∧k≤2*nl m:=by
 obtain⟨ds,h1,h2,h3⟩:=h;obtain⟨A',c',e,_⟩:=h1.form;simp only[Value.slice.injEq] at e;obtain⟨_,rfl,_⟩:=e;refine⟨⟨fun h=> ?_,fun h=> ?_⟩,iO h2 h3⟩
 ·rw[List.eq_nil_of_length_eq_zero h] at h3;exact h3.symm
 ·rw[TE h2 (h3.trans h)];rfl
end
theorem oC (s:Bool) (u:Value) (m:Nat) (n:Int) (w:World) (hu:Mg w u m) (lm:nl m≤1099511627776) (hn:n.natAbs=m) (hs:(s=true∧m≠0)↔n<0):
  Calls Tryz.prog 120 #[.bool s,u] w (lI w n):=by
 obtain⟨A,k,c,rfl⟩:=hu.form;obtain⟨hk,lk⟩:=hu.len;have hb:Below w.heap.size w (w.alloc (.cells #[.bool (decide (n<0)),.slice A k c] 94)):=(Below.refl _ _).alloc (Nat.le_refl _) _;have HN:=Lib.hid hn;clear hn;by_cases hp:s=true∧m≠0
 ·have hd:decide (n<0)=true:=by simpa using hs.1 hp
  have hz:NI (w.alloc (.cells #[.bool (decide (n<0)),.slice A k c] 94)) (.agg #[.bool (decide (n<0)),.slice A k c]) n:=⟨_,rfl,by rw[HN.out];exact hu.below hb⟩;rw[hd] at hz hb;obtain⟨rfl,h0⟩:=hp;have hk0:decide (0<k)=true:=by simp;omega
  clear hs hd;go_enter Tryz.func120,Tryz.ntmps120;go_wp2_with fail;exact bodyPost_ret (v:= .agg #[.bool true,.slice A k c]) (by simp[results,Tryz.results120,go_sem]) rfl ⟨_,rfl,hz,hb⟩
 ·have hd:decide (n<0)=false:=by rw[decide_eq_false_iff_not,←hs];exact hp
  have hz:NI (w.alloc (.cells #[.bool (decide (n<0)),.slice A k c] 94)) (.agg #[.bool (decide (n<0)),.slice A k c]) n:=⟨_,rfl,by rw[HN.out];exact hu.below hb⟩;rw[hd] at hz hb;have hc:s=false∨s=true∧decide (0<k)=false:=by
   cases s with
   |false=>exact .inl rfl
   |true=>exact .inr ⟨rfl,by have:m=0:=by simpa using hp
                             simp;omega⟩
  clear hs hd hp;rcases hc with rfl|⟨rfl,hk0⟩
  all_goals (
   go_enter Tryz.func120,Tryz.ntmps120;go_wp2_with fail;exact bodyPost_ret (v:= .agg #[.bool false,.slice A k c]) (by simp[results,Tryz.results120,go_sem]) rfl ⟨_,rfl,hz,hb⟩)
theorem G4 (n:Nat) (w:World) (hn:n≤1000000):
  Calls Tryz.prog 146 #[.int .i64 (n:Int)] w (lI w n):=by
 have hn0:¬((n:Int)<0):=by omega
 have hz:(n:Int)/4294967296=0:=by omega
 have hz2:(n:Int)%4294967296=n:=by omega
 obtain⟨W,eW,hb,R⟩:=bA w [.bool false,.slice none 0 0] 94;have cM:=R.g2;go_enter Tryz.func146,Tryz.ntmps146;go_wp2_with fail;(try rw[eW]);clear eW;obtain⟨w1,e1,hA,B⟩:=bA W [.int .u32 (n:Int),.int .u32 0] 170;rw[e1];clear e1;have ht:=nB [n,0] W.heap.size n 2 w1 B (fun d hd=>by simp at hd;unfold aC;omega) (by simp[nv]) (Nat.le_refl _) (by simp);simp only[List.length_cons,List.length_nil] at ht;refine ht.mono ?_;rintro e2 w2 ⟨v,rfl,hm,rfl⟩;replace R:=R.below hA;replace cM:=R.g2;replace hb:=aB hb hA;go_wp2_with fail;refine(oC false v n n _ hm (Nat.le_trans (bI (m:=1) (by unfold BN;omega)) (by decide)) rfl (by simp)).mono ?_;rintro e3 w3 ⟨v3,rfl,h3,hb3⟩;obtain⟨s3,A3,k3,c3,rfl⟩:=h3.form;replace R:=R.below hb3;replace cM:=R.g2;replace hb:=aB hb hb3;go_wp2_with fail;obtain⟨W6,eW6,R,hb,hk,ff⟩:=R.mut2 hb (by omega) (.bool s3) (.slice A3 k3 c3) rfl rfl;replace h3:=h3.keep hk;rw[eW6];clear eW6;replace cM:=R.k2;exact bodyPost_ret (v:= .agg #[.bool s3,.slice A3 k3 c3]) (by simp[results,Tryz.results146,go_sem,R.k2]) rfl ⟨_,rfl,h3,hb⟩
theorem G5 (n:Int) (v:Value) (w:World) (hv:NI w v n) (hl:nl n.natAbs≤1099511627776):
  Calls Tryz.prog 121 #[v] w (sS w n.sign):=by
 obtain⟨s,A,k,c,rfl⟩:=hv.form;have hs:=hv.neg;obtain⟨hk,lk⟩:=hv.words.len;have hb:Below w.heap.size w (w.alloc (.cells #[.bool s,.slice A k c] 94)):=(Below.refl _ _).alloc (Nat.le_refl _) _;rcases Int.lt_trichotomy n 0 with h|h|h
 ·have hd:s=true:=by rw[hs];simpa using h
  subst hd;have HS:Hid (n.sign= -1):=Int.sign_eq_neg_one_of_neg h;clear hs h hk;go_enter Tryz.func121,Tryz.ntmps121;go_wp2_with fail;go_ret;exact⟨by rw[HS.out];rfl,hb⟩
 ·subst h;have hd:s=false:=by rw[hs];rfl
  subst hd;have hk0:k=0:=hk.2 rfl;subst hk0;clear hs hk;go_enter Tryz.func121,Tryz.ntmps121;go_wp2_with fail;go_ret;exact⟨rfl,hb⟩
 ·have hd:s=false:=by rw[hs];simp;omega
  subst hd;have hk0:((k:Int)==0)=false:=by simp;omega
  have HS:Hid (n.sign=1):=Int.sign_eq_one_of_pos h;clear hs h hk;go_enter Tryz.func121,Tryz.ntmps121;go_wp2_with fail;go_ret;exact⟨by rw[HS.out];rfl,hb⟩
theorem yK (n:Int) (v:Value) (w:World) (hv:NI w v n) (hl:nl n.natAbs≤1099511627776):
  Calls Tryz.prog 161 #[v] w (lI w (-n)):=by
 obtain⟨s,A,k,c,rfl⟩:=hv.form;have hmk:=fun W h=>oC (!s) (.slice A k c) n.natAbs (-n) W h hl (by omega) (by rw[hv.neg];simp;omega);obtain⟨W,eW,hb,B,R⟩:=j6 w [.bool s,.slice A k c] 94 [.bool false,.slice none 0 0] 94;have cM:=aa B.g2 R.g2;go_enter Tryz.func161,Tryz.ntmps161;go_wp2_with fail;(try rw[eW]);clear eW;refine(hmk _ (hv.below hb).words).mono ?_;rintro e1 w1 ⟨v1,rfl,h1,hb1⟩;obtain⟨s1,A1,k1,c1,rfl⟩:=h1.form;replace B:=B.below hb1;replace R:=R.below hb1;replace cM:=aa B.k2 R.g2;replace hb:=aB hb hb1;go_wp2_with fail;obtain⟨W6,eW6,R,hb,hk,ff⟩:=R.mut2 hb (by omega) (.bool s1) (.slice A1 k1 c1) rfl rfl;replace B:=ff B (by omega);replace h1:=h1.keep hk;rw[eW6];clear eW6;replace cM:=aa B.k2 R.k2;exact bodyPost_ret (v:= .agg #[.bool s1,.slice A1 k1 c1]) (by simp[results,Tryz.results161,go_sem,R.k2]) rfl ⟨_,rfl,h1,hb⟩
theorem G6 (x y:Int) (vx vy:Value) (w:World) (hx:NI w vx x) (hy:NI w vy y) (lx:nl x.natAbs≤549755813888) (ly:nl y.natAbs≤549755813888):
  Calls Tryz.prog 166 #[vx,vy] w (lI w (x+y)):=by
 obtain⟨s,A,k,c,rfl⟩:=hx.form;obtain⟨t,C,l,d,rfl⟩:=hy.form;have hs:=hx.neg;have ht:=hy.neg;have hlz:nl (x+y).natAbs≤1099511627776:=by
  have h1:nl (x+y).natAbs≤nl (x.natAbs+y.natAbs):=aX (by omega);have:=oL x.natAbs y.natAbs;omega
 have hcm:=fun W u v h1 h2=>GH x.natAbs y.natAbs u v W h1 h2 (by omega) (by omega);by_cases hst:s=t
 ·have hab:(x+y).natAbs=x.natAbs+y.natAbs:=by rw[hs,ht] at hst;by_cases h1:x<0<;>by_cases h2:y<0<;>simp[h1,h2] at hst<;>omega
  have hsg:(s=true∧x.natAbs+y.natAbs≠0)↔x+y<0:=by rw[hs,ht] at hst;rw[hs];by_cases h1:x<0<;>by_cases h2:y<0<;>simp[h1,h2] at hst⊢<;>omega
  have hmk:=fun W u h=>oC s u (x.natAbs+y.natAbs) (x+y) W h (by rw[←hab];exact hlz) hab hsg;clear hs ht hab hsg hcm;subst hst;obtain⟨W,eW,hb,X,Y,R⟩:=dK w [.bool s,.slice A k c] 94 [.bool s,.slice C l d] 94 [.bool false,.slice none 0 0] 94;have cM:=aa X.g2 (aa Y.g2 R.g2);go_enter Tryz.func166,Tryz.ntmps166;go_wp2_with fail;(try rw[eW]);clear eW;replace hx:=hx.below hb;replace hy:=hy.below hb;replace hx:=hx.drew;replace hy:=hy.drew;replace X:=X.drew;replace Y:=Y.drew;replace R:=R.drew;replace hb:=hb.drew;replace cM:=aa X.k2 (aa Y.k2 R.g2);have n_R_X:w.heap.size+1+1≠w.heap.size:=by omega
  have n_R_Y:w.heap.size+1+1≠w.heap.size+1:=by omega
  go_region_held3 (fun w'=>C2 w' w.heap.size (.bool s) (.slice A k c)∧C2 w' (w.heap.size+1) (.bool s) (.slice C l d))
   (first|(with_reducible exact⟨X.k2,Y.k2⟩)|(refine⟨?_,?_⟩<;>(repeat (first|with_reducible exact X.k2|with_reducible exact Y.k2|with_reducible refine dF n_R_X ?_|with_reducible refine dF n_R_Y ?_))))
   (first
    |(go_at_call 158;(with_reducible refine(GG _ _ _ _ _ hx.words hy.words (by omega) (by omega)).mono ?_);rintro e4 w4 ⟨v4,rfl,h4,hb4⟩;obtain⟨A4,k4,c4,rfl⟩:=h4.form;replace X:=X.below hb4;replace Y:=Y.below hb4;replace R:=R.below hb4;replace cM:=aa X.k2 (aa Y.k2 R.g2);replace hk:=KM.below hb4;replace hx:=hx.keep hk;replace hy:=hy.keep hk;(try replace h5:=h5.keep hk);replace hb:=aB hb hb4)
    |(go_at_call 120;(with_reducible refine(hmk _ _ h4).mono ?_);rintro e5 w5 ⟨v5,rfl,h5,hb5⟩;obtain⟨s5,A5,k5,c5,rfl⟩:=h5.form;replace X:=X.below hb5;replace Y:=Y.below hb5;replace R:=R.below hb5;replace cM:=aa X.k2 (aa Y.k2 R.g2);replace hk:=KM.below hb5;replace hx:=hx.keep hk;replace hy:=hy.keep hk;(try replace h4:=h4.keep hk);replace hb:=aB hb hb5))
  go_wp2_with fail;obtain⟨W6,eW6,R,hb,hk,ff⟩:=R.mut2 hb (by omega) (.bool s5) (.slice A5 k5 c5) rfl rfl;replace X:=ff X (by omega);replace Y:=ff Y (by omega);replace h5:=h5.keep hk;rw[eW6];clear eW6;replace cM:=aa X.k2 (aa Y.k2 R.k2);exact bodyPost_ret (v:= .agg #[.bool s5,.slice A5 k5 c5]) (by simp[results,Tryz.results166,go_sem,R.k2]) rfl ⟨_,rfl,h5,hb⟩
 ·have q0:(s==t)=false:=by simpa using hst
  rw[hs,ht] at hst;rcases Nat.lt_or_ge x.natAbs y.natAbs with hl|hl
  ·have hab:(x+y).natAbs=y.natAbs-x.natAbs:=by by_cases h1:x<0<;>by_cases h2:y<0<;>simp[h1,h2] at hst<;>omega
   have hsg:(t=true∧y.natAbs-x.natAbs≠0)↔x+y<0:=by rw[ht];by_cases h1:x<0<;>by_cases h2:y<0<;>simp[h1,h2] at hst⊢<;>omega
   have hmk:=fun W u h=>oC t u (y.natAbs-x.natAbs) (x+y) W h (by rw[←hab];exact hlz) hab hsg;have hle:x.natAbs≤y.natAbs:=by omega
   rw[iX (by omega)] at hcm;clear hs ht hab hsg hst hl;obtain⟨W,eW,hb,X,Y,R⟩:=dK w [.bool s,.slice A k c] 94 [.bool t,.slice C l d] 94 [.bool false,.slice none 0 0] 94;have cM:=aa X.g2 (aa Y.g2 R.g2);go_enter Tryz.func166,Tryz.ntmps166;go_wp2_with fail;(try rw[eW]);clear eW;replace hx:=hx.below hb;replace hy:=hy.below hb;refine(hcm _ _ _ hx.words hy.words).mono ?_;rintro e1 w1 ⟨rfl,hb1⟩;replace X:=X.below hb1;replace Y:=Y.below hb1;replace R:=R.below hb1;replace cM:=aa X.k2 (aa Y.k2 R.g2);replace hk:=KM.below hb1;replace hx:=hx.keep hk;replace hy:=hy.keep hk;replace hb:=aB hb hb1;go_wp2_with fail;replace hx:=hx.drew;replace hy:=hy.drew;replace X:=X.drew;replace Y:=Y.drew;replace R:=R.drew;replace hb:=hb.drew;replace cM:=aa X.k2 (aa Y.k2 R.g2);have n_R_X:w.heap.size+1+1≠w.heap.size:=by omega
   have n_R_Y:w.heap.size+1+1≠w.heap.size+1:=by omega
   go_region_held3 (fun w'=>C2 w' w.heap.size (.bool s) (.slice A k c)∧C2 w' (w.heap.size+1) (.bool t) (.slice C l d))
    (first|(with_reducible exact⟨X.k2,Y.k2⟩)|(refine⟨?_,?_⟩<;>(repeat (first|with_reducible exact X.k2|with_reducible exact Y.k2|with_reducible refine dF n_R_X ?_|with_reducible refine dF n_R_Y ?_))))
    (first
     |(go_at_call 191;(with_reducible refine(GI _ _ _ _ _ hy.words hx.words (by omega) (by omega) hle).mono ?_);rintro e4 w4 ⟨v4,rfl,h4,hb4⟩;obtain⟨A4,k4,c4,rfl⟩:=h4.form;replace X:=X.below hb4;replace Y:=Y.below hb4;replace R:=R.below hb4;replace cM:=aa X.k2 (aa Y.k2 R.g2);replace hk:=KM.below hb4;replace hx:=hx.keep hk;replace hy:=hy.keep hk;(try replace h5:=h5.keep hk);replace hb:=aB hb hb4)
     |(go_at_call 120;(with_reducible refine(hmk _ _ h4).mono ?_);rintro e5 w5 ⟨v5,rfl,h5,hb5⟩;obtain⟨s5,A5,k5,c5,rfl⟩:=h5.form;replace X:=X.below hb5;replace Y:=Y.below hb5;replace R:=R.below hb5;replace cM:=aa X.k2 (aa Y.k2 R.g2);replace hk:=KM.below hb5;replace hx:=hx.keep hk;replace hy:=hy.keep hk;(try replace h4:=h4.keep hk);replace hb:=aB hb hb5))
   go_wp2_with fail;obtain⟨W6,eW6,R,hb,hk,ff⟩:=R.mut2 hb (by omega) (.bool s5) (.slice A5 k5 c5) rfl rfl;replace X:=ff X (by omega);replace Y:=ff Y (by omega);replace h5:=h5.keep hk;rw[eW6];clear eW6;replace cM:=aa X.k2 (aa Y.k2 R.k2);exact bodyPost_ret (v:= .agg #[.bool s5,.slice A5 k5 c5]) (by simp[results,Tryz.results166,go_sem,R.k2]) rfl ⟨_,rfl,h5,hb⟩
  ·have hab:(x+y).natAbs=x.natAbs-y.natAbs:=by by_cases h1:x<0<;>by_cases h2:y<0<;>simp[h1,h2] at hst<;>omega
   have hsg:(s=true∧x.natAbs-y.natAbs≠0)↔x+y<0:=by rw[hs];by_cases h1:x<0<;>by_cases h2:y<0<;>simp[h1,h2] at hst⊢<;>omega
   have hmk:=fun W u h=>oC s u (x.natAbs-y.natAbs) (x+y) W h (by rw[←hab];exact hlz) hab hsg;have hle:y.natAbs≤x.natAbs:=by omega
   obtain⟨cc,hcc,hcc2⟩:∃cc,bM x.natAbs y.natAbs=cc∧¬cc<0:=⟨_,rfl,by rcases iY (x.natAbs:Int) y.natAbs with ⟨h,_⟩|⟨_,e⟩|⟨_,e⟩<;>omega⟩;rw[hcc] at hcm;clear hs ht hab hsg hst hl hcc;obtain⟨W,eW,hb,X,Y,R⟩:=dK w [.bool s,.slice A k c] 94 [.bool t,.slice C l d] 94 [.bool false,.slice none 0 0] 94;have cM:=aa X.g2 (aa Y.g2 R.g2);go_enter Tryz.func166,Tryz.ntmps166;go_wp2_with fail;(try rw[eW]);clear eW;replace hx:=hx.below hb;replace hy:=hy.below hb;refine(hcm _ _ _ hx.words hy.words).mono ?_;rintro e1 w1 ⟨rfl,hb1⟩;replace X:=X.below hb1;replace Y:=Y.below hb1;replace R:=R.below hb1;replace cM:=aa X.k2 (aa Y.k2 R.g2);replace hk:=KM.below hb1;replace hx:=hx.keep hk;replace hy:=hy.keep hk;replace hb:=aB hb hb1;go_wp2_with fail;replace hx:=hx.drew;replace hy:=hy.drew;replace X:=X.drew;replace Y:=Y.drew;replace R:=R.drew;replace hb:=hb.drew;replace cM:=aa X.k2 (aa Y.k2 R.g2);have n_R_X:w.heap.size+1+1≠w.heap.size:=by omega
   have n_R_Y:w.heap.size+1+1≠w.heap.size+1:=by omega
   go_region_held3 (fun w'=>C2 w' w.heap.size (.bool s) (.slice A k c)∧C2 w' (w.heap.size+1) (.bool t) (.slice C l d))
    (first|(with_reducible exact⟨X.k2,Y.k2⟩)|(refine⟨?_,?_⟩<;>(repeat (first|with_reducible exact X.k2|with_reducible exact Y.k2|with_reducible refine dF n_R_X ?_|with_reducible refine dF n_R_Y ?_))))
    (first
     |(go_at_call 191;(with_reducible refine(GI _ _ _ _ _ hx.words hy.words (by omega) (by omega) hle).mono ?_);rintro e4 w4 ⟨v4,rfl,h4,hb4⟩;obtain⟨A4,k4,c4,rfl⟩:=h4.form;replace X:=X.below hb4;replace Y:=Y.below hb4;replace R:=R.below hb4;replace cM:=aa X.k2 (aa Y.k2 R.g2);replace hk:=KM.below hb4;replace hx:=hx.keep hk;replace hy:=hy.keep hk;(try replace h5:=h5.keep hk);replace hb:=aB hb hb4)
     |(go_at_call 120;(with_reducible refine(hmk _ _ h4).mono ?_);rintro e5 w5 ⟨v5,rfl,h5,hb5⟩;obtain⟨s5,A5,k5,c5,rfl⟩:=h5.form;replace X:=X.below hb5;replace Y:=Y.below hb5;replace R:=R.below hb5;replace cM:=aa X.k2 (aa Y.k2 R.g2);replace hk:=KM.below hb5;replace hx:=hx.keep hk;replace hy:=hy.keep hk;(try replace h4:=h4.keep hk);replace hb:=aB hb hb5))
   go_wp2_with fail;obtain⟨W6,eW6,R,hb,hk,ff⟩:=R.mut2 hb (by omega) (.bool s5) (.slice A5 k5 c5) rfl rfl;replace X:=ff X (by omega);replace Y:=ff Y (by omega);replace h5:=h5.keep hk;rw[eW6];clear eW6;replace cM:=aa X.k2 (aa Y.k2 R.k2);exact bodyPost_ret (v:= .agg #[.bool s5,.slice A5 k5 c5]) (by simp[results,Tryz.results166,go_sem,R.k2]) rfl ⟨_,rfl,h5,hb⟩
theorem pJ (s:Bool) (u:Value) (m:Nat) (n:Int) (w:World) (hu:Mg w u m) (lm:nl m≤1099511627776) (hn:n=if s then -(m:Int) else m):
  Calls Tryz.prog 120 #[.bool s,u] w (lI w n):=by
 exact oC s u m n w hu lm (by cases s<;>simp at hn<;>omega) (by cases s<;>simp at hn⊢<;>omega)
theorem nA (x y:Int) (vx vy:Value) (w:World) (hx:NI w vx x) (hy:NI w vy y) (lx:nl x.natAbs≤549755813888) (ly:nl y.natAbs≤549755813888):
  Calls Tryz.prog 148 #[vx,vy] w (lI w (x*y)):=by
 obtain⟨s,A,k,c,rfl⟩:=hx.form;obtain⟨t,C,l,d,rfl⟩:=hy.form;have hq:=vH x y;rw[←hx.neg,←hy.neg] at hq;have HQ:=Lib.hid hq;have hlz:=cJ x.natAbs y.natAbs;clear hq;obtain⟨W,eW,hb,X,Y,R⟩:=dK w [.bool s,.slice A k c] 94 [.bool t,.slice C l d] 94 [.bool false,.slice none 0 0] 94;have cM:=aa X.g2 (aa Y.g2 R.g2);go_enter Tryz.func148,Tryz.ntmps148;go_wp2_with fail;(try rw[eW]);clear eW;replace hx:=hx.below hb;replace hy:=hy.below hb;replace hx:=hx.drew;replace hy:=hy.drew;replace X:=X.drew;replace Y:=Y.drew;replace R:=R.drew;replace hb:=hb.drew;replace cM:=aa X.k2 (aa Y.k2 R.g2);have n_R_X:w.heap.size+1+1≠w.heap.size:=by omega
 have n_R_Y:w.heap.size+1+1≠w.heap.size+1:=by omega
 go_region_held3 (fun w'=>C2 w' w.heap.size (.bool s) (.slice A k c)∧C2 w' (w.heap.size+1) (.bool t) (.slice C l d))
  (first|(with_reducible exact⟨X.k2,Y.k2⟩)|(refine⟨?_,?_⟩<;>(repeat (first|with_reducible exact X.k2|with_reducible exact Y.k2|with_reducible refine dF n_R_X ?_|with_reducible refine dF n_R_Y ?_))))
  (first
   |(go_at_call 159;(with_reducible refine(GD _ _ _ _ _ hx.words hy.words (by omega) (by omega)).mono ?_);rintro e4 w4 ⟨v4,rfl,h4,hb4⟩;obtain⟨A4,k4,c4,rfl⟩:=h4.form;replace X:=X.below hb4;replace Y:=Y.below hb4;replace R:=R.below hb4;replace cM:=aa X.k2 (aa Y.k2 R.g2);replace hk:=KM.below hb4;replace hx:=hx.keep hk;replace hy:=hy.keep hk;(try replace h5:=h5.keep hk);replace hb:=aB hb hb4)
   |(go_at_call 120;(with_reducible refine(pJ _ _ _ (x*y) _ h4 (by omega) HQ.out).mono ?_);rintro e5 w5 ⟨v5,rfl,h5,hb5⟩;obtain⟨s5,A5,k5,c5,rfl⟩:=h5.form;replace X:=X.below hb5;replace Y:=Y.below hb5;replace R:=R.below hb5;replace cM:=aa X.k2 (aa Y.k2 R.g2);replace hk:=KM.below hb5;replace hx:=hx.keep hk;replace hy:=hy.keep hk;(try replace h4:=h4.keep hk);replace hb:=aB hb hb5))
 go_wp2_with fail;obtain⟨W6,eW6,R,hb,hk,ff⟩:=R.mut2 hb (by omega) (.bool s5) (.slice A5 k5 c5) rfl rfl;replace X:=ff X (by omega);replace Y:=ff Y (by omega);replace h5:=h5.keep hk;rw[eW6];clear eW6;replace cM:=aa X.k2 (aa Y.k2 R.k2);exact bodyPost_ret (v:= .agg #[.bool s5,.slice A5 k5 c5]) (by simp[results,Tryz.results148,go_sem,R.k2]) rfl ⟨_,rfl,h5,hb⟩
def FZ (w:World) (m n:Int) (e:Ending) (w':World):Prop:=∃u v,e= .returned (.tuple #[u,v])∧NI w' u m∧NI w' v n∧Below w.heap.size w w'
theorem G0 (x y:Int) (vx vy:Value) (w:World) (hx:NI w vx x) (hy:NI w vy y) (lx:nl x.natAbs≤549755813888) (ly:nl y.natAbs≤549755813888) (hy0:y≠0):
  Calls Tryz.prog 164 #[vx,vy] w (FZ w (x.tdiv y) (x.tmod y)):=by
 obtain⟨s,A,k,c,rfl⟩:=hx.form;obtain⟨t,C,l,d,rfl⟩:=hy.form;have hq:=BG x y;have hr:=BH x y;rw[←hx.neg] at hq hr;rw[←hy.neg] at hq;have HQ:=Lib.hid hq;have HR:=Lib.hid hr;have hlq:nl (x.natAbs/y.natAbs)≤nl x.natAbs:=aX (Nat.div_le_self _ _);have hlr:nl (x.natAbs%y.natAbs)≤nl x.natAbs:=aX (Nat.mod_le _ _);have hdv:=fun W u v h1 h2=>G7 x.natAbs y.natAbs u v W h1 h2 (by omega) (by omega) (by omega);unfold yL at hdv;generalize x.natAbs/y.natAbs=q at *;generalize x.natAbs%y.natAbs=r at *;generalize x.tdiv y=Q at *;generalize x.tmod y=R' at *;clear hq hr;obtain⟨W,eW,hb,X,Y,R,S⟩:=xF w [.bool s,.slice A k c] 94 [.bool t,.slice C l d] 94 [.bool false,.slice none 0 0] 94 [.bool false,.slice none 0 0] 94;have cM:=aa X.g2 (aa Y.g2 (aa R.g2 S.g2));go_enter Tryz.func164,Tryz.ntmps164;go_wp2_with fail;(try rw[eW]);clear eW;replace hx:=hx.below hb;replace hy:=hy.below hb;refine(hdv _ _ _ hx.words hy.words).mono ?_;rintro e3 w3 ⟨v3,u3,rfl,h3,i3,hb3⟩;obtain⟨A3,l3,c3,rfl⟩:=h3.form;obtain⟨D3,m3,d3,rfl⟩:=i3.form;replace h3:Mg w3 _ _:=h3;replace X:=X.below hb3;replace Y:=Y.below hb3;replace R:=R.below hb3;replace S:=S.below hb3;replace cM:=aa X.k2 (aa Y.k2 (aa R.g2 S.g2));replace hb:=aB hb hb3;clear hdv hx hy;have H3:=h3;go_wp2_with fail;replace h3:=h3.drew;replace i3:=i3.drew;replace X:=X.drew;replace Y:=Y.drew;replace R:=R.drew;replace S:=S.drew;replace hb:=hb.drew;replace cM:=aa X.k2 (aa Y.k2 (aa R.g2 S.g2));have n_R_X:w.heap.size+1+1≠w.heap.size:=by omega
 have n_R_Y:w.heap.size+1+1≠w.heap.size+1:=by omega
 have n_S_X:w.heap.size+1+1+1≠w.heap.size:=by omega
 have n_S_Y:w.heap.size+1+1+1≠w.heap.size+1:=by omega
 go_region_held3 (fun w'=>C2 w' w.heap.size (.bool s) (.slice A k c)∧C2 w' (w.heap.size+1) (.bool t) (.slice C l d))
  (first|(with_reducible exact⟨X.k2,Y.k2⟩)|(refine⟨?_,?_⟩<;>(repeat (first|with_reducible exact X.k2|with_reducible exact Y.k2|with_reducible refine dF n_R_X ?_|with_reducible refine dF n_R_Y ?_|with_reducible refine dF n_S_X ?_|with_reducible refine dF n_S_Y ?_))))
  (first
   |(go_at_call 120;(with_reducible refine(pJ _ _ q Q _ h3 (by omega) HQ.out).mono ?_);rintro e4 w4 ⟨v4,rfl,h4,hb4⟩;obtain⟨s4,A4,k4,c4,rfl⟩:=h4.form;replace X:=X.below hb4;replace Y:=Y.below hb4;replace R:=R.below hb4;replace S:=S.below hb4;replace cM:=aa X.k2 (aa Y.k2 (aa R.g2 S.g2));replace hk:=KM.below hb4;replace h3:=h3.keep hk;replace i3:=i3.keep hk;(try replace h5:=h5.keep hk);replace hb:=aB hb hb4)
   |(go_at_call 120;(with_reducible refine(pJ _ _ r R' _ i3 (by omega) HR.out).mono ?_);rintro e5 w5 ⟨v5,rfl,h5,hb5⟩;obtain⟨s5,A5,k5,c5,rfl⟩:=h5.form;replace X:=X.below hb5;replace Y:=Y.below hb5;replace R:=R.below hb5;replace S:=S.below hb5;replace cM:=aa X.k2 (aa Y.k2 (aa R.g2 S.g2));replace hk:=KM.below hb5;replace h3:=h3.keep hk;replace i3:=i3.keep hk;(try replace h4:=h4.keep hk);replace hb:=aB hb hb5))
 go_wp2_with fail;obtain⟨U0,eU0,R,hb,hk,ff⟩:=R.mut2 hb (by omega) (.bool s4) (.slice A4 k4 c4) rfl rfl;replace X:=ff X (by omega);replace Y:=ff Y (by omega);replace S:=ff S (by omega);replace h4:=h4.keep hk;replace h5:=h5.keep hk;obtain⟨W6,eW6,S,hb,hk,ff⟩:=S.mut2 hb (by omega) (.bool s5) (.slice A5 k5 c5) rfl rfl;replace X:=ff X (by omega);replace Y:=ff Y (by omega);replace R:=ff R (by omega);replace h4:=h4.keep hk;replace h5:=h5.keep hk;rw[eU0,eW6];clear eU0 eW6;replace cM:=aa X.k2 (aa Y.k2 (aa R.k2 S.k2));exact bodyPost_ret (v:= .tuple #[.agg #[.bool s4,.slice A4 k4 c4],.agg #[.bool s5,.slice A5 k5 c5]]) (by simp[results,Tryz.results164,go_sem,R.k2,S.k2]) rfl ⟨_,_,rfl,h4,h5,hb⟩
theorem S8 (x y:Int) (vx vy:Value) (w:World) (hx:NI w vx x) (hy:NI w vy y) (lx:nl x.natAbs≤549755813888) (ly:nl y.natAbs≤549755813888):
  Calls Tryz.prog 162 #[vx,vy] w (lI w ((Nat.gcd x.natAbs y.natAbs:Nat):Int)):=by
 obtain⟨s,A,k,c,rfl⟩:=hx.form;obtain⟨t,C,l,d,rfl⟩:=hy.form;obtain⟨W,eW,hb,X,Y,R⟩:=dK w [.bool s,.slice A k c] 94 [.bool t,.slice C l d] 94 [.bool false,.slice none 0 0] 94;have cM:=aa X.g2 (aa Y.g2 R.g2);go_enter Tryz.func162,Tryz.ntmps162;go_wp2_with fail;(try rw[eW]);clear eW;replace hx:=(hx.below hb).words;replace hy:=(hy.below hb).words;go_quiet (fail);go_wp2_with fail;generalize x.natAbs=a0 at *;generalize y.natAbs=b0 at *;clear cM X Y;go_loopg [5,6] b0 (fun g p q wr=>∃(a b:Nat) (A:Option Addr) (k c:Nat) (B:Option Addr) (l d:Nat),Hid (b≤g)∧p= .slice A k c∧q= .slice B l d∧Mg wr p a∧Mg wr q b∧nl a≤549755813888∧nl b≤549755813888∧Hid (Nat.gcd a b=Nat.gcd a0 b0)∧Bx wr (w.heap.size+1+1) [.bool false,.slice none 0 0] 94∧Below w.heap.size w wr)
 case atStart=>exact⟨a0,b0,A,k,c,C,l,d,Nat.le_refl _,rfl,rfl,hx,hy,lx,ly,rfl,R,cH hb _⟩
 case round=>
  clear hx hy R hb;obtain⟨a,b,A,k,c,B,l,d,HG,rfl,rfl,hx,hy,la,lb,HGC,R,hb⟩:=hrel;generalize wr=wx at *;have hk:=hy.len;by_cases h0:b=0
  ·have hl:l=0:=hk.1.2 h0;subst hl;have hr:Nat.gcd a0 b0=a:=by rw[←HGC.out,h0];exact Nat.gcd_zero_right _
   have HR:=Lib.hid hr;have cM:=R.g2;clear HGC hr h0 hk HG;go_wp2_with fail;refine(pJ false _ a (a:Int) _ hx (by omega) rfl).mono ?_;rintro e3 w3 ⟨v3,rfl,h3,hb3⟩;obtain⟨s3,A3,k3,c3,rfl⟩:=h3.form;replace R:=R.below hb3;replace cM:=R.g2;replace hb:=aB hb hb3;replace h3:NI w3 (.agg #[.bool s3,.slice A3 k3 c3]) ((Nat.gcd a0 b0:Nat):Int):=by rw[HR.out];exact h3
   go_wp2_with fail;obtain⟨W6,eW6,R,hb,hk,ff⟩:=R.mut2 hb (by omega) (.bool s3) (.slice A3 k3 c3) rfl rfl;replace h3:=h3.keep hk;rw[eW6];clear eW6;replace cM:=R.k2;exact bodyPost_ret (v:= .agg #[.bool s3,.slice A3 k3 c3]) (by simp[results,Tryz.results162,go_sem,R.k2]) rfl ⟨_,rfl,h3,hb⟩
  ·have hl:decide (0<l)=true:=by simp;omega
   have hm:a%b<b:=Nat.mod_lt _ (by omega);have hgc:Nat.gcd b (a%b)=Nat.gcd a0 b0:=by rw[←HGC.out,Nat.gcd_comm a b,Nat.gcd_rec b a,Nat.gcd_comm]
   have hln:nl (a%b)≤nl b:=aX (by omega);have HGC2:=Lib.hid hgc;have hdv:=fun W u v h1 h2=>G7 a b u v W h1 h2 (by omega) (by omega) (by omega);unfold yL at hdv;clear HGC hgc hk;obtain⟨g,rfl⟩:∃g,gk=g+1:=⟨gk-1,by have:=HG.out;omega⟩;generalize a%b=r at *;generalize a/b=qq at *;go_wp2_with fail;refine(hdv _ _ _ hx hy).mono ?_;rintro e3 w3 ⟨v3,u3,rfl,h3,i3,hb3⟩;obtain⟨D3,m3,d3,rfl⟩:=i3.form;clear hdv;go_wp2_with fail;go_roundg g
   case rel=>exact⟨b,r,B,l,d,D3,m3,d3,by have:=HG.out;unfold Hid;omega,rfl,rfl,hy.below hb3,i3,lb,by omega,HGC2,R.below hb3,aB hb hb3⟩
   case measure=>omega
def bl (t:Nat):Nat:=if t=0 then 0 else t.log2+1
theorem yJ {t:Nat} (h:t≠0):bl t=bl (t/2)+1:=by
 unfold bl;rw[if_neg h,Nat.log2_def];by_cases h1:2≤t
 ·rw[if_pos h1,if_neg (by omega)]
 ·rw[if_neg h1,if_pos (by omega)]
theorem S9 (k t:Nat) (h:t<2^k):bl t≤k:=by
 induction k generalizing t with
 |zero=>rw[show t=0 by simpa using h];exact Nat.le_refl _
 |succ k ih=>
  by_cases h0:t=0
  ·rw[h0];exact Nat.zero_le _
  ·rw[yJ h0];have:=ih (t/2) (by rw[Nat.pow_succ] at h;omega);omega
theorem G1 {t:Nat} (h:t≠0):1≤bl t∧(bl t=1↔t=1):=by
 rw[yJ h];refine⟨by omega,?_⟩;unfold bl;split<;>omega
def SC (w:World) (m:Nat) (e:Ending) (w':World):Prop:=∃b:Int,e= .returned (.int .i64 b)∧(1<b↔1<m)∧(b=1↔m=1)∧Below w.heap.size w w'
theorem G3 (x:Int) (vx:Value) (w:World) (hx:NI w vx x) (lx:nl x.natAbs≤549755813888):
  Calls Tryz.prog 163 #[vx] w (SC w x.natAbs):=by
 obtain⟨s,A,k,c,rfl⟩:=hx.form;obtain⟨hk,hk2⟩:=hx.words.len;have hb:Below w.heap.size w (w.alloc (.cells #[.bool s,.slice A k c] 94)):=(Below.refl _ _).alloc (Nat.le_refl _) _;obtain⟨X,hX,tX,hv⟩:=(hx.words).below hb;obtain⟨A',c',e,hc⟩:=hX.form;simp only[Value.slice.injEq] at e;obtain⟨rfl,rfl,rfl⟩:=e;by_cases h0:x.natAbs=0
 ·have hl:X.length=0:=hk.2 h0;rw[hl] at hx hb;rw[hl];have H0:=Lib.hid h0;clear hv hk h0 tX hX hc hk2 hl;go_enter Tryz.func163,Tryz.ntmps163;go_wp2_with fail;go_ret;exact⟨0,rfl,by have:=H0.out;omega,by have:=H0.out;omega,hb⟩
 ·have hl0:X.length≠0:=fun h=>h0 (hk.1 h);have q0:((X.length:Int)==0)=false:=by simpa using hl0
  obtain⟨p,hp⟩:∃p,X.length=p+1:=⟨X.length-1,by omega⟩;obtain⟨y,hy⟩:∃y,X[p]? =some y:=⟨_,List.getElem?_eq_getElem (by omega)⟩;have hy0:y≠0:=tX y (by rw[List.getLast?_eq_getElem?,hp];exact hy);have y32:=hX.dg y (List.mem_of_getElem? hy);obtain⟨b,rfl,hbl,g0⟩:=hX.at_ hy;obtain⟨hb1,hb2⟩:=G1 hy0;have hfin:(1<32*p+bl y↔1<x.natAbs)∧(32*p+bl y=1↔x.natAbs=1):=by
   have h1:=fM X p;rw[fH (by omega),eF hy,hv] at h1;rcases Nat.eq_zero_or_pos p with h|h
   ·subst h;have h2:x.natAbs=y:=by rw[h1];simp[nv]
    rw[h2];omega
   ·have h2:aC^1≤aC^p:=Nat.pow_le_pow_right jV h;have h3:aC^p*1≤aC^p*y:=Nat.mul_le_mul_left _ (by omega);unfold aC at h1 h2 h3;omega
  have HF:=Lib.hid hfin;have HP:=Lib.hid hp;have hix:((X.length:Int)-1)=(p:Int):=by omega
  have hp1:p<X.length:=by omega
  unfold aC at y32;clear hv hk h0 tX hX hfin hp hy hy0 hb1 hb2 hl0;go_enter Tryz.func163,Tryz.ntmps163;go_wp2_with fail;go_loopg [3,4] y (fun g n' t' wr=>∃(n t:Nat),Hid (t≤g)∧n'= .int .i64 (n:Int)∧t'= .int .u32 (t:Int)∧t<4294967296∧n≤35184372088832∧Hid (n+bl t=32*p+bl y)∧Below w.heap.size w wr)
  case atStart=>exact⟨32*p,y,Nat.le_refl _,by go_num,rfl,y32,by omega,rfl,hb⟩
  case round=>
   clear hb;obtain⟨n,t,HG,rfl,rfl,ht,hn,HB,hb⟩:=hrel;generalize wr=wx at *;by_cases h0:t=0
   ·subst h0;have hf:=HF.out;have he:=HB.out;rw[show bl 0=0 from rfl,Nat.add_zero] at he;rw[←he] at hf;have HF2:=Lib.hid hf;clear HB HF hf he HG;go_wp2_with fail;go_ret;have:=HF2.out;exact⟨n,rfl,by omega,by omega,hb⟩
   ·have hd:decide (0<t)=true:=by simp;omega
    have hs:=yJ h0;obtain⟨g,rfl⟩:∃g,gk=g+1:=⟨gk-1,by have:=HG.out;omega⟩;have HS:Hid (n+1+bl (t/2)=32*p+bl y):=by have:=HB.out;unfold Hid;omega
    have hn1:n+1≤35184372088832:=by have h1:=G1 h0;have h2:=HB.out;have h3:=S9 32 y (by omega);omega
    clear hs HB;go_wp2_with fail;go_roundg g
    case rel=>exact⟨n+1,t/2,by have:=HG.out;unfold Hid;omega,by go_num,oE (by omega),by omega,hn1,HS,hb⟩
    case measure=>omega
def S7 (w:World) (l:List UInt8) (e:Ending) (w':World):Prop:=∃v z,e= .returned (.tuple #[v,.bool (decide (l≠[]∧l.all aQ=true))])∧NI w' v z∧(l.all aQ=true→z=(aL l:Int))∧Below w.heap.size w w'
theorem Mg.one {w:World} {b f:Nat} (h:Bx w b [.int .u32 (f:Int)] 170) (h0:f≠0) (hf:f<4294967296):Mg w (.slice (some ⟨b,0,none⟩) 1 1) f:=
 ⟨[f],Ds.own (es:=[]) h (fun d hd=>by rw[List.mem_singleton.1 hd];exact hf) 1 (Nat.le_refl _),fun a ha=>by simp at ha;rw[←ha];exact h0,by simp[nv]⟩
theorem FY (l:List UInt8) (w:World) (hl:l.length≤1073741824):Calls Tryz.prog 119 #[.string ⟨l.toArray⟩] w (S7 w l):=by
 have hsz:(⟨l.toArray⟩:ByteArray).size=l.length:=by simp[ByteArray.size]
 obtain⟨W,eW,hb,R⟩:=bA w [.bool false,.slice none 0 0] 94;have cM:=R.g2;go_enter Tryz.func119,Tryz.ntmps119;go_wp2_with fail;(try rw[eW]);clear eW;go_loopg [4,5] l.length (fun g s4 s5 wr=>∃(m i:Nat),Hid (i+g=l.length)∧s5= .int .i64 (i:Int)∧Mg wr s4 m∧Hid (m=aL (l.take i))∧Hid ((l.take i).all aQ=true)∧Bx wr w.heap.size [.bool false,.slice none 0 0] 94∧Below w.heap.size w wr)
 case atStart=>exact⟨0,0,by unfold Hid;omega,rfl,Mg.zero _ _ _,rfl,rfl,R,hb⟩
 case round=>
  clear R hb cM;obtain⟨m,i,HJ,rfl,hm,HV,HA,R,hb⟩:=hrel;generalize wr=wx at *;have hi0:(0:Int)≤(i:Int):=by omega
  have cM:=R.g2;cases gk with
  |zero=>
   have hi:i=l.length:=HJ.out;subst hi;have hi1:¬(l.length:Int)<(l.length:Int):=by omega
   rw[List.take_length] at HV HA;obtain⟨A,k,c,rfl⟩:=hm.form;have hnl:nl m≤1099511627776:=by rw[HV.out];exact Nat.le_trans (mE (uJ HA.out)) (by omega)
   go_wp2_with fail;refine(pJ false _ m (m:Int) _ hm hnl rfl).mono ?_;rintro e3 w3 ⟨v3,rfl,h3,hb3⟩;obtain⟨s3,A3,k3,c3,rfl⟩:=h3.form;replace R:=R.below hb3;replace cM:=R.g2;replace hb:=aB hb hb3;have hq:decide (l≠[]∧l.all aQ=true)=decide (l≠[]):=by simp[HA.out]
   have HQ:=Lib.hid hq;clear hq;by_cases h0:l=[]
   ·have q0:(l != [])=false:=by simp[h0]
    have HQ2:Hid (decide (l≠[]∧l.all aQ=true)=false):=by unfold Hid;rw[HQ.out];simp[h0]
    have H0:=Lib.hid h0;clear h0 HQ;go_wp2_with fail;obtain⟨W6,eW6,R,hb,hk,ff⟩:=R.mut2 hb (by omega) (.bool s3) (.slice A3 k3 c3) rfl rfl;replace h3:=h3.keep hk;rw[eW6];clear eW6;replace cM:=R.k2;exact bodyPost_ret (v:= .tuple #[.agg #[.bool s3,.slice A3 k3 c3],.bool false]) (by simp[results,Tryz.results119,go_sem,R.k2];exact H0.out) rfl ⟨_,_,by rw[HQ2.out],h3,fun _=>by rw[HV.out],hb⟩
   ·have q0:(l != [])=true:=by simp[h0]
    have HQ2:Hid (decide (l≠[]∧l.all aQ=true)=true):=by unfold Hid;rw[HQ.out];simp[h0]
    have H0:=Lib.hid h0;clear h0 HQ;go_wp2_with fail;obtain⟨W6,eW6,R,hb,hk,ff⟩:=R.mut2 hb (by omega) (.bool s3) (.slice A3 k3 c3) rfl rfl;replace h3:=h3.keep hk;rw[eW6];clear eW6;replace cM:=R.k2;exact bodyPost_ret (v:= .tuple #[.agg #[.bool s3,.slice A3 k3 c3],.bool true]) (by simp[results,Tryz.results119,go_sem,R.k2];exact H0.out) rfl ⟨_,_,by rw[HQ2.out],h3,fun _=>by rw[HV.out],hb⟩
  |succ g=>
   have hi1:i<l.length:=by have:=HJ.out;omega
   go_wp2_with fail;go_loopg [5,6,7,8] 9 (fun b s5 s6 s7 s8 wy=>∃(v j:Nat),Hid (j+b=9)∧s5= .int .i64 ((i+j:Nat):Int)∧i+j≤l.length∧s6= .int .u32 (v:Int)∧s7= .int .u32 ((10^j:Nat):Int)∧s8= .int .i64 (j:Int)∧Hid (v=aL ((l.drop i).take j))∧Hid (((l.drop i).take j).all aQ=true)∧v<10^j∧wx=wy)
   case atStart=>exact⟨0,0,by unfold Hid;omega,rfl,by omega,rfl,rfl,rfl,rfl,rfl,by decide,rfl⟩
   case round=>
    obtain⟨v,j,HK,rfl,hij,rfl,rfl,rfl,HW,HB,hv,rfl⟩:=hrel;have hj0:(0:Int)≤(j:Int):=by omega
    by_cases hin:j<9∧i+j<l.length
    ·obtain⟨hj9,hil⟩:=hin;have r1:(j:Int)<9:=by omega
     have r2:((i+j:Nat):Int)<(l.length:Int):=by omega
     obtain⟨ch,hch,hcl⟩:∃ch,({ data:=l.toArray }:ByteArray)[i+j]'(by rw[hsz];exact hil)=ch∧l[i+j]? =some ch:=⟨_,rfl,by rw[List.getElem?_eq_getElem hil];rfl⟩;have hdr:(l.drop i)[j]? =some ch:=by rw[List.getElem?_drop];exact hcl
     have htk:(l.drop i).take (j+1)=(l.drop i).take j++[ch]:=by rw[List.take_add_one,hdr];rfl
     have HCL:=Lib.hid hcl;have HTK:=Lib.hid htk;clear hcl hdr htk;have c0:ch.toNat<256:=ch.toNat_lt;by_cases hd:48≤ch.toNat∧ch.toNat≤57
     ·obtain⟨d1,d2⟩:=hd;have s1:decide ((ch.toNat:Int)<48)=false:=by rw[decide_eq_false_iff_not];omega
      have s2:decide ((57:Int)<(ch.toNat:Int))=false:=by rw[decide_eq_false_iff_not];omega
      have hf8:10^j≤10^8:=Nat.pow_le_pow_right (by decide) (by omega);replace hf8:10^j≤100000000:=hf8;have hf0:0<10^j:=Nat.pow_pos (by decide);have hps:10^(j+1)=10^j*10:=Nat.pow_succ _ _;have HPS:=Lib.hid hps;have hw:v*10+(ch.toNat-48)=aL ((l.drop i).take (j+1)):=by rw[HTK.out,mF,←HW.out,Nat.mul_comm]
      have ha2:((l.drop i).take (j+1)).all aQ=true:=by rw[HTK.out,List.all_append,HB.out];simp[aQ];omega
      have HWA:=Lib.hid (And.intro hw ha2);obtain⟨b,rfl⟩:∃b,gk=b+1:=⟨gk-1,by have:=HK.out;omega⟩;clear hw ha2 hps;generalize 10^j=f at *;go_wp2_with fail;go_roundg b
      case rel=>exact⟨v*10+(ch.toNat-48),j+1,by have:=HK.out;unfold Hid;omega,by go_num,by omega,oE (by omega),oE (by rw[HPS.out];omega),by go_num,HWA.out.1,HWA.out.2,by rw[HPS.out];omega,rfl⟩
      case measure=>omega
     ·have hna:¬(l.all aQ=true):=fun h=>hd (by
       have:=List.all_eq_true.1 h ch (List.mem_of_getElem? HCL.out);simpa [aQ] using this)
      have HNA:=Lib.hid hna;have HQ2:Hid (decide (l≠[]∧l.all aQ=true)=false):=by unfold Hid;rw[decide_eq_false_iff_not];exact fun h=>hna h.2
      have hor:decide ((ch.toNat:Int)<48)=true∨decide ((ch.toNat:Int)<48)=false∧decide ((57:Int)<(ch.toNat:Int))=true:=by
       rcases Nat.lt_or_ge ch.toNat 48 with h|h
       ·exact .inl (by rw[decide_eq_true_iff];omega)
       ·exact .inr ⟨by rw[decide_eq_false_iff_not];omega,by rw[decide_eq_true_iff];omega⟩
      clear hna hd;rcases hor with s1|⟨s1,s2⟩
      all_goals (
       go_wp2_with fail;obtain⟨W6,eW6,R,hb,hk,ff⟩:=R.mut2 hb (by omega) (.bool false) (.slice none 0 0) rfl rfl;rw[eW6];clear eW6;replace cM:=R.k2;exact bodyPost_ret (v:= .tuple #[.agg #[.bool false,.slice none 0 0],.bool false]) (by simp[results,Tryz.results119,go_sem,R.k2]) rfl ⟨_,0,by rw[HQ2.out],NI.zero _,fun h=>absurd h HNA.out,hb⟩)
    ·have hor:j=9∨j<9∧i+j=l.length:=by have:=HK.out;omega
     have hp10:10^j≤10^9:=Nat.pow_le_pow_right (by decide) (by have:=HK.out;omega);have hp0:0<10^j:=Nat.pow_pos (by decide);have hj1:1≤j:=by omega
     clear hin;obtain⟨A,k,c,rfl⟩:=hm.form;have hnl:nl m≤1073741824:=by rw[HV.out];exact Nat.le_trans (mE (uJ HA.out)) (by rw[List.length_take];omega)
     have hval:aL (l.take (i+j))=m*10^j+v:=by
      rw[List.take_add,mW,←HV.out,←HW.out,List.length_take,List.length_drop,Nat.min_eq_left (by omega)]
     have hall:(l.take (i+j)).all aQ=true:=by rw[List.take_add,List.all_append,HA.out,HB.out];rfl
     have HVA:=Lib.hid (And.intro hval hall);clear hval hall;have hbd:10^j≤1000000000:=hp10;clear hp10;generalize 10^j=f at *;obtain⟨wa,ea,hA,FB⟩:=bA wx [.int .u32 (f:Int)] 170;have hmf:=Mg.one FB (by omega) (by omega);have hma:=hm.below hA;have hw1:f≤4294967295:=by omega
     have hw2:v≤4294967295:=by omega
     have hor2:¬(j:Int)<9∨(j:Int)<9∧¬((i+j:Nat):Int)<(l.length:Int):=by omega
     have hnf:nl f≤1:=bI (by unfold BN;omega);have hmu:=cJ m f;have hng:Hid (l.length-(i+j)<g+1∧i+j+(l.length-(i+j))=l.length):=by have:=HJ.out;unfold Hid;omega
     clear hor;rcases hor2 with r1|⟨r1,r2⟩
     all_goals (
      go_wp2_with fail;refine(GD m f _ _ _ hma hmf (by omega) (by omega)).mono ?_;rintro e1 w1 ⟨v1,rfl,h1,hb1⟩;obtain⟨A1,k1,c1,rfl⟩:=h1.form;obtain⟨wb,eb,hB,FV⟩:=bA w1 [.int .u32 (v:Int)] 170;have ht:=nB [v] w1.heap.size v 1 wb FV (fun d hd=>by rw[List.mem_singleton.1 hd];unfold aC;omega) (by simp[nv]) (Nat.le_refl _) (by simp);simp only[List.length_singleton] at ht;have h1b:=h1.below hB;have hnv:nl v≤1:=bI (by unfold BN;omega);have hbb:=(((aB hb hA).trans (hb1.mono (aB hb hA).size)));have hbc:=aB hbb hB;go_wp2_with fail;refine ht.mono ?_;rintro e2 w2 ⟨v2,rfl,h2,rfl⟩;go_wp2_with fail;refine(GG _ _ _ _ _ h1b h2 (by omega) (by omega)).mono ?_;rintro e3 w3 ⟨v3,rfl,h3,hb3⟩;go_wp2_with fail;go_roundg (l.length-(i+j))
      case rel=>exact⟨m*f+v,i+j,hng.out.2,by first|rfl|go_num,h3,HVA.out.1.symm,HVA.out.2,(((R.below hA).below hb1).below hB).below hb3,aB hbc hb3⟩
      case measure=>exact hng.out.1)
end Go.Proofs.YtlojjipfnejbnaaGreatDoor
