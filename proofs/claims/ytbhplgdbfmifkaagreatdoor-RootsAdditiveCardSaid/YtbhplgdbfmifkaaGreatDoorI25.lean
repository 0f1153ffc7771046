/-
  Contracts of functions that the statement reaches, and plain laws: RatE, PowA, RegA, NumA, NumB, NumC, NumD, NumE, NumF, NumG, NumN.
-/
import Derived.Test.YtbhplgdbfmifkaaGreatDoorI01
import Derived.Test.YtbhplgdbfmifkaaGreatDoorI05
import Derived.Test.YtbhplgdbfmifkaaGreatDoorI18
import Derived.Test.YtbhplgdbfmifkaaGreatDoorI19
import Derived.Deep.DeepCutAuto
import Derived.Deep.LoopGhost
set_option linter.unusedVariables false
set_option linter.unusedSimpArgs false
set_option maxHeartbeats 8000000
set_option maxRecDepth 100000
namespace Go.Proofs.YtbhplgdbfmifkaaGreatDoor
open Go.RowKit Sos
def PN (w:World) (o:Option Rat) (e:Ending) (w':World):Prop:=∃v,e= .returned (.tuple #[v,.bool o.isSome])∧RatAt w' v (o.getD 0)∧Below w.heap.size w w'
theorem PO {l:List UInt8} (h:dN l=none):aR l=none:=by unfold aR;rw[h]
theorem PR {l n:List UInt8} {neg:Bool} (h:dN l=some (neg,n,[])):aR l=some ((cW neg (aL n):Int):Rat):=by unfold aR;rw[h];simp
theorem ES {l n d:List UInt8} {neg:Bool} (h:dN l=some (neg,n,d)) (hd:d≠[]):aR l=if Nat.gcd (aL n) (aL d)=1 then some (mkRat (cW neg (aL n)) (aL d)) else none:=by
 unfold aR;rw[h];simp[hd]
theorem ET {x:Int} {n d:Nat} (h:x.natAbs=n) (hg:Nat.gcd n d=1) (hd:d≠0) (hd1:d≠1):(mkRat x d).num=x∧aS (mkRat x d)=d:=by
 have h1:(mkRat x d).num=x:=by rw[Rat.num_mkRat,if_neg hd,h,Nat.gcd_comm,hg];simp
 have h2:(mkRat x d).den=d:=by rw[Rat.den_mkRat,if_neg hd,h,Nat.gcd_comm,hg];simp
 exact⟨h1,by unfold aS;rw[h2,if_neg hd1]⟩
theorem PS {l n d:List UInt8} {neg:Bool} (h:l=g9 neg n d):n.length≤l.length∧d.length≤l.length:=by
 subst h;unfold g9;by_cases e:d=[]<;>simp[e]<;>omega
theorem EU (l:List UInt8) (w:World) (hG:Glob w) (hl:l.length≤1073741824):
  Calls Tryz.prog 77 #[.string ⟨l.toArray⟩] w (PN w (aR l)):=by
 have hsp:=fun W=>PV l W (by omega);obtain⟨W,eW,hb,R⟩:=bA w [.bool false,.slice none 0 0,.bool false,.slice none 0 0] 54;have cM:=R.g4;go_enter Tryz.func77,Tryz.ntmps77;go_wp2_with fail;(try rw[eW]);clear eW;refine(hsp _).mono ?_;rintro e1 w1 ⟨neg,n,d,ok,rfl,hok,hno,hb1⟩;clear hsp;replace R:=R.below hb1;replace cM:=R.g4;replace hb:=aB hb hb1;have R_c10:∀o0:Obj,(w1.alloc o0).cell? ⟨w.heap.size,0,none⟩=some (.bool false):=fun o0=>(R.alloc o0).cell 0 rfl;have R_g10:∀o0:Obj,(w1.alloc o0).frozen? ⟨w.heap.size,0,none⟩=false:=fun o0=>(R.alloc o0).free 0;have R_c11:∀o0:Obj,(w1.alloc o0).cell? ⟨w.heap.size,1,none⟩=some (.slice none 0 0):=fun o0=>(R.alloc o0).cell 1 rfl;have R_g11:∀o0:Obj,(w1.alloc o0).frozen? ⟨w.heap.size,1,none⟩=false:=fun o0=>(R.alloc o0).free 1;have R_c12:∀o0:Obj,(w1.alloc o0).cell? ⟨w.heap.size,2,none⟩=some (.bool false):=fun o0=>(R.alloc o0).cell 2 rfl;have R_g12:∀o0:Obj,(w1.alloc o0).frozen? ⟨w.heap.size,2,none⟩=false:=fun o0=>(R.alloc o0).free 2;have R_c13:∀o0:Obj,(w1.alloc o0).cell? ⟨w.heap.size,3,none⟩=some (.slice none 0 0):=fun o0=>(R.alloc o0).cell 3 rfl;have R_g13:∀o0:Obj,(w1.alloc o0).frozen? ⟨w.heap.size,3,none⟩=false:=fun o0=>(R.alloc o0).free 3;cases ok with
 |false=>
  have HRD:=Lib.hid (PO (hno rfl));clear hok hno;go_wp2_with fail;have R_l:=R.lt;have hsz_:=hb.size;obtain⟨U0,eU0,hA,F⟩:=bA w1 [.bool neg,.string ⟨n.toArray⟩,.string ⟨d.toArray⟩] 95;replace R:=R.below hA;replace hk:=Keep.below hA;replace hb:=aB hb hA;obtain⟨W6,eW6,R,hb,hk,ff⟩:=R.put4 hb (by omega) (.bool false) (.slice none 0 0) (.bool false) (.slice none 0 0) rfl rfl;replace F:=ff F (by omega);rw[eU0,eW6];clear eU0 eW6;replace cM:=aa R.k4 F.k3;exact bodyPost_ret (v:= .tuple #[.agg #[.bool false,.slice none 0 0,.bool false,.slice none 0 0],.bool false]) (by simp[results,Tryz.results77,go_sem,R.k4]) rfl ⟨_,by rw[HRD.out];rfl,by rw[HRD.out];exact RatAt.of (IntAt.zero _) (IntAt.zero _) rfl rfl,hb⟩
 |true=>
  have hs:=hok rfl;obtain⟨hp,hj⟩:=DK hs;obtain⟨hln,hld⟩:=PS hj;have hvn:=mE hp.n_digs;have hvd:=mE hp.d_digs;have hpn:=fun W=>BJ ⟨n.toArray⟩ W hp.n_digs (by simp[ByteArray.size];omega);have hpd:=fun W=>BJ ⟨d.toArray⟩ W hp.d_digs (by simp[ByteArray.size];omega);simp only[] at hpn hpd;have HS:=Lib.hid hs;have HP:=Lib.hid hp;clear hok hno hs hp hj;go_wp2_with fail;have R_l:=R.lt;have hsz_:=hb.size;obtain⟨w2,ew2,hA,F⟩:=bA w1 [.bool neg,.string ⟨n.toArray⟩,.string ⟨d.toArray⟩] 95;replace R:=R.below hA;replace hk:=Keep.below hA;replace hb:=aB hb hA;rw[ew2];clear ew2;replace cM:=aa R.g4 F.k3;refine(hpn _).mono ?_;rintro e3 w3 ⟨v3,rfl,h3,hb3⟩;obtain⟨s3,A3,k3,c3,rfl⟩:=h3.form;replace R:=R.below hb3;replace F:=F.below hb3;replace cM:=aa R.g4 F.k3;replace hb:=aB hb hb3;have R_c10:∀o0:Obj,(w3.alloc o0).cell? ⟨w.heap.size,0,none⟩=some (.bool false):=fun o0=>(R.alloc o0).cell 0 rfl;have R_g10:∀o0:Obj,(w3.alloc o0).frozen? ⟨w.heap.size,0,none⟩=false:=fun o0=>(R.alloc o0).free 0;have R_c11:∀o0:Obj,(w3.alloc o0).cell? ⟨w.heap.size,1,none⟩=some (.slice none 0 0):=fun o0=>(R.alloc o0).cell 1 rfl;have R_g11:∀o0:Obj,(w3.alloc o0).frozen? ⟨w.heap.size,1,none⟩=false:=fun o0=>(R.alloc o0).free 1;have R_c12:∀o0:Obj,(w3.alloc o0).cell? ⟨w.heap.size,2,none⟩=some (.bool false):=fun o0=>(R.alloc o0).cell 2 rfl;have R_g12:∀o0:Obj,(w3.alloc o0).frozen? ⟨w.heap.size,2,none⟩=false:=fun o0=>(R.alloc o0).free 2;have R_c13:∀o0:Obj,(w3.alloc o0).cell? ⟨w.heap.size,3,none⟩=some (.slice none 0 0):=fun o0=>(R.alloc o0).cell 3 rfl;have R_g13:∀o0:Obj,(w3.alloc o0).frozen? ⟨w.heap.size,3,none⟩=false:=fun o0=>(R.alloc o0).free 3;have F_c10:∀o0:Obj,(w3.alloc o0).cell? ⟨w1.heap.size,0,none⟩=some (.bool neg):=fun o0=>(F.alloc o0).cell 0 rfl;have F_g10:∀o0:Obj,(w3.alloc o0).frozen? ⟨w1.heap.size,0,none⟩=false:=fun o0=>(F.alloc o0).free 0;have F_c11:∀o0:Obj,(w3.alloc o0).cell? ⟨w1.heap.size,1,none⟩=some (.string ⟨n.toArray⟩):=fun o0=>(F.alloc o0).cell 1 rfl;have F_g11:∀o0:Obj,(w3.alloc o0).frozen? ⟨w1.heap.size,1,none⟩=false:=fun o0=>(F.alloc o0).free 1;have F_c12:∀o0:Obj,(w3.alloc o0).cell? ⟨w1.heap.size,2,none⟩=some (.string ⟨d.toArray⟩):=fun o0=>(F.alloc o0).cell 2 rfl;have F_g12:∀o0:Obj,(w3.alloc o0).frozen? ⟨w1.heap.size,2,none⟩=false:=fun o0=>(F.alloc o0).free 2;have hna:(cW neg (aL n)).natAbs=aL n:=oV _ _;have hfin:∀W v,d=[]→IntAt W v (cW neg (aL n))→aR l=some ((cW neg (aL n):Int):Rat):=fun _ _ h _=>PR (by rw[←h];exact HS.out);cases neg with
  |false=>
   have h3:IntAt w3 _ (cW false (aL n)):=h3;generalize hx:cW false (aL n)=x at *;by_cases hd:d=[]
   ·have q1:(d==[])=true:=by rw[hd];rfl
    have HRD:=Lib.hid (hfin _ _ hd h3);clear hfin hpd hpn HS HP hx;go_wp2_with fail;have R_l:=R.lt;have F_l:=F.lt;have hsz_:=hb.size;obtain⟨U0,eU0,hA,X⟩:=bA w3 [.bool s3,.slice A3 k3 c3,.bool false,.slice none 0 0] 54;replace R:=R.below hA;replace F:=F.below hA;replace hk:=Keep.below hA;replace hb:=aB hb hA;replace h3:=h3.keep hk;obtain⟨W6,eW6,R,hb,hk,ff⟩:=R.put4 hb (by omega) (.bool s3) (.slice A3 k3 c3) (.bool false) (.slice none 0 0) rfl rfl;replace F:=ff F (by omega);replace X:=ff X (by omega);replace h3:=h3.keep hk;rw[eU0,eW6];clear eU0 eW6;replace cM:=aa R.k4 (aa F.k3 X.k4);exact bodyPost_ret (v:= .tuple #[.agg #[.bool s3,.slice A3 k3 c3,.bool false,.slice none 0 0],.bool true]) (by simp[results,Tryz.results77,go_sem,R.k4]) rfl ⟨_,by rw[HRD.out];rfl,by rw[HRD.out];exact RatAt.of h3 (IntAt.zero _) rfl rfl,hb⟩
   ·have q1:(d==[])=false:=by simpa using hd
    have hrd:=ES HS.out hd;have hd0:=tG HP.out.d_digs hd HP.out.d_head;have hd1:aL d≠1:=fun e=>HP.out.d_one (by rw[←mX HP.out.d_digs hd (.inr HP.out.d_head),e,decDigits_one]);rw[hx] at hrd;have HRD0:=Lib.hid hrd;clear hfin hpn HS HP hrd hx;go_wp2_with fail;have R_l:=R.lt;have F_l:=F.lt;have hsz_:=hb.size;obtain⟨w4,ew4,hA,X⟩:=bA w3 [.bool s3,.slice A3 k3 c3,.bool false,.slice none 0 0] 54;replace R:=R.below hA;replace F:=F.below hA;replace hk:=Keep.below hA;replace hb:=aB hb hA;replace h3:=h3.keep hk;rw[ew4];clear ew4;replace cM:=aa R.g4 (aa F.k3 X.g4);refine(hpd _).mono ?_;rintro e5 w5 ⟨v5,rfl,h5,hb5⟩;obtain⟨s5,A5,k5,c5,rfl⟩:=h5.form;replace R:=R.below hb5;replace F:=F.below hb5;replace X:=X.below hb5;replace cM:=aa R.g4 (aa F.k3 X.g4);replace hk:=Keep.below hb5;replace h3:=h3.keep hk;replace hb:=aB hb hb5;have hgc:=fun W v u hG h1 h2=>mT x ((aL d:Nat):Int) v u W hG h1 h2 1073741824 (by rw[hna];omega) (by rw[Int.natAbs_natCast];omega) (by decide);rw[hna,Int.natAbs_natCast] at hgc;unfold bW at hgc;clear hpd;go_wp2_with fail;have R_l:=R.lt;have F_l:=F.lt;have X_l:=X.lt;have hsz_:=hb.size;obtain⟨U0,eU0,X,hb,hk,ff⟩:=X.put1 hb (by omega) 2 (.bool s5) rfl;replace R:=ff R (by omega);replace F:=ff F (by omega);replace h3:=h3.keep hk;replace h5:=h5.keep hk;obtain⟨w6,ew6,X,hb,hk,ff⟩:=X.put1 hb (by omega) 3 (.slice A5 k5 c5) rfl;replace R:=ff R (by omega);replace F:=ff F (by omega);replace h3:=h3.keep hk;replace h5:=h5.keep hk;rw[eU0,ew6];clear eU0 ew6;replace cM:=aa R.g4 (aa F.k3 X.g4);refine(hgc _ _ _ (hG.below hb) h3 h5).mono ?_;rintro e8 w8 ⟨v8,rfl,h8,hb8⟩;obtain⟨s8,A8,k8,c8,rfl⟩:=h8.form;replace R:=R.below hb8;replace F:=F.below hb8;replace X:=X.below hb8;replace cM:=aa R.g4 (aa F.k3 X.g4);replace hk:=Keep.below hb8;replace h3:=h3.keep hk;replace h5:=h5.keep hk;replace hb:=aB hb hb8;clear hgc;have hgb:nl (Nat.gcd (aL n) (aL d))≤1073741824:=by
     refine Nat.le_trans (aX (Nat.le_of_dvd (by omega) (Nat.gcd_dvd_right _ _))) (by omega)
    go_wp2_with fail;refine(jL _ _ _ h8 (by rw[Int.natAbs_natCast];omega)).mono ?_;rintro e9 w9 ⟨rfl,hb9⟩;replace R:=R.below hb9;replace F:=F.below hb9;replace X:=X.below hb9;replace cM:=aa R.g4 (aa F.k3 X.g4);replace hk:=Keep.below hb9;replace h3:=h3.keep hk;replace h5:=h5.keep hk;replace hb:=aB hb hb9;by_cases hg1:Nat.gcd (aL n) (aL d)=1
    ·have hdd:decide (((Nat.gcd (aL n) (aL d):Nat):Int)=1)=true:=by rw[decide_eq_true_iff];omega
     obtain⟨hq1,hq2⟩:=ET hna hg1 hd0 hd1;have hrd:=HRD0.out;rw[if_pos hg1] at hrd;have HRD:=Lib.hid hrd;rw[hdd];clear hdd hrd HRD0;go_wp2_with fail;have R_l:=R.lt;have F_l:=F.lt;have X_l:=X.lt;have hsz_:=hb.size;obtain⟨W6,eW6,R,hb,hk,ff⟩:=R.put4 hb (by omega) (.bool s3) (.slice A3 k3 c3) (.bool s5) (.slice A5 k5 c5) rfl rfl;replace F:=ff F (by omega);replace X:=ff X (by omega);replace h3:=h3.keep hk;replace h5:=h5.keep hk;rw[eW6];clear eW6;replace cM:=aa R.k4 (aa F.k3 X.k4);exact bodyPost_ret (v:= .tuple #[.agg #[.bool s3,.slice A3 k3 c3,.bool s5,.slice A5 k5 c5],.bool true]) (by simp[results,Tryz.results77,go_sem,R.k4]) rfl ⟨_,by rw[HRD.out];rfl,by rw[HRD.out];exact RatAt.of h3 h5 hq1 hq2,hb⟩
    ·have hdd:decide (((Nat.gcd (aL n) (aL d):Nat):Int)=1)=false:=by rw[decide_eq_false_iff_not];omega
     have hrd:=HRD0.out;rw[if_neg hg1] at hrd;have HRD:=Lib.hid hrd;rw[hdd];clear hdd hrd HRD0;go_wp2_with fail;have R_l:=R.lt;have F_l:=F.lt;have X_l:=X.lt;have hsz_:=hb.size;obtain⟨W6,eW6,R,hb,hk,ff⟩:=R.put4 hb (by omega) (.bool false) (.slice none 0 0) (.bool false) (.slice none 0 0) rfl rfl;replace F:=ff F (by omega);replace X:=ff X (by omega);rw[eW6];clear eW6;replace cM:=aa R.k4 (aa F.k3 X.k4);exact bodyPost_ret (v:= .tuple #[.agg #[.bool false,.slice none 0 0,.bool false,.slice none 0 0],.bool false]) (by simp[results,Tryz.results77,go_sem,R.k4]) rfl ⟨_,by rw[HRD.out];rfl,by rw[HRD.out];exact RatAt.of (IntAt.zero _) (IntAt.zero _) rfl rfl,hb⟩
  |true=>
   have h3:IntAt w3 _ ((aL n:Nat):Int):=h3;have hsn:cW true (aL n)= -((aL n:Nat):Int):=rfl;rw[hsn] at hfin hna;go_wp2_with fail;have R_l:=R.lt;have F_l:=F.lt;have hsz_:=hb.size;obtain⟨w4,ew4,hA,X⟩:=bA w3 [.bool s3,.slice A3 k3 c3,.bool false,.slice none 0 0] 54;replace R:=R.below hA;replace F:=F.below hA;replace hk:=Keep.below hA;replace hb:=aB hb hA;replace h3:=h3.keep hk;rw[ew4];clear ew4;replace cM:=aa R.g4 (aa F.k3 X.g4);refine(oK _ _ _ h3 (by simp;omega)).mono ?_;rintro e7 w7 ⟨v7,rfl,h7,hb7⟩;obtain⟨s7,A7,k7,c7,rfl⟩:=h7.form;replace R:=R.below hb7;replace F:=F.below hb7;replace X:=X.below hb7;replace cM:=aa R.g4 (aa F.k3 X.g4);replace hb:=aB hb hb7;generalize hx: -((aL n:Nat):Int)=x at *;by_cases hd:d=[]
   ·have q1:(d==[])=true:=by rw[hd];rfl
    have HRD:=Lib.hid (hfin _ _ hd h7);clear hfin hpd hpn HS HP hx hsn;go_wp2_with fail;have R_l:=R.lt;have F_l:=F.lt;have X_l:=X.lt;have hsz_:=hb.size;obtain⟨U0,eU0,X,hb,hk,ff⟩:=X.put1 hb (by omega) 0 (.bool s7) rfl;replace R:=ff R (by omega);replace F:=ff F (by omega);replace h7:=h7.keep hk;obtain⟨U1,eU1,X,hb,hk,ff⟩:=X.put1 hb (by omega) 1 (.slice A7 k7 c7) rfl;replace R:=ff R (by omega);replace F:=ff F (by omega);replace h7:=h7.keep hk;obtain⟨W6,eW6,R,hb,hk,ff⟩:=R.put4 hb (by omega) (.bool s7) (.slice A7 k7 c7) (.bool false) (.slice none 0 0) rfl rfl;replace F:=ff F (by omega);replace X:=ff X (by omega);replace h7:=h7.keep hk;rw[eU0,eU1,eW6];clear eU0 eU1 eW6;replace cM:=aa R.k4 (aa F.k3 X.k4);exact bodyPost_ret (v:= .tuple #[.agg #[.bool s7,.slice A7 k7 c7,.bool false,.slice none 0 0],.bool true]) (by simp[results,Tryz.results77,go_sem,R.k4]) rfl ⟨_,by rw[HRD.out];rfl,by rw[HRD.out];exact RatAt.of h7 (IntAt.zero _) rfl rfl,hb⟩
   ·have q1:(d==[])=false:=by simpa using hd
    have hrd:=ES HS.out hd;rw[hsn] at hrd;have hd0:=tG HP.out.d_digs hd HP.out.d_head;have hd1:aL d≠1:=fun e=>HP.out.d_one (by rw[←mX HP.out.d_digs hd (.inr HP.out.d_head),e,decDigits_one]);have HRD0:=Lib.hid hrd;clear hfin hpn HS HP hrd hx hsn h3;go_wp2_with fail;have h3:=h7;clear h7;have R_l:=R.lt;have F_l:=F.lt;have X_l:=X.lt;have hsz_:=hb.size;obtain⟨U0,eU0,X,hb,hk,ff⟩:=X.put1 hb (by omega) 0 (.bool s7) rfl;replace R:=ff R (by omega);replace F:=ff F (by omega);replace h3:=h3.keep hk;obtain⟨w4,ew4,X,hb,hk,ff⟩:=X.put1 hb (by omega) 1 (.slice A7 k7 c7) rfl;replace R:=ff R (by omega);replace F:=ff F (by omega);replace h3:=h3.keep hk;rw[eU0,ew4];clear eU0 ew4;replace cM:=aa R.g4 (aa F.k3 X.g4);refine(hpd _).mono ?_;rintro e5 w5 ⟨v5,rfl,h5,hb5⟩;obtain⟨s5,A5,k5,c5,rfl⟩:=h5.form;replace R:=R.below hb5;replace F:=F.below hb5;replace X:=X.below hb5;replace cM:=aa R.g4 (aa F.k3 X.g4);replace hk:=Keep.below hb5;replace h3:=h3.keep hk;replace hb:=aB hb hb5;have hgc:=fun W v u hG h1 h2=>mT x ((aL d:Nat):Int) v u W hG h1 h2 1073741824 (by rw[hna];omega) (by rw[Int.natAbs_natCast];omega) (by decide);rw[hna,Int.natAbs_natCast] at hgc;unfold bW at hgc;clear hpd;go_wp2_with fail;have R_l:=R.lt;have F_l:=F.lt;have X_l:=X.lt;have hsz_:=hb.size;obtain⟨U0,eU0,X,hb,hk,ff⟩:=X.put1 hb (by omega) 2 (.bool s5) rfl;replace R:=ff R (by omega);replace F:=ff F (by omega);replace h3:=h3.keep hk;replace h5:=h5.keep hk;obtain⟨w6,ew6,X,hb,hk,ff⟩:=X.put1 hb (by omega) 3 (.slice A5 k5 c5) rfl;replace R:=ff R (by omega);replace F:=ff F (by omega);replace h3:=h3.keep hk;replace h5:=h5.keep hk;rw[eU0,ew6];clear eU0 ew6;replace cM:=aa R.g4 (aa F.k3 X.g4);refine(hgc _ _ _ (hG.below hb) h3 h5).mono ?_;rintro e8 w8 ⟨v8,rfl,h8,hb8⟩;obtain⟨s8,A8,k8,c8,rfl⟩:=h8.form;replace R:=R.below hb8;replace F:=F.below hb8;replace X:=X.below hb8;replace cM:=aa R.g4 (aa F.k3 X.g4);replace hk:=Keep.below hb8;replace h3:=h3.keep hk;replace h5:=h5.keep hk;replace hb:=aB hb hb8;clear hgc;have hgb:nl (Nat.gcd (aL n) (aL d))≤1073741824:=by
     refine Nat.le_trans (aX (Nat.le_of_dvd (by omega) (Nat.gcd_dvd_right _ _))) (by omega)
    go_wp2_with fail;refine(jL _ _ _ h8 (by rw[Int.natAbs_natCast];omega)).mono ?_;rintro e9 w9 ⟨rfl,hb9⟩;replace R:=R.below hb9;replace F:=F.below hb9;replace X:=X.below hb9;replace cM:=aa R.g4 (aa F.k3 X.g4);replace hk:=Keep.below hb9;replace h3:=h3.keep hk;replace h5:=h5.keep hk;replace hb:=aB hb hb9;by_cases hg1:Nat.gcd (aL n) (aL d)=1
    ·have hdd:decide (((Nat.gcd (aL n) (aL d):Nat):Int)=1)=true:=by rw[decide_eq_true_iff];omega
     obtain⟨hq1,hq2⟩:=ET hna hg1 hd0 hd1;have hrd:=HRD0.out;rw[if_pos hg1] at hrd;have HRD:=Lib.hid hrd;rw[hdd];clear hdd hrd HRD0;go_wp2_with fail;have R_l:=R.lt;have F_l:=F.lt;have X_l:=X.lt;have hsz_:=hb.size;obtain⟨W6,eW6,R,hb,hk,ff⟩:=R.put4 hb (by omega) (.bool s7) (.slice A7 k7 c7) (.bool s5) (.slice A5 k5 c5) rfl rfl;replace F:=ff F (by omega);replace X:=ff X (by omega);replace h3:=h3.keep hk;replace h5:=h5.keep hk;rw[eW6];clear eW6;replace cM:=aa R.k4 (aa F.k3 X.k4);exact bodyPost_ret (v:= .tuple #[.agg #[.bool s7,.slice A7 k7 c7,.bool s5,.slice A5 k5 c5],.bool true]) (by simp[results,Tryz.results77,go_sem,R.k4]) rfl ⟨_,by rw[HRD.out];rfl,by rw[HRD.out];exact RatAt.of h3 h5 hq1 hq2,hb⟩
    ·have hdd:decide (((Nat.gcd (aL n) (aL d):Nat):Int)=1)=false:=by rw[decide_eq_false_iff_not];omega
     have hrd:=HRD0.out;rw[if_neg hg1] at hrd;have HRD:=Lib.hid hrd;rw[hdd];clear hdd hrd HRD0;go_wp2_with fail;have R_l:=R.lt;have F_l:=F.lt;have X_l:=X.lt;have hsz_:=hb.size;obtain⟨W6,eW6,R,hb,hk,ff⟩:=R.put4 hb (by omega) (.bool false) (.slice none 0 0) (.bool false) (.slice none 0 0) rfl rfl;replace F:=ff F (by omega);replace X:=ff X (by omega);rw[eW6];clear eW6;replace cM:=aa R.k4 (aa F.k3 X.k4);exact bodyPost_ret (v:= .tuple #[.agg #[.bool false,.slice none 0 0,.bool false,.slice none 0 0],.bool false]) (by simp[results,Tryz.results77,go_sem,R.k4]) rfl ⟨_,by rw[HRD.out];rfl,by rw[HRD.out];exact RatAt.of (IntAt.zero _) (IntAt.zero _) rfl rfl,hb⟩
section
variable {w w' w1 w2:World} {g g':Nat} {m n n':Int} {s:Bool} {A:Option Addr} {l c:Nat}
theorem ua {o:Obj} (h:Below w.heap.size w w'):Below w.heap.size w (w'.alloc o):=h.alloc h.size o
theorem ud (h:Below w.heap.size w w'):Below w.heap.size w w'.drew:=h.drew
theorem ut (h:Below w.heap.size w w1) (k:Below w1.heap.size w1 w2):Below w.heap.size w w2:=aB h k
theorem us {o:Nat} {v:Value} (h:Below w.heap.size w w') (hg:w.heap.size≤g):Below w.heap.size w (w'.setCell ⟨g,o,none⟩ v):=h.setCell (p:=⟨g,o,none⟩) hg v
theorem B8 (h:IntAt w (.agg #[.bool s,.slice A l c]) n) (hg:w.heap.size=g):IntBx (w.alloc (.cells #[.bool s,.slice A l c] 50)) g n:=
 ⟨_,_,_,_,Bx.newAt w [.bool s,.slice A l c] 50 g hg,h.keep (Keep.alloc _ _)⟩
theorem rM (h:IntAt w (.agg #[.bool s,.slice A l c]) n):IntBx (w.alloc (.cells #[.bool s,.slice A l c] 50)) w.heap.size n:=B8 h rfl
theorem J6 {o:Obj} (h:IntAt (w.alloc o) (.agg #[.bool s,.slice A l c]) n):IntBx ((w.alloc o).alloc (.cells #[.bool s,.slice A l c] 50)) (w.heap.size+1) n:=B8 h (World.size_alloc _ _)
theorem rN {o:Obj} (h:IntBx w g n):IntBx (w.alloc o) g n:=h.below ((Below.refl _ _).alloc (Nat.le_refl _) _)
theorem rO (h:IntBx w g m) (hn:IntAt w (.agg #[.bool s,.slice A l c]) n):IntBx ((w.setCell ⟨g,0,none⟩ (.bool s)).setCell ⟨g,1,none⟩ (.slice A l c)) g n:=(h.stored hn).1
theorem uW (h':IntBx w g' m) (hn:IntAt w (.agg #[.bool s,.slice A l c]) n') (hne:g≠g') (h:IntBx w g n):IntBx ((w.setCell ⟨g',0,none⟩ (.bool s)).setCell ⟨g',1,none⟩ (.slice A l c)) g n:=h.step (h'.stored hn).2 hne
theorem zb (D:Bx w g [.bool false,.slice none 0 0] 50):IntBx w g 0:=⟨_,_,_,_,D,IntAt.zero _⟩
theorem rP {W0:World} (h:IntAt w (.agg #[.bool s,.slice A l c]) n) (hB:Below W0.heap.size W0 w):IntBx (w.alloc (.cells #[.bool s,.slice A l c] 50)) w.heap.size n∧Below W0.heap.size W0 (w.alloc (.cells #[.bool s,.slice A l c] 50)):=⟨rM h,ua hB⟩
theorem jI {W0:World} (I:IntBx w g m) (h:IntAt w (.agg #[.bool s,.slice A l c]) n) (hB:Below W0.heap.size W0 w) (hl:W0.heap.size≤g):
  IntBx ((w.setCell ⟨g,0,none⟩ (.bool s)).setCell ⟨g,1,none⟩ (.slice A l c)) g n∧Below W0.heap.size W0 ((w.setCell ⟨g,0,none⟩ (.bool s)).setCell ⟨g,1,none⟩ (.slice A l c)):=⟨rO I h,us (us hB hl) hl⟩
theorem J7 {v:Value} (h':IntBx w g' m) (hn:IntAt w (.agg #[.bool s,.slice A l c]) n') (h:IntAt w v n):IntAt ((w.setCell ⟨g',0,none⟩ (.bool s)).setCell ⟨g',1,none⟩ (.slice A l c)) v n:=h.keep (h'.stored hn).2.1
theorem bE {W0:World} {m':Int} {s':Bool} {A':Option Addr} {l' c':Nat} (I:IntBx w g m) (J:IntBx w g' m') (h:IntAt w (.agg #[.bool s,.slice A l c]) n) (k:IntAt w (.agg #[.bool s',.slice A' l' c']) n') (hne:g≠g') (hB:Below W0.heap.size W0 w) (hl:W0.heap.size≤g) (hl':W0.heap.size≤g'):
  IntBx ((((w.setCell ⟨g,0,none⟩ (.bool s)).setCell ⟨g,1,none⟩ (.slice A l c)).setCell ⟨g',0,none⟩ (.bool s')).setCell ⟨g',1,none⟩ (.slice A' l' c')) g n∧
  IntBx ((((w.setCell ⟨g,0,none⟩ (.bool s)).setCell ⟨g,1,none⟩ (.slice A l c)).setCell ⟨g',0,none⟩ (.bool s')).setCell ⟨g',1,none⟩ (.slice A' l' c')) g' n'∧
  Below W0.heap.size W0 ((((w.setCell ⟨g,0,none⟩ (.bool s)).setCell ⟨g,1,none⟩ (.slice A l c)).setCell ⟨g',0,none⟩ (.bool s')).setCell ⟨g',1,none⟩ (.slice A' l' c')):=by
 have a:=rO I h;have b:=uW I h (fun e=>hne e.symm) J;have c:=J7 I h k;exact⟨uW b c hne a,rO b c,us (us (us (us hB hl) hl) hl') hl'⟩
theorem rQ {W0:World} {s':Bool} {A':Option Addr} {l' c':Nat} (h:IntAt w (.agg #[.bool s,.slice A l c]) n) (k:IntAt w (.agg #[.bool s',.slice A' l' c']) n') (hB:Below W0.heap.size W0 w):
  IntBx ((w.alloc (.cells #[.bool s,.slice A l c] 50)).alloc (.cells #[.bool s',.slice A' l' c'] 50)) w.heap.size n∧
  IntBx ((w.alloc (.cells #[.bool s,.slice A l c] 50)).alloc (.cells #[.bool s',.slice A' l' c'] 50)) (w.heap.size+1) n'∧
  Below W0.heap.size W0 ((w.alloc (.cells #[.bool s,.slice A l c] 50)).alloc (.cells #[.bool s',.slice A' l' c'] 50)):=
 ⟨rN (rM h),J6 (k.keep (Keep.alloc _ _)),ua (ua hB)⟩
theorem uX {W0:World} {s':Bool} {A':Option Addr} {l' c':Nat} (h:IntAt w (.agg #[.bool s,.slice A l c]) n) (k:IntAt w (.agg #[.bool s',.slice A' l' c']) n') (hB:Below W0.heap.size W0 w):
  IntBx ((w.alloc (.cells #[.bool s',.slice A' l' c'] 50)).alloc (.cells #[.bool s,.slice A l c] 50)) (w.heap.size+1) n∧
  IntBx ((w.alloc (.cells #[.bool s',.slice A' l' c'] 50)).alloc (.cells #[.bool s,.slice A l c] 50)) w.heap.size n'∧
  Below W0.heap.size W0 ((w.alloc (.cells #[.bool s',.slice A' l' c'] 50)).alloc (.cells #[.bool s,.slice A l c] 50)):=by
 obtain⟨a,b,c⟩:=rQ k h hB;exact⟨b,a,c⟩
theorem iQ {W0:World} {s':Bool} {A':Option Addr} {l' c':Nat} (h:IntAt w (.agg #[.bool s,.slice A l c]) n) (k:IntAt w (.agg #[.bool s',.slice A' l' c']) n') (J:IntBx w g' m) (hB:Below W0.heap.size W0 w) (hl:W0.heap.size≤g'):
  IntBx (((w.alloc (.cells #[.bool s,.slice A l c] 50)).setCell ⟨g',0,none⟩ (.bool s')).setCell ⟨g',1,none⟩ (.slice A' l' c')) w.heap.size n∧
  IntBx (((w.alloc (.cells #[.bool s,.slice A l c] 50)).setCell ⟨g',0,none⟩ (.bool s')).setCell ⟨g',1,none⟩ (.slice A' l' c')) g' n'∧
  Below W0.heap.size W0 (((w.alloc (.cells #[.bool s,.slice A l c] 50)).setCell ⟨g',0,none⟩ (.bool s')).setCell ⟨g',1,none⟩ (.slice A' l' c')):=
 ⟨uW (rN J) (k.keep (Keep.alloc _ _)) (by have:=J.lt;omega) (rM h),rO (rN J) (k.keep (Keep.alloc _ _)),us (us (ua hB) hl) hl⟩
theorem iR {W0:World} {s':Bool} {A':Option Addr} {l' c':Nat} (I:IntBx w g m) (h:IntAt w (.agg #[.bool s,.slice A l c]) n) (k:IntAt w (.agg #[.bool s',.slice A' l' c']) n') (hB:Below W0.heap.size W0 w) (hl:W0.heap.size≤g):
  IntBx (((((w.alloc (.cells #[.bool false,.slice none 0 0] 50)).setCell ⟨g,0,none⟩ (.bool s)).setCell ⟨g,1,none⟩ (.slice A l c)).setCell ⟨w.heap.size,0,none⟩ (.bool s')).setCell ⟨w.heap.size,1,none⟩ (.slice A' l' c')) g n∧
  IntBx (((((w.alloc (.cells #[.bool false,.slice none 0 0] 50)).setCell ⟨g,0,none⟩ (.bool s)).setCell ⟨g,1,none⟩ (.slice A l c)).setCell ⟨w.heap.size,0,none⟩ (.bool s')).setCell ⟨w.heap.size,1,none⟩ (.slice A' l' c')) w.heap.size n'∧
  Below W0.heap.size W0 (((((w.alloc (.cells #[.bool false,.slice none 0 0] 50)).setCell ⟨g,0,none⟩ (.bool s)).setCell ⟨g,1,none⟩ (.slice A l c)).setCell ⟨w.heap.size,0,none⟩ (.bool s')).setCell ⟨w.heap.size,1,none⟩ (.slice A' l' c')):=
 bE (rN I) (rM (IntAt.zero _)) (h.keep (Keep.alloc _ _)) (k.keep (Keep.alloc _ _)) (by have:=I.lt;omega) (ua hB) hl hB.size
end
def U (ds:List Nat):List Value:=ds.map (fun d:Nat=>Value.int .u32 (d:Int))
theorem gZ {ds:List Nat} {i d:Nat} (h:ds[i]? =some d):(U ds)[i]? =some (.int .u32 (d:Int)):=by unfold U;rw[List.getElem?_map,h];rfl
theorem SJ (ds:List Nat) (i x:Nat):(U ds).set i (.int .u32 (x:Int))=U (ds.set i x):=by unfold U;rw[List.map_set]
def Ds (w:World) (v:Value) (ds:List Nat):Prop:=∃A c,v= .slice A ds.length c∧ds.length≤c∧Dg ds∧(ds=[]∨∃b,A=some ⟨b,0,none⟩∧b<w.heap.size∧∀(i d:Nat),ds[i]? =some d→w.cell? ⟨b,i,none⟩=some (.int .u32 (d:Int)))
def Mg (w:World) (v:Value) (n:Nat):Prop:=∃ds,Ds w v ds∧aN ds∧nv ds=n
section
variable {w w':World} {v:Value} {ds:List Nat}
theorem Ds.form (h:Ds w v ds):∃A c,v= .slice A ds.length c∧ds.length≤c:=by
 obtain⟨A,c,hv,hc,_⟩:=h;exact⟨A,c,hv,hc⟩
theorem Ds.dg (h:Ds w v ds):Dg ds:=by
 obtain⟨A,c,hv,hc,hd,_⟩:=h;exact hd
theorem Ds.cap {A:Option Addr} {l c:Nat} (h:Ds w (.slice A l c) ds):ds.length≤c:=by
 obtain⟨A,c,e,hc,_⟩:=h;simp only[Value.slice.injEq] at e;omega
theorem Ds.nil (w:World) (A:Option Addr) (c:Nat):Ds w (.slice A 0 c) []:=⟨A,c,rfl,Nat.zero_le _,(fun d hd=>by cases hd),.inl rfl⟩
theorem Ds.below (h:Ds w v ds) (hb:Below w.heap.size w w'):Ds w' v ds:=by
 obtain⟨A,c,hv,hc,hd,h⟩:=h;refine⟨A,c,hv,hc,hd,?_⟩;rcases h with h|⟨b,e,hl,hB⟩
 ·exact .inl h
 ·exact .inr ⟨b,e,Nat.lt_of_lt_of_le hl hb.size,fun i d hi=>(hb.cell (p:=⟨b,i,none⟩) hl).trans (hB i d hi)⟩
theorem Ds.at_ {A:Option Addr} {l c i d:Nat} (h:Ds w (.slice A l c) ds) (hi:ds[i]? =some d):∃b,A=some ⟨b,0,none⟩∧b<w.heap.size∧w.cell? ⟨b,i,none⟩=some (.int .u32 (d:Int)):=by
 obtain⟨A',c',e,hc,hd,h⟩:=h;simp only[Value.slice.injEq] at e;obtain⟨rfl,rfl,rfl⟩:=e;rcases h with h|⟨b,e,hl,hB⟩
 ·rw[h] at hi;simp at hi
 ·exact⟨b,e,hl,hB i d hi⟩
theorem Ds.cut {A:Option Addr} {l c:Nat} (h:Ds w (.slice A l c) ds) (k:Nat) (hk:k≤ds.length):Ds w (.slice A k c) (ds.take k):=by
 obtain⟨A',c',e,hc,hd,h⟩:=h;simp only[Value.slice.injEq] at e;obtain⟨rfl,rfl,rfl⟩:=e;refine⟨A,c,by rw[List.length_take,Nat.min_eq_left hk],by rw[List.length_take];omega,hd.take k,?_⟩;rcases h with h|⟨b,e,hl,hB⟩
 ·left;rw[h];simp
 ·refine .inr ⟨b,e,hl,fun i d hi=>hB i d ?_⟩;rw[List.getElem?_take] at hi;split at hi
  ·exact hi
  ·cases hi
theorem Ds.own {b:Nat} {es:List Nat} (h:Bx w b (U (ds++es)) 192) (hd:Dg ds) (c:Nat) (hc:ds.length≤c):Ds w (.slice (some ⟨b,0,none⟩) ds.length c) ds:=
 ⟨_,c,rfl,hc,hd,.inr ⟨b,rfl,h.lt,fun i d hi=>h.cell i (gZ (by rw[List.getElem?_append_left (List.getElem?_eq_some_iff.1 hi).1];exact hi))⟩⟩
theorem Mg.below {n:Nat} (h:Mg w v n) (hb:Below w.heap.size w w'):Mg w' v n:=by
 obtain⟨ds,h1,h2,h3⟩:=h;exact⟨ds,h1.below hb,h2,h3⟩
theorem Mg.drew {n:Nat} (h:Mg w v n):Mg w.drew v n:=h.below (Below.refl _ _).drew
theorem Mg.form {n:Nat} (h:Mg w v n):∃A l c,v= .slice A l c:=by
 obtain⟨ds,h1,h2,h3⟩:=h;obtain⟨A,c,hv,_⟩:=h1.form;exact⟨A,_,c,hv⟩
theorem Mg.zero (w:World) (A:Option Addr) (c:Nat):Mg w (.slice A 0 c) 0:=⟨[],Ds.nil w A c,(fun a h=>by simp at h),rfl⟩
end
theorem Bx.zeros {w:World} {b n:Nat} (h:Rw w b 1 (List.replicate n [Value.int .u32 0]) 192):Bx w b (U (List.replicate n 0)) 192:=by
 have e:(List.replicate n [Value.int .u32 0]).flatten=U (List.replicate n 0):=by
  unfold U;clear h;induction n with
  |zero=>rfl
  |succ n ih=>rw[List.replicate_succ,List.flatten_cons,ih];rfl
 have:=h.1;rwa [e] at this
theorem Bx.mid {w:World} {b i x:Nat} {P Q:List Nat} (h:Bx w b (U (P++x :: Q)) 192) (hP:P.length=i):w.cell? ⟨b,i,none⟩=some (.int .u32 (x:Int)):=h.cell i (gZ (yQ hP))
theorem Bx.next {w:World} {b i x y:Nat} {P Q:List Nat} {v:Value} (h:Bx w b (U (P++x :: Q)) 192) (hP:P.length=i) (hv:v= .int .u32 (y:Int)):Bx (w.setCell ⟨b,i,none⟩ v) b (U ((P++[y])++Q)) 192:=by
 subst hv;have:=h.set i (.int .u32 (y:Int));rwa [SJ,SM hP] at this
theorem Bx.last {w:World} {b k:Nat} {Q:List Nat} (h:Bx w b (U (List.replicate (k+1) 0++Q)) 192):w.cell? ⟨b,k,none⟩=some (.int .u32 ((0:Nat):Int)):=by
 rw[List.replicate_succ',List.append_assoc] at h;exact h.mid List.length_replicate
theorem Ds.src {w:World} {A:Option Addr} {l c:Nat} {ds:List Nat} (h:Ds w (.slice A l c) ds):Src w A (U ds):=by
 obtain⟨A',c',e,hc,hd,h⟩:=h;simp only[Value.slice.injEq] at e;obtain⟨rfl,rfl,rfl⟩:=e;rcases h with h|⟨b,e,hl,hB⟩
 ·exact .inl (by rw[h];rfl)
 ·refine .inr ⟨b,0,e,fun i u hu=> ?_⟩;unfold U at hu;rw[List.getElem?_map] at hu;cases hd:ds[i]? with
  |none=>rw[hd] at hu;cases hu
  |some d=>
   rw[hd] at hu;injection hu with hu;rw[Nat.zero_add,hB i d hd,←hu]
theorem Ds.row {w:World} {B n:Nat} {v:Value} {ds:List Nat} (h:w.ownsRow B 192 1 v n (U ds)) (hn:ds.length=n) (hd:Dg ds):Ds w v ds:=by
 subst hn;rcases h.2 with ⟨rfl,h0⟩|⟨g,cap,cur,rfl,hb,hh,hn,_,hs,ht⟩
 ·obtain rfl:=List.eq_nil_of_length_eq_zero h0;exact Ds.nil _ _ _
 ·refine⟨_,cap,rfl,hn,hd,.inr ⟨g,rfl,(Array.getElem?_eq_some_iff.1 hh).1,fun i d hi=> ?_⟩⟩;rw[cell_of_row w g i cur _ (0,0) hh,←Array.getElem?_toList];have h1:=gZ hi;rw[←ht,List.getElem?_take] at h1;split at h1
  ·exact h1
  ·cases h1
theorem iO {ds:List Nat} {n:Nat} (ht:aN ds) (hn:nv ds=n):ds.length≤2*nl n:=by
 by_cases h0:ds=[]
 ·rw[h0];exact Nat.zero_le _
 ·have h1:=yW ht h0;have h2:=bX n;have h3:BN^nl n=aC^(2*nl n):=by rw[Nat.pow_mul];rfl
  rw[hn] at h1;rw[h3] at h2;have:=(Nat.pow_lt_pow_iff_right (a:=aC) (by decide)).1 (Nat.lt_of_le_of_lt h1 h2);omega
def KM (w w':World):Prop:=w.heap.size≤w'.heap.size∧∀p k x,w.cell? p=some (Value.int k x)→w'.cell? p=some (Value.int k x)
section
variable {w w' W:World} {b B:Nat} {t:TypeId} {cs:List Value}
theorem KM.trans {a b c:World} (h:KM a b) (k:KM b c):KM a c:=⟨Nat.le_trans h.1 k.1,fun p i x hp=>k.2 p i x (h.2 p i x hp)⟩
theorem KM.below (hb:Below w.heap.size w w'):KM w w':=⟨hb.size,fun p k x h=>(hb.cell (block_lt_of_cell h)).trans h⟩
theorem Mg.keep {v:Value} {n:Nat} (h:Mg w v n) (hk:KM w w'):Mg w' v n:=by
 obtain⟨ds,⟨A,c,hv,hc,hd,h⟩,h2,h3⟩:=h;refine⟨ds,⟨A,c,hv,hc,hd,?_⟩,h2,h3⟩;rcases h with h|⟨b,e,hl,hB⟩
 ·exact .inl h
 ·exact .inr ⟨b,e,Nat.lt_of_lt_of_le hl hk.1,fun i d hi=>hk.2 _ _ _ (hB i d hi)⟩
end
def oD:Code→List Code
 | .loop c=>[c]
 | .seq a b=>oD a++oD b
 | .block _ c=>oD c
 | .scope c=>oD c
 | .cond _ a b=>oD a++oD b
 |_=>[]
noncomputable def dvBody:Code:=((Tryz.f198.body.map oD).getD []).getD 1 .skip
def NI (w:World) (v:Value) (n:Int):Prop:=∃u,v= .agg #[.bool (decide (n<0)),u]∧Mg w u n.natAbs
section
variable {w w':World} {v u:Value} {n:Int} {s:Bool}
theorem NI.below (h:NI w v n) (hb:Below w.heap.size w w'):NI w' v n:=by
 obtain⟨u,e,h⟩:=h;exact⟨u,e,h.below hb⟩
theorem NI.keep (h:NI w v n) (hk:KM w w'):NI w' v n:=by
 obtain⟨u,e,h⟩:=h;exact⟨u,e,h.keep hk⟩
theorem NI.drew (h:NI w v n):NI w.drew v n:=h.below (Below.refl _ _).drew
theorem NI.form (h:NI w v n):∃s A k c,v= .agg #[.bool s,.slice A k c]:=by
 obtain⟨u,rfl,h⟩:=h;obtain⟨A,k,c,rfl⟩:=h.form;exact⟨_,A,k,c,rfl⟩
theorem NI.words (h:NI w (.agg #[.bool s,u]) n):Mg w u n.natAbs:=by
 obtain⟨u,e,h⟩:=h;simp at e;rw[e.2];exact h
theorem NI.neg (h:NI w (.agg #[.bool s,u]) n):s=decide (n<0):=by
 obtain⟨u,e,h⟩:=h;simp at e;exact e.1
theorem NI.zero (w:World):NI w (.agg #[.bool false,.slice none 0 0]) 0:=⟨_,rfl,Mg.zero _ _ _⟩
theorem Mg.len {A:Option Addr} {k c m:Nat} (h:Mg w (.slice A k c) m):(k=0↔m=0)∧k≤2*nl m:=by
 obtain⟨ds,h1,h2,h3⟩:=h;obtain⟨A',c',e,_⟩:=h1.form;simp only[Value.slice.injEq] at e;obtain⟨_,rfl,_⟩:=e;refine⟨⟨fun h=> ?_,fun h=> ?_⟩,iO h2 h3⟩
 ·rw[List.eq_nil_of_length_eq_zero h] at h3;exact h3.symm
 ·rw[TE h2 (h3.trans h)];rfl
end
def bl (t:Nat):Nat:=if t=0 then 0 else t.log2+1
theorem Mg.one {w:World} {b f:Nat} (h:Bx w b [.int .u32 (f:Int)] 192) (h0:f≠0) (hf:f<4294967296):Mg w (.slice (some ⟨b,0,none⟩) 1 1) f:=
 ⟨[f],Ds.own (es:=[]) h (fun d hd=>by rw[List.mem_singleton.1 hd];exact hf) 1 (Nat.le_refl _),fun a ha=>by simp at ha;rw[←ha];exact h0,by simp[nv]⟩
end Go.Proofs.YtbhplgdbfmifkaaGreatDoor
