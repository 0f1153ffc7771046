/-
  Contracts of functions that the statement reaches, and plain laws: NumH, NumI, RatV.
-/
import Derived.Test.YtbhplgdbfmifkaaGreatDoorI19
import Derived.Test.YtbhplgdbfmifkaaGreatDoorI25
import Derived.Test.YtbhplgdbfmifkaaGreatDoorI28
set_option linter.unusedVariables false
set_option linter.unusedSimpArgs false
set_option maxHeartbeats 8000000
set_option maxRecDepth 100000
namespace Go.Proofs.YtbhplgdbfmifkaaGreatDoor
open Go.RowKit Sos
def NQ (w:World) (v:Value) (q:Rat):Prop:=∃s u s' u',v= .agg #[.bool s,u,.bool s',u']∧NI w (.agg #[.bool s,u]) q.num∧NI w (.agg #[.bool s',u']) (aS q)
section
variable {w w':World} {v:Value} {q:Rat}
theorem NQ.below (h:NQ w v q) (hb:Below w.heap.size w w'):NQ w' v q:=by
 obtain⟨s,u,s',u',e,h1,h2⟩:=h;exact⟨s,u,s',u',e,h1.below hb,h2.below hb⟩
theorem NQ.keep (h:NQ w v q) (hk:KM w w'):NQ w' v q:=by
 obtain⟨s,u,s',u',e,h1,h2⟩:=h;exact⟨s,u,s',u',e,h1.keep hk,h2.keep hk⟩
theorem NQ.drew (h:NQ w v q):NQ w.drew v q:=h.below (Below.refl _ _).drew
theorem NQ.form (h:NQ w v q):∃s A k c s' A' k' c',v= .agg #[.bool s,.slice A k c,.bool s',.slice A' k' c']:=by
 obtain⟨s,u,s',u',rfl,h1,h2⟩:=h;obtain⟨_,A,k,c,e⟩:=h1.form;obtain⟨_,A',k',c',e'⟩:=h2.form;simp at e e';rw[e.2,e'.2];exact⟨_,_,_,_,_,_,_,_,rfl⟩
theorem NQ.num {s s':Bool} {u u':Value} (h:NQ w (.agg #[.bool s,u,.bool s',u']) q):NI w (.agg #[.bool s,u]) q.num:=by
 obtain⟨_,_,_,_,e,h1,h2⟩:=h;simp at e;rw[e.1,e.2.1];exact h1
theorem NQ.den {s s':Bool} {u u':Value} (h:NQ w (.agg #[.bool s,u,.bool s',u']) q):NI w (.agg #[.bool s',u']) (aS q):=by
 obtain⟨_,_,_,_,e,h1,h2⟩:=h;simp at e;rw[e.2.2.1,e.2.2.2];exact h2
theorem NQ.of {s s':Bool} {u u':Value} {n d:Int} (h1:NI w (.agg #[.bool s,u]) n) (h2:NI w (.agg #[.bool s',u']) d) (e1:q.num=n) (e2:aS q=d):NQ w (.agg #[.bool s,u,.bool s',u']) q:=
 ⟨s,u,s',u',rfl,by rw[e1];exact h1,by rw[e2];exact h2⟩
theorem NQ.zero (w:World):NQ w (.agg #[.bool false,.slice none 0 0,.bool false,.slice none 0 0]) 0:=NQ.of (NI.zero w) (NI.zero w) rfl rfl
end
theorem pM (x:Rat):x=(x.num:Rat)/(x.den:Rat):=by rw[←Rat.mkRat_eq_div,Rat.mkRat_self]
theorem yY (x y:Rat):((x.num*y.num:Int):Rat)/(((x.den:Int)*(y.den:Int):Int):Rat)=x*y:=by
 conv=>rhs;rw[pM x,pM y]
 rw[Rat.intCast_mul,Rat.intCast_mul,Rat.intCast_natCast,Rat.intCast_natCast];grind
theorem NQ.len {w:World} {s s':Bool} {u:Value} {A:Option Addr} {k c:Nat} {q:Rat} (h:NQ w (.agg #[.bool s,u,.bool s',.slice A k c]) q):((k:Int)==0)=decide (q.den=1):=by
 have:=h.den.words.len.1;rw[Int.natAbs_eq_zero,dH] at this;by_cases h1:q.den=1
 ·rw[this.2 h1];simp[h1]
 ·have:k≠0:=fun e=>h1 (this.1 e);simp[h1,this]
def lE (l:List UInt8):Bool:=(aR l).isSome
theorem vL {l:List UInt8} (h:Digs l) (hl:l.length≤9):aL l<1000000000:=by
 have h1:=qE h;have h2:10^l.length≤10^9:=Nat.pow_le_pow_right (by decide) hl;have h3:10^9=1000000000:=rfl;omega
theorem YD {l:List UInt8} (h:Digs l) (k:Nat):Digs (l.take k):=fun c hc=>h c (List.mem_of_mem_take hc)
theorem YE (s:ByteArray) (w:World) (hd:Digs s.data.toList) (hl:s.size≤9):
  Calls Tryz.prog 102 #[.string s] w fun e w'=>e= .returned (.int .i64 (aL s.data.toList:Nat))∧w=w':=by
 have hls:s.data.toList.length=s.size:=by simp
 go_enter Tryz.func102,Tryz.ntmps102;go_wp2_with fail;go_loop [3,7] (fun v i=>∃k:Nat,k≤s.size∧i= .int .i64 k∧v= .int .i64 (aL (s.data.toList.take k):Nat)) (fun _ i=>s.size-(intOf i).toNat)
 case atStart=>exact⟨0,by omega,rfl,rfl⟩
 case round=>
  obtain⟨k,hk,rfl,rfl⟩:=hrel;have h0:(0:Int)≤(k:Int):=by omega
  have hcap:=vL (YD hd k) (by rw[List.length_take];omega);by_cases hlt:k<s.size
  ·have hlt':(k:Int)<(s.size:Int):=by omega
   have hg:s.data.toList[k]? =some s[k]:=by rw[List.getElem?_eq_getElem (by simpa using hlt)];rfl
   obtain⟨d1,d2⟩:=hd s[k] (List.mem_of_getElem? hg);have e1:(48:Int)≤(s[k].toNat:Int):=by omega
   have e2:(s[k].toNat:Int)≤57:=by omega
   have hst:aL (s.data.toList.take (k+1))=10*aL (s.data.toList.take k)+(s[k].toNat-48):=by
    rw[List.take_add_one,hg,Option.toList_some,mF]
   have HST:=Lib.hid hst;clear hg hst;generalize aL (s.data.toList.take k)=V at *;go_wp2_with fail;go_round
   case rel=>exact⟨k+1,by omega,by simp,by rw[HST.out];congr 1;omega⟩
   case measure=>simp[intOf];omega
  ·have hk':k=s.size:=by omega
   have hlt':¬(k:Int)<(s.size:Int):=by omega
   have HT:Hid (s.data.toList.take k=s.data.toList):=by unfold Hid;rw[hk'];exact List.take_of_length_le (by omega)
   clear hk';go_wp2_with fail;go_ret;rw[HT.out];exact⟨rfl,rfl⟩
theorem B7 (l:List UInt8) (w:World) (hd:Digs l) (hl:l.length≤9):Calls Tryz.prog 102 #[.string ⟨l.toArray⟩] w fun e w'=>e= .returned (.int .i64 (aL l:Nat))∧w=w':=
 YE ⟨l.toArray⟩ w hd (by simpa [ByteArray.size] using hl)
theorem YF (a b:Nat) (w:World) (ha:a<1000000000) (hb:b<1000000000):
  Calls Tryz.prog 103 #[.int .i64 a,.int .i64 b] w fun e w'=>e= .returned (.int .i64 (Nat.gcd a b:Nat))∧Below w.heap.size w w':=by
 go_enter Tryz.func103,Tryz.ntmps103;go_wp2_with fail;go_loopw [0,1] (fun u v wr=>∃x y:Nat,u= .int .i64 x∧v= .int .i64 y∧x<1000000000∧y<1000000000∧Hid (Nat.gcd x y=Nat.gcd a b)∧Below w.heap.size w wr) (fun _ v _=>(intOf v).toNat)
 case atStart=>exact⟨a,b,rfl,rfl,ha,hb,rfl,Below.refl _ _⟩
 case round=>
  obtain⟨x,y,rfl,rfl,hx,hy,HG,hbw⟩:=hrel;by_cases h0:y=0
  ·have h0':((y:Int)==0)=true:=by rw[h0];rfl
   have HX:Hid (x=Nat.gcd a b):=by have:=HG.out;rw[h0,Nat.gcd_zero_right] at this;exact this
   have h0i:(y:Int)=0:=by omega
   clear h0';obtain rfl:y=0:=h0;go_wp2_with fail;go_ret;rw[←HX.out];exact⟨rfl,hbw⟩
  ·have hy0:(0:Int)<(y:Int):=by omega
   have hx0:(0:Int)≤(x:Int):=by omega
   have hne:((y:Int)==0)=false:=by simp;exact h0
   have hm:(x:Int)%(y:Int)=((x%y:Nat):Int):=by omega
   have HM:=Lib.hid hm;have hml:x%y<y:=Nat.mod_lt _ (by omega);have HG2:Hid (Nat.gcd y (x%y)=Nat.gcd a b):=by unfold Hid;rw[←HG.out,Nat.gcd_comm x y,Nat.gcd_rec y x,Nat.gcd_comm]
   have hbd:=hbw.drew;clear hm;go_wp2_with fail;go_region
   all_goals (
    go_wp2_with fail;go_roundw
    case rel=>exact⟨y,x%y,rfl,by rw[←HM.out],by omega,by omega,HG2,hbd⟩
    case measure=>simp[intOf];omega)
theorem BS {l n:List UInt8} {neg:Bool} (h:dN l=some (neg,n,[])):lE l=true:=by unfold lE;rw[PR h];rfl
theorem D1 {l n d:List UInt8} {neg:Bool} (h:dN l=some (neg,n,d)) (hd:d≠[]):lE l=decide (Nat.gcd (aL n) (aL d)=1):=by
 unfold lE;rw[ES h hd];by_cases hg:Nat.gcd (aL n) (aL d)=1
 ·rw[if_pos hg,decide_eq_true hg];rfl
 ·rw[if_neg hg,decide_eq_false hg];rfl
def eC (l:List UInt8) (n d:Int):Prop:=lE l=true∧∃D:Nat,d=(D:Int)∧0<D∧D<1000000000∧n.natAbs<1000000000∧aR l=some (mkRat n D)
theorem D2 (b:Bool) (n:Nat):(cW b n).natAbs=n:=by
 cases b
 ·exact Int.natAbs_natCast n
 ·show(-(n:Int)).natAbs=n;omega
theorem YG {l n:List UInt8} {neg:Bool} (h:dN l=some (neg,n,[])) (c:aL n<1000000000):eC l (cW neg (aL n)) 1:=
 ⟨BS h,1,rfl,by decide,by decide,by rw[D2];exact c,by rw[PR h,Rat.mkRat_one]⟩
theorem YH {l n d:List UInt8} {neg:Bool} (h:dN l=some (neg,n,d)) (hd:d≠[]) (hp:Parts neg n d) (c:aL n<1000000000) (c':aL d<1000000000) (hg:Nat.gcd (aL n) (aL d)=1):eC l (cW neg (aL n)) (aL d:Nat):=
 ⟨by rw[D1 h hd,decide_eq_true hg],aL d,rfl,Nat.pos_of_ne_zero (tG hp.d_digs hd hp.d_head),c',by rw[D2];exact c,by rw[ES h hd,if_pos hg]⟩
theorem vM (l:List UInt8) (w:World) (hl:l.length≤1099511627776):
  Calls Tryz.prog 42 #[.string ⟨l.toArray⟩] w fun e w'=>∃n d ok,e= .returned (.tuple #[.agg #[.int .i64 n,.int .i64 d],.bool ok])∧(ok=true→eC l n d)∧Below w.heap.size w w':=by
 have hsz:(⟨l.toArray⟩:ByteArray).size=l.length:=by simp[ByteArray.size]
 have hsp:=fun W=>PV l W hl;go_enter Tryz.func42,Tryz.ntmps42;by_cases h20:l.length≤20
 ·have h20':¬(20:Int)<(l.length:Int):=by omega
  go_wp2_with fail;have R:=Bx.new w [.int .i64 0,.int .i64 0] 91;have hb:Below w.heap.size w (w.alloc (.cells #[.int .i64 0,.int .i64 0] 91)):=(Below.refl _ _).alloc (Nat.le_refl _) _;generalize w.alloc (.cells #[.int .i64 0,.int .i64 0] 91)=w0 at *;have R_l:=R.lt;refine(hsp w0).mono ?_;rintro e1 w1 ⟨neg,n,d,ok,rfl,hok,hno,hb1⟩;clear hsp;replace R:=R.below hb1;replace hb:=aB hb hb1;have R_l1:=R.lt;have R_0:=R.cell 0 rfl;have R_1:=R.cell 1 rfl;have R_f0:=R.free 0;have R_f1:=R.free 1;have hsn:(⟨n.toArray⟩:ByteArray).size=n.length:=by simp[ByteArray.size]
  have hsd:(⟨d.toArray⟩:ByteArray).size=d.length:=by simp[ByteArray.size]
  cases ok with
  |false=>
   clear hok hno;go_wp2_with fail;have R':=(R.set 0 (.int .i64 0)).set 1 (.int .i64 0);replace R':=R'.alloc (.cells #[.bool neg,.string ⟨n.toArray⟩,.string ⟨d.toArray⟩] 95);have R'_0:=R'.cell 0 rfl;have R'_1:=R'.cell 1 rfl;have hb':=(hb.setCell (p:=⟨w.heap.size,0,none⟩) (Nat.le_refl _) (.int .i64 0)).setCell (p:=⟨w.heap.size,1,none⟩) (Nat.le_refl _) (.int .i64 0);replace hb':=hb'.alloc hb'.size (.cells #[.bool neg,.string ⟨n.toArray⟩,.string ⟨d.toArray⟩] 95);exact bodyPost_ret (v:= .tuple #[.agg #[.int .i64 0,.int .i64 0],.bool false]) (by simp[results,Tryz.results42,go_sem,R'_0,R'_1]) rfl ⟨_,_,false,rfl,(fun h=>by cases h),hb'⟩
  |true=>
   have hs:=hok rfl;obtain⟨hp,hj⟩:=DK hs;have hnd:=hp.n_digs;have hdd:=hp.d_digs;have HS:=Lib.hid hs;have HP:=Lib.hid hp;clear hok hno hs hp hj;by_cases hn9:n.length≤9
   ·by_cases hd9:d.length≤9
    ·have hdv:=fun W=>B7 n W hnd hn9;have cV:=vL hnd hn9;have cV0:(0:Int)≤(aL n:Nat):=by omega
     have hn9':¬(9:Int)<(n.length:Int):=by omega
     have hd9':¬(9:Int)<(d.length:Int):=by omega
     cases d with
     |nil=>
      have HRD:Hid (eC l (cW neg (aL n)) 1):=YG HS.out cV;generalize aL n=V at *;cases neg with
      |false=>
       go_wp2_with (go_at_call 102;(with_reducible refine(hdv _).mono ?_);rintro e2 w2 ⟨rfl,rfl⟩);have R':=(R.set 0 (.int .i64 V)).set 1 (.int .i64 1);replace R':=R'.alloc (.cells #[.bool false,.string ⟨n.toArray⟩,.string ⟨#[]⟩] 95);replace R':=R'.alloc (.cells #[.int .i64 V,.int .i64 1] 91);have R'_0:=R'.cell 0 rfl;have R'_1:=R'.cell 1 rfl;have hb':=(hb.setCell (p:=⟨w.heap.size,0,none⟩) (Nat.le_refl _) (.int .i64 V)).setCell (p:=⟨w.heap.size,1,none⟩) (Nat.le_refl _) (.int .i64 1);replace hb':=hb'.alloc hb'.size (.cells #[.bool false,.string ⟨n.toArray⟩,.string ⟨#[]⟩] 95);replace hb':=hb'.alloc hb'.size (.cells #[.int .i64 V,.int .i64 1] 91);exact bodyPost_ret (v:= .tuple #[.agg #[.int .i64 V,.int .i64 1],.bool true]) (by simp[results,Tryz.results42,go_sem,R'_0,R'_1]) rfl ⟨_,_,true,rfl,(fun _=>HRD.out),hb'⟩
      |true=>
       go_wp2_with (go_at_call 102;(with_reducible refine(hdv _).mono ?_);rintro e2 w2 ⟨rfl,rfl⟩);have R':=(R.set 0 (.int .i64 (-V))).set 1 (.int .i64 1);replace R':=R'.alloc (.cells #[.bool true,.string ⟨n.toArray⟩,.string ⟨#[]⟩] 95);replace R':=R'.alloc (.cells #[.int .i64 (-V),.int .i64 1] 91);have R'_0:=R'.cell 0 rfl;have R'_1:=R'.cell 1 rfl;have hb':=(hb.setCell (p:=⟨w.heap.size,0,none⟩) (Nat.le_refl _) (.int .i64 (-V))).setCell (p:=⟨w.heap.size,1,none⟩) (Nat.le_refl _) (.int .i64 1);replace hb':=hb'.alloc hb'.size (.cells #[.bool true,.string ⟨n.toArray⟩,.string ⟨#[]⟩] 95);replace hb':=hb'.alloc hb'.size (.cells #[.int .i64 (-V),.int .i64 1] 91);exact bodyPost_ret (v:= .tuple #[.agg #[.int .i64 (-V),.int .i64 1],.bool true]) (by simp[results,Tryz.results42,go_sem,R'_0,R'_1]) rfl ⟨_,_,true,rfl,(fun _=>HRD.out),hb'⟩
     |cons c0 d0=>
      have hdw:=fun W=>B7 (c0 :: d0) W hdd hd9;have cD:=vL hdd hd9;have HRD:Hid (Nat.gcd (aL n) (aL (c0 :: d0))=1→eC l (cW neg (aL n)) (aL (c0 :: d0):Nat)):=YH HS.out (by simp) HP.out cV cD;have hd9'':¬(9:Int)<(d0.length:Int)+1:=by have:=hd9;rw[List.length_cons] at this;omega
      have hne:(⟨(c0 :: d0).toArray⟩:ByteArray)≠⟨#[]⟩:=fun h=>by injection h with h;simp at h
      generalize aL n=V at *;generalize aL (c0 :: d0)=D at *;go_wp2_with (first|(go_at_call 102;(with_reducible refine(hdv _).mono ?_);rintro e2 w2 ⟨rfl,rfl⟩)|(go_at_call 102;(with_reducible refine(hdw _).mono ?_);rintro e2 w2 ⟨rfl,rfl⟩));have R3:=(R.alloc (.cells #[.bool neg,.string ⟨n.toArray⟩,.string ⟨(c0 :: d0).toArray⟩] 95)).alloc (.cells #[.int .i64 V,.int .i64 D] 91);have F3:=(Bx.new w1 [.bool neg,.string ⟨n.toArray⟩,.string ⟨(c0 :: d0).toArray⟩] 95).alloc (.cells #[.int .i64 V,.int .i64 D] 91);have X3:=Bx.newAt (w1.alloc (.cells #[.bool neg,.string ⟨n.toArray⟩,.string ⟨(c0 :: d0).toArray⟩] 95)) [.int .i64 V,.int .i64 D] 91 (w1.heap.size+1) (World.size_alloc _ _);replace hb:=(hb.alloc hb.size (.cells #[.bool neg,.string ⟨n.toArray⟩,.string ⟨(c0 :: d0).toArray⟩] 95));replace hb:=hb.alloc hb.size (.cells #[.int .i64 V,.int .i64 D] 91);refine(YF V D _ cV cD).mono ?_;rintro e3 w3 ⟨rfl,hb3⟩;replace R:=R3.below hb3;replace F3:=F3.below hb3;replace X3:=X3.below hb3;replace hb:=aB hb hb3;replace R_0:=R.cell 0 rfl;replace R_1:=R.cell 1 rfl;replace R_f0:=R.free 0;replace R_f1:=R.free 1;have F_0:=F3.cell 0 rfl;have X_0:=X3.cell 0 rfl;have X_1:=X3.cell 1 rfl;have X_f0:=X3.free 0;have nXR:w1.heap.size+1≠w.heap.size:=by omega
      by_cases hg:Nat.gcd V D=1
      ·have hg':(((Nat.gcd V D:Nat):Int)==1)=true:=by rw[hg];rfl
       have HR2:Hid (eC l (cW neg V) (D:Nat)):=HRD.out hg;have hgi:((Nat.gcd V D:Nat):Int)=1:=by omega
       rw[hgi];clear hg hg' hgi;cases neg with
       |false=>
        go_wp2_with fail;have R':=(R.set 0 (.int .i64 V)).set 1 (.int .i64 D);have R'_0:=R'.cell 0 rfl;have R'_1:=R'.cell 1 rfl;have hb':=(hb.setCell (p:=⟨w.heap.size,0,none⟩) (Nat.le_refl _) (.int .i64 V)).setCell (p:=⟨w.heap.size,1,none⟩) (Nat.le_refl _) (.int .i64 D);exact bodyPost_ret (v:= .tuple #[.agg #[.int .i64 V,.int .i64 D],.bool true]) (by simp[results,Tryz.results42,go_sem,R'_0,R'_1]) rfl ⟨_,_,true,rfl,(fun _=>HR2.out),hb'⟩
       |true=>
        go_wp2_with fail;replace R:=R.far 0 (.int .i64 (-V)) nXR;replace hb:=hb.setCell (p:=⟨w1.heap.size+1,0,none⟩) (show w.heap.size≤w1.heap.size+1 by omega) (.int .i64 (-V));have R':=(R.set 0 (.int .i64 (-V))).set 1 (.int .i64 D);have R'_0:=R'.cell 0 rfl;have R'_1:=R'.cell 1 rfl;have hb':=(hb.setCell (p:=⟨w.heap.size,0,none⟩) (Nat.le_refl _) (.int .i64 (-V))).setCell (p:=⟨w.heap.size,1,none⟩) (Nat.le_refl _) (.int .i64 D);exact bodyPost_ret (v:= .tuple #[.agg #[.int .i64 (-V),.int .i64 D],.bool true]) (by simp[results,Tryz.results42,go_sem,R'_0,R'_1]) rfl ⟨_,_,true,rfl,(fun _=>HR2.out),hb'⟩
      ·have hg':(((Nat.gcd V D:Nat):Int)==1)=false:=by rw[beq_eq_false_iff_ne];omega
       generalize ((Nat.gcd V D:Nat):Int)=gg at *;go_wp2_with fail;have R':=(R.set 0 (.int .i64 0)).set 1 (.int .i64 0);have R'_0:=R'.cell 0 rfl;have R'_1:=R'.cell 1 rfl;have hb':=(hb.setCell (p:=⟨w.heap.size,0,none⟩) (Nat.le_refl _) (.int .i64 0)).setCell (p:=⟨w.heap.size,1,none⟩) (Nat.le_refl _) (.int .i64 0);exact bodyPost_ret (v:= .tuple #[.agg #[.int .i64 0,.int .i64 0],.bool false]) (by simp[results,Tryz.results42,go_sem,R'_0,R'_1]) rfl ⟨_,_,false,rfl,(fun h=>by cases h),hb'⟩
    ·have hn9':¬(9:Int)<(n.length:Int):=by omega
     have hd9':(9:Int)<(d.length:Int):=by omega
     go_wp2_with fail;have R':=(R.set 0 (.int .i64 0)).set 1 (.int .i64 0);replace R':=R'.alloc (.cells #[.bool neg,.string ⟨n.toArray⟩,.string ⟨d.toArray⟩] 95);have R'_0:=R'.cell 0 rfl;have R'_1:=R'.cell 1 rfl;have hb':=(hb.setCell (p:=⟨w.heap.size,0,none⟩) (Nat.le_refl _) (.int .i64 0)).setCell (p:=⟨w.heap.size,1,none⟩) (Nat.le_refl _) (.int .i64 0);replace hb':=hb'.alloc hb'.size (.cells #[.bool neg,.string ⟨n.toArray⟩,.string ⟨d.toArray⟩] 95);exact bodyPost_ret (v:= .tuple #[.agg #[.int .i64 0,.int .i64 0],.bool false]) (by simp[results,Tryz.results42,go_sem,R'_0,R'_1]) rfl ⟨_,_,false,rfl,(fun h=>by cases h),hb'⟩
   ·have hn9':(9:Int)<(n.length:Int):=by omega
    go_wp2_with fail;have R':=(R.set 0 (.int .i64 0)).set 1 (.int .i64 0);replace R':=R'.alloc (.cells #[.bool neg,.string ⟨n.toArray⟩,.string ⟨d.toArray⟩] 95);have R'_0:=R'.cell 0 rfl;have R'_1:=R'.cell 1 rfl;have hb':=(hb.setCell (p:=⟨w.heap.size,0,none⟩) (Nat.le_refl _) (.int .i64 0)).setCell (p:=⟨w.heap.size,1,none⟩) (Nat.le_refl _) (.int .i64 0);replace hb':=hb'.alloc hb'.size (.cells #[.bool neg,.string ⟨n.toArray⟩,.string ⟨d.toArray⟩] 95);exact bodyPost_ret (v:= .tuple #[.agg #[.int .i64 0,.int .i64 0],.bool false]) (by simp[results,Tryz.results42,go_sem,R'_0,R'_1]) rfl ⟨_,_,false,rfl,(fun h=>by cases h),hb'⟩
 ·have h20':(20:Int)<(l.length:Int):=by omega
  clear hsp;go_wp2_with fail;have R:=Bx.new w [.int .i64 0,.int .i64 0] 91;have R_0:=R.cell 0 rfl;have R_1:=R.cell 1 rfl;have hb:Below w.heap.size w (w.alloc (.cells #[.int .i64 0,.int .i64 0] 91)):=(Below.refl _ _).alloc (Nat.le_refl _) _;exact bodyPost_ret (v:= .tuple #[.agg #[.int .i64 0,.int .i64 0],.bool false]) (by simp[results,Tryz.results42,go_sem,R_0,R_1]) rfl ⟨_,_,false,rfl,(fun h=>by cases h),hb⟩
end Go.Proofs.YtbhplgdbfmifkaaGreatDoor
