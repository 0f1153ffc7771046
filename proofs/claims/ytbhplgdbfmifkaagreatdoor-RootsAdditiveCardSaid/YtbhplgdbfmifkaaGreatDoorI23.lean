/-
  Contracts of functions that the statement reaches, and plain laws: AppD.
-/
import Derived.Test.YtbhplgdbfmifkaaGreatDoorI22
import Derived.Lib.AppendStr
set_option linter.unusedVariables false
set_option linter.unusedSimpArgs false
set_option maxHeartbeats 8000000
set_option maxRecDepth 100000
namespace Go.Proofs.YtbhplgdbfmifkaaGreatDoor
open Go.RowKit Sos
theorem OW (l:List UInt8):Lib.strCells ⟨l.toArray⟩=Lib.byteCells l:=by simp[Lib.strCells,Lib.byteCells]
theorem OX (B:Nat) (tv:Value) (bs l:List UInt8) (w:World) (hB:B≤w.heap.size) (ht:TxtAt w B tv bs) (hl1:1≤l.length) (hlen:bs.length+l.length≤140737488355328):
  p9 w tv l (fun v' w'=>TxtAt w' B v' (bs++l)∧TxtTo w tv w' v'):=by
 obtain⟨i,hi0,hz,hs1,hby⟩:=info_parts jU;refine⟨fun w1 hb=> ?_,fun w1 a c hb hc=> ?_⟩
 ·have ht1:=ht.below hb;have hsz:(⟨l.toArray⟩:ByteArray).size=l.length:=by simp[ByteArray.size]
  obtain⟨v',w',hrun,ho,hg,_⟩:=Lib.run_append_own_string (P:=Tryz.prog) w1 B 149 9 149 5 i Tryz.underlying149 Tryz.underlying9 hi0 hz hs1 hby tv bs.length _ ht1 ⟨l.toArray⟩ (by rw[hsz];unfold maxLen;omega) (by rw[hsz];exact hlen) (Nat.le_trans hB hb.size);rw[hsz,OW] at ho;have hsrc:Go.Src Tryz.prog i.size 9 (.string ⟨l.toArray⟩) l.length (Lib.byteCells l) w1:=by
   have:=Go.Src.ofString (P:=Tryz.prog) w1 Tryz.underlying9 ⟨l.toArray⟩;rw[hsz] at this;rw[hs1];exact this
  have hloc:v'.ownBlock=tv.ownBlock∨v'.ownBlock=some w1.heap.size:=by
   rcases ht1.2 with ⟨rfl,e⟩|⟨g,cap,cur,rfl,hbg,hh,hn,hm,hcs,htk⟩
   ·have hr:=run_append_grow_src (P:=Tryz.prog) w1 149 9 149 5 i _ Tryz.underlying149 hi0 hz none 0 0 [] (run_firstCells_none w1.drew i.size 0 0 0) _ _ _ hsrc (by omega) (by omega) (by rw[hby];exact growslice_fits (by omega) (by omega));rw[hrun] at hr;injection hr with h1 h2;right;rw[h1];rfl
   ·by_cases hroom:bs.length+l.length≤cap
    ·have hr:=run_append_room_src (P:=Tryz.prog) w1 149 9 149 5 i Tryz.underlying149 hi0 g 0 bs.length cap _ _ _ hsrc hroom
      (fun j hj=>by
       rw[Lib.byteCells_length] at hj;rw[hs1,cell_of_row w1 g _ cur _ (0,0) hh];simp;omega) (fun j _=>frozen_of_row w1 g _ cur _ hh)
     rw[hrun] at hr;injection hr with h1 h2;left;rw[h1];rfl
    ·have hr:=run_append_grow_src (P:=Tryz.prog) w1 149 9 149 5 i _ Tryz.underlying149 hi0 hz (some ⟨g,0,none⟩) bs.length cap (Lib.byteCells bs)
      (run_firstCells_some w1.drew i.size bs.length ⟨g,0,none⟩ bs.length cap (Lib.byteCells bs) (by rw[Lib.byteCells_length,hs1,Nat.mul_one]) (fun j u hu=>by
       have:=World.ownsRow.cells ht1 (g:=g) rfl j u hu;simpa using this)) _ _ _ hsrc (by omega) (by omega) (by rw[hby];exact growslice_fits (by omega) (by omega))
     rw[hrun] at hr;injection hr with h1 h2;right;rw[h1];rfl
  have hm:=TxtAt.more' (w:=w1) (bs:=bs) (l:=l) ho hg hloc;exact⟨v',w',hrun,hm.1,(TxtTo.below hb).trans hm.2⟩
 ·have ht1:=ht.below hb;obtain⟨v',w',hrun,ho,hg,_,hloc⟩:=run_append_own_at (P:=Tryz.prog) w1 B 149 149 5 i _ 1 1 Tryz.underlying149 hi0 hz hs1 hby rfl (by decide) tv bs.length _ ht1 a l.length c (Lib.byteCells l) (by rw[Lib.byteCells_length,Nat.mul_one]) hc (EQ l) (by unfold maxLen;omega) (by omega) (Nat.le_trans hB hb.size);have hm:=TxtAt.more' (w:=w1) (bs:=bs) (l:=l) ho hg hloc;exact⟨v',w',hrun,hm.1,(TxtTo.below hb).trans hm.2⟩
theorem OwnP.powA {w:World} {B:Nat} {v:Value} {us:List Value} (h:OwnP w B v us):PowA w v us:=by
 obtain⟨⟨_,h1⟩,h2⟩:=h;rcases h1 with ⟨rfl,e⟩|⟨g,cap,cur,rfl,hb,hh,hn,hm,hs,ht⟩
 ·exact⟨none,0,by rw[e],by omega,Old.none,.inl e,fun i u hu=>(h2 i u hu).1⟩
 ·refine⟨_,cap,rfl,hn,Old.mk (Array.getElem?_eq_some_iff.1 hh).1,.inr ⟨g,0,rfl,?_⟩,fun i u hu=>(h2 i u hu).1⟩;intro i u hu;rw[cell_of_row w g (0+i) cur _ (0,0) hh,Nat.zero_add,←Array.getElem?_toList];rw[←ht,List.getElem?_take] at hu;split at hu
  ·exact hu
  ·cases hu
theorem EH (B:Nat) (tv:Value) (bs:List UInt8) (x:Nat) (vx:Value) (w:World) (hG:GlobB B w) (hB:B≤w.heap.size) (ht:TxtAt w B tv bs) (hx:NatAt w vx x) (hax:Apart tv vx) (hxl:nl x≤4294967296) (hbl:bs.length≤4398046511104):
  Calls Tryz.prog 144 #[tv,vx] w fun e w'=>∃v,e= .returned v∧TxtAt w' B v (bs++Lib.decDigits x)∧TxtTo w tv w' v:=by
 have HX:=Lib.hid hx;obtain⟨A,c,hve,hc,hrx,hox⟩:=hx;subst hve;by_cases h0:nl x=0
 ·obtain rfl:=mU h0;have q0:((nl 0:Int)==0)=true:=by rw[cC];rfl
  have ht':w.ownsRow B 5 1 tv bs.length (Lib.byteCells bs):=ht;go_enter Tryz.func144,Tryz.ntmps144;go_wp2_with (at_builtin;refine eJ rfl rfl 5 _ 1 1 Tryz.underlying149 jU rfl (by decide) B tv bs.length _ rfl (ht'.alloc _) [Value.int .u8 48] rfl (by simp) (iD _ _ _) (by simp[Value.oneCell']) (by omega) (by omega) (by simp;omega) ?_;intro q1 w6 ho1 hg1 hat1);have hm:=TxtAt.more (bs:=bs) (l:=[48]) ho1 hg1 hat1;have hd0:Lib.decDigits 0=[48]:=by rw[Lib.decDigits_one (by decide)];rfl
  go_wp2_with fail;go_ret;exact⟨_,rfl,by rw[hd0];exact hm.1,hm.2⟩
 ·have q0:((nl x:Int)==0)=false:=by simp;omega
  have hxz:x≠0:=by intro h;subst h;exact h0 cC
  by_cases h1:nl x=1
  ·have q1:((nl x:Int)==1)=true:=by simp;omega
   have hxB:x<BN:=by have:=bX x;rw[h1,Nat.pow_one] at this;exact this
   obtain⟨b,off,rfl,hb,hcx⟩:=hrx.at_ (by rw[aJ];omega);have g0:=hcx 0 (by rw[aJ];omega);rw[m5 hxz hxB] at g0;simp only[Nat.add_zero,List.getD_cons_zero] at g0;have happ:=OX B tv bs (Lib.decDigits x) w hB ht (by rw[Lib.decDigits_length];exact Lib.nDigits_pos x) (by have:=tV hxB;omega);have hau:=ER tv x w _ hxB hG.here happ;have i0:(0:Int)<(nl x:Int):=by omega
   clear happ hcx h0 h1;go_enter Tryz.func144,Tryz.ntmps144;go_wp2_with fail;refine hau.mono ?_;rintro e w1 ⟨v1,rfl,h2,h3⟩;go_wp2;go_ret;exact⟨_,rfl,h2,h3⟩
  ·have q1:((nl x:Int)==1)=false:=by simp;omega
   have hpd:bO 0 x=Lib.decDigits x:=NH hxz;have hT:bs.length+(bO 0 x).length≤8796093022208:=by
    have:=EN 0 x;omega
   have HPD:=Lib.hid hpd;have HT:=Lib.hid hT;have htl:=ht.lt;clear hpd hT;have hn0:NatAt (w.alloc (.cells #[.int .u64 10000000000000000000] 161)) (.slice (some ⟨w.heap.size,0,none⟩) 1 1) (10^(19*2^([]:List Value).length)):=t8 w 10000000000000000000 (by decide) (by decide) 161;have hP0:OwnP ((w.alloc (.cells #[.int .u64 10000000000000000000] 161)).alloc (.cells #[.slice (some ⟨w.heap.size,0,none⟩) 1 1] 48)) w.heap.size (.slice (some ⟨w.heap.size+1,0,none⟩) 1 1) [.slice (some ⟨w.heap.size,0,none⟩) 1 1]:=by
    refine⟨⟨rfl,.inr ⟨w.heap.size+1,1,#[.slice (some ⟨w.heap.size,0,none⟩) 1 1],rfl,by omega,?_,Nat.le_refl _,by decide,rfl,rfl⟩⟩,?_⟩
    ·have:=heap_alloc_new (w.alloc (.cells #[.int .u64 10000000000000000000] 161)) (.cells #[.slice (some ⟨w.heap.size,0,none⟩) 1 1] 48);simpa using this
    ·intro i u hu;match i,hu with
     |0,hu=>
      simp at hu;subst hu;refine⟨hn0.below ((Below.refl _ _).alloc (Nat.le_refl _) _),?_⟩;intro g e1 e2;simp[Value.ownBlock] at e1 e2;omega
   have hb0:Below w.heap.size w ((w.alloc (.cells #[.int .u64 10000000000000000000] 161)).alloc (.cells #[.slice (some ⟨w.heap.size,0,none⟩) 1 1] 48)):=((Below.refl _ _).alloc (Nat.le_refl _) _).alloc (by simp) _;clear hn0;go_enter Tryz.func144,Tryz.ntmps144;go_wp2_with fail;go_loopg [5] 40 (fun k q wr=>∃us,Hid (us.length+k=41)∧1≤us.length∧Hid (2^(us.length-1)≤4294967296*2)∧OwnP wr w.heap.size q us∧(∀u∈us,∀g,u.ownBlock=some g→w.heap.size≤g)∧Below w.heap.size w wr)
   case atStart=>
    refine⟨[.slice (some ⟨w.heap.size,0,none⟩) 1 1],rfl,by simp,by unfold Hid;simp,hP0,?_,hb0⟩;intro u hu g e;rw[List.mem_singleton] at hu;subst hu;simp[Value.ownBlock] at e;omega
   case round=>
    obtain⟨us,HK,hl1,HL,hP,hul,hbel⟩:=hrel;clear hP0 hb0;have hm34:us.length≤34:=by
     rcases Nat.lt_or_ge 34 us.length with h|h
     ·exfalso;have h2:2^34≤2^(us.length-1):=Nat.pow_le_pow_right (by decide) (by omega);have h3:=HL.out;have h4:(2:Nat)^34=17179869184:=by decide
      omega
     ·exact h
    have HP:=Lib.hid hP;have hpa:=hP.powA;obtain⟨u,hu⟩:∃u,us[us.length-1]? =some u:=⟨_,List.getElem?_eq_getElem (by omega)⟩;obtain⟨hnu,hnb⟩:=hP.2 _ _ hu;have hum:u∈us:=List.mem_of_getElem? hu;have hfree:PowFree tv u5 us:=by
     refine⟨fun g hg e=> ?_,fun u' hu' g hg e=> ?_⟩
     ·have:=(htl g hg).2;have:=(World.ownsRow.lt hP.1 g e).1;omega
     ·have:=(htl g hg).2;have:=hul u' hu' g e;omega
    have hsplit:=P0 B tv bs x _ _ us wr (by omega) (hG.on (hbel.mono hB)) (Nat.le_trans hB hbel.size) (ht.below hbel) (HX.out.below hbel) hpa hax hfree (by omega) HT.out;rw[HPD.out] at hsplit;rcases hP.1.2 with ⟨_,e⟩|⟨g,cap,cur,rfl,hb,hh,hn,hm,hs,htk⟩
    ·omega
    have gc:wr.cell? ⟨g,us.length-1,none⟩=some u:=by
     rw[cell_of_row wr g _ cur _ (0,0) hh,←Array.getElem?_toList];have h1:(cur.toList.take (us.length*1))[us.length-1]? =us[us.length-1]? :=by rw[htk]
     rw[List.getElem?_take,if_pos (by omega)] at h1;rw[h1];exact hu
    have hgl:g<wr.heap.size:=(Array.getElem?_eq_some_iff.1 hh).1;have hpE:bU^2^(us.length-1)≤10^(19*2^(us.length-1)):=by rw[qM,←Nat.pow_mul];exact Nat.le_refl _
    have hjn:=EL hpE;have hprod:10^(19*2^(us.length-1))*10^(19*2^(us.length-1))=10^(19*2^us.length):=by
     rw[←Nat.pow_add];congr 1;obtain⟨m,hm⟩:∃m,us.length=m+1:=⟨us.length-1,by omega⟩;rw[hm,Nat.add_sub_cancel,Nat.pow_succ];omega
    have HPR:=Lib.hid hprod;have hnl:=EI (2^(us.length-1)) (Nat.pow_pos (by decide));have hXl:nl (10^(19*2^(us.length-1)))≤8589934592:=by have:=HL.out;omega
    have HJN:=Lib.hid hjn;have HU:=Lib.hid hu;have HSP:=Lib.hid hsplit;clear hs hh hP hprod hnl htk hpE hjn hu hsplit hpa hfree;obtain⟨Au,cu,hue,hccu,_,_⟩:=id hnu;subst hue;generalize 10^(19*2^(us.length-1))=X at *;have i0:(0:Int)≤(us.length:Int)-1:=by omega
    by_cases hgo:30<nl x∧2*nl X≤nl x
    ·obtain⟨hg1,hg2⟩:=hgo;have hg1':(30:Int)<(nl x:Int):=by omega
     have hg2':2*(nl X:Int)≤(nl x:Int):=by omega
     go_wp2_with fail;refine(mB X X _ _ _ hnu hnu (by unfold aF;omega)).mono ?_;rintro e w2 ⟨v2,rfl,hv2,hf2,hb2⟩;obtain⟨A2,c2,rfl,hcc2,hr2,ho2⟩:=id hv2;have hv2':NatAt w2 (Value.slice A2 (nl (X*X)) c2) (10^(19*2^us.length)):=by rw[←HPR.out];exact hv2
     have hne2:∀g',(Value.slice (some ⟨g,0,none⟩) us.length cap).ownBlock=some g'→(Value.slice A2 (nl (X*X)) c2).ownBlock≠some g':=by
      intro g' e;have:g=g':=by simpa [Value.ownBlock] using e
      subst this;exact hf2.ne2 hgl (hnb _ rfl) (hnb _ rfl)
     have hul2:∀g',(Value.slice A2 (nl (X*X)) c2).ownBlock=some g'→w.heap.size≤g':=by
      intro g' e;rcases Nat.lt_or_ge g' wr.heap.size with h|h
      ·obtain⟨u',hu',he'⟩:=hf2 g' e h;have:u'=Value.slice Au (nl X) cu:=by simpa using hu'
       subst this;exact hul _ hum g' he'
      ·exact Nat.le_trans hbel.size h
     have hP2:=HP.out.belowE hb2;have hone:=hv2.oneCell;have hws:=hbel.size;have hws2:=hb2.size;go_wp2_with (at_builtin;refine eJ rfl rfl 48 _ 1 24 Tryz.underlying198 x9 rfl (by decide) w.heap.size (.slice (some ⟨g,0,none⟩) us.length cap) us.length us rfl (hP2.1.alloc _) [Value.slice A2 (nl (X*X)) c2] rfl (by simp) (iD _ _ _) hone (by omega) (by omega) (by simp;omega) ?_;intro q1 w3 ho1 hg1x hat1);have hP3:=OwnP.push hP2 hv2' hne2 ho1 hg1x hat1
     have hb3:Below w.heap.size w w3:=((aB hbel hb2).alloc (by omega) _).grown hg1x (by simp;omega) (fun k hk=>by
      have:g=k:=by simpa [Value.ownBlock] using hk
      omega)
     go_wp2_with fail;go_roundg (41-(us++[Value.slice A2 (nl (X*X)) c2]).length)
     case measure=>have:=HK.out;simp;omega
     case rel=>
      refine⟨us++[Value.slice A2 (nl (X*X)) c2],by unfold Hid;simp;omega,by simp,?_,hP3,?_,hb3⟩
      ·unfold Hid;rw[List.length_append,List.length_singleton,Nat.add_sub_cancel];obtain⟨m,hm⟩:∃m,us.length=m+1:=⟨us.length-1,by omega⟩;have h1:=HJN.out;rw[hm,Nat.add_sub_cancel] at h1;rw[hm,Nat.pow_succ];omega
      ·intro u' hu' g' e';rcases List.mem_append.1 hu' with h|h
       ·exact hul u' h g' e'
       ·rw[List.mem_singleton] at h;subst h;exact hul2 g' e'
    ·by_cases hg1:30<nl x
     ·have hg2:¬2*(nl X:Int)≤(nl x:Int):=by omega
      clear hgo;go_wp2_with fail;refine HSP.out.mono ?_;rintro e w2 ⟨v2,rfl,h2,h3⟩;go_wp2;go_ret;exact⟨_,rfl,h2,(TxtTo.below hbel).trans h3⟩
     ·have hg1':¬(30:Int)<(nl x:Int):=by omega
      clear hgo;go_wp2_with fail;refine HSP.out.mono ?_;rintro e w2 ⟨v2,rfl,h2,h3⟩;go_wp2;go_ret;exact⟨_,rfl,h2,(TxtTo.below hbel).trans h3⟩
end Go.Proofs.YtbhplgdbfmifkaaGreatDoor
