/-
  Contracts of functions that the statement reaches, and plain laws: MulB, MulC, ShiftP, ShiftA, ShiftB, DivP.
-/
import Derived.Test.YtbhplgdbfmifkaaGreatDoorI08
import Derived.Deep.RegionWith
import Derived.Deep.RegionHeld3
import Derived.Deep.DeepCutAuto
set_option linter.unusedVariables false
set_option linter.unusedSimpArgs false
set_option maxHeartbeats 8000000
set_option maxRecDepth 100000
namespace Go.Proofs.YtbhplgdbfmifkaaGreatDoor
open Go.RowKit Sos
def aF:Nat:=17592186044416
def MulOK (N:Nat):Prop:=∀(x y:Nat) (vx vy:Value) (w:World),nl x+nl y<N→nl x+nl y≤aF→NatAt w vx x→NatAt w vy y→Calls Tryz.prog 121 #[vx,vy] w (fY w [vx,vy] (x*y))
theorem LJ (x s e:Nat) (h:s≤e):x%BN^e=x%BN^s+BN^s*(x/BN^s%BN^(e-s)):=by
 have e1:BN^e=BN^s*BN^(e-s):=by rw[←Nat.pow_add];congr 1;omega
 rw[e1,Nat.mod_mul]
theorem Only.join {g k n:Nat} {w2 w3:World} {zs ts:List Int} (ho:Only g k (n-k) w2 w3) (hc:Cells .u64 w2 g 0 zs) (hzl:zs.length=n) (hk:k≤n) (ht:Cells .u64 w3 g k ts):
  Cells .u64 w3 g 0 (zs.take k++ts):=by
 have hl:(zs.take k).length=k:=by rw[List.length_take];omega
 refine Cells.append (fun i hi=> ?_) (by rw[hl,Nat.zero_add];exact ht);rw[ho.rest (0+i) (.inl (by omega))];exact hc.take k i hi
theorem LK (x y k e:Nat) (he:e=k+nl y∨e=nl x) (h2:e≤k+nl y):x%BN^(k+nl y)=x%BN^e:=by
 rcases he with rfl|rfl
 ·rfl
 ·rw[Nat.mod_eq_of_lt (bX x),Nat.mod_eq_of_lt (Nat.lt_of_lt_of_le (bX x) (Nat.pow_le_pow_right (by decide) h2))]
theorem LL (x y:Nat) (vx vy:Value) (w:World) (hx:NatAt w vx x) (hy:NatAt w vy y) (h0:0<nl y) (hlim:nl x+nl y≤aF) (hyx:nl y≤nl x) (ih:MulOK (2*nl y+1)):
  Calls Tryz.prog 166 #[vx,vy] w (fY w [vx,vy] (x*y)):=by
 unfold aF at hlim;obtain⟨A,c,rfl,hc,hrx,hox⟩:=hx;obtain⟨B,d,rfl,hd,hry,hoy⟩:=hy;obtain⟨bx,ox,rfl,hbx,hcx⟩:=hrx.at_ (by rw[aJ];omega);obtain⟨n,hn1,hn2,HN⟩:∃n,nl x+nl y≤n∧n≤nl x+nl y∧Hid (nl x+nl y=n):=⟨_,Nat.le_refl _,Nat.le_refl _,rfl⟩;go_enter Tryz.func166,Tryz.ntmps166;go_wp2_with (at_make;refine gN rfl rfl .u64 161 8 Tryz.underlying48 eY (n) rfl rfl (by omega) (by omega) (by omega) (by omega) ?_;intro w1 hz1 hs1 hc1 hb1)
 go_loopw [6] (fun i wr=>∃(k:Nat) (zs:List Int),k≤n∧i= .int .i64 k∧Hid (zs.length=n)∧InR aA zs∧Hid (aD aA zs=((x%BN^k*y:Nat):Int))∧Cells .u64 wr w.heap.size 0 zs∧
   Soft wr w.heap.size∧Below w.heap.size w wr∧w.heap.size<wr.heap.size) (fun i _=>n-(intOf i).toNat)
 case atStart=>exact⟨0,_,Nat.zero_le _,rfl,by simp[Hid],InR.replicate aM _,by simp[Hid,iU,Nat.mod_one],hc1,hs1,hb1,hz1⟩
 case round=>
  obtain⟨k,zs,hk,rfl,hzl,hz,hval,hcell,hsoft,hbel,hlt⟩:=hrel;by_cases hkx:k<nl x
  ·obtain⟨e,he1,he2,he3,he4,hmin⟩:∃e:Nat,k<e∧e≤nl x∧e≤k+nl y∧Hid (e=k+nl y∨e=nl x)∧min ((k:Int)+nl y) (nl x)=(e:Int):=by
    by_cases hke:k+nl y≤nl x
    ·exact⟨k+nl y,by omega,by omega,by omega,.inl rfl,by omega⟩
    ·exact⟨nl x,by omega,by omega,by omega,.inr rfl,by omega⟩
   have hL1:(((dg x).drop k).take (e-k)).length=e-k:=by rw[List.length_take,List.length_drop,aJ];omega
   have hrd1:Rd .u64 wr.drew (some ⟨bx,ox+k,none⟩) (((dg x).drop k).take (e-k)):=Rd.mk (Nat.lt_of_lt_of_le hbx hbel.size) (((hcx.below hbel hbx).drop k).take (e-k));have hin1:InR aA (((dg x).drop k).take (e-k)):=((aW x).drop k).take (e-k)
   have hna:NatAt wr.drew (.slice (some ⟨bx,ox+k,none⟩) (trimL (((dg x).drop k).take (e-k))).length (c-k)) (x/BN^k%BN^(e-k)):=
    NatAt.trim hrd1 hin1 (by rw[oN,nM]) (by omega) (Old.mk (Nat.lt_of_lt_of_le hbx hbel.size))
   have hneA:(Value.slice (some ⟨bx,ox+k,none⟩) (trimL (((dg x).drop k).take (e-k))).length (c-k)).ownBlock≠some w.heap.size:=by simp[Value.ownBlock];omega
   have hcell':Cells .u64 wr.drew w.heap.size k (zs.drop k):=by have:=hcell.drop k;rwa [Nat.zero_add] at this
   have hsoft':Soft wr.drew w.heap.size:=hsoft;have hbel':Below w.heap.size w wr.drew:=hbel.drew;have hcell'':Cells .u64 wr.drew w.heap.size 0 zs:=hcell;have hnb:NatAt wr.drew (.slice B (nl y) d) y:=⟨B,d,rfl,hd,Rd.drew (hry.below hbel),hoy.mono hbel.size⟩;have hqn:=nN (x/BN^k) (e-k);have hchunk:=LJ x k e (by omega);generalize hqe:x/BN^k%BN^(e-k)=q at *;generalize hue:((dg x).drop k).take (e-k)=us at *;have hml:=cJ q y;have HL1:=Lib.hid hL1;have HCH:=Lib.hid hchunk;have HQ:=Lib.hid hqe;have HU:=Lib.hid hue;have hzd:(zs.drop k).length=n-k:=by rw[List.length_drop,hzl.out]
   have HZD:=Lib.hid hzd;have hvz:aD aA zs+aA^k*((q*y:Nat):Int)=((x%BN^e*y:Nat):Int):=by
    rw[hval.out,hchunk,Nat.add_mul,Nat.mul_assoc];simp only[Int.natCast_add,Int.natCast_mul,Int.natCast_pow];rw[show((BN:Nat):Int)=aA from rfl]
   have htl:((x%BN^e*y:Nat):Int)<aA^(n):=by
    rw[←HN.out,←fO,Nat.pow_add];have h1:x%BN^e≤x:=Nat.mod_le _ _;have h2:=Nat.mul_lt_mul'' (Nat.lt_of_le_of_lt h1 (bX x)) (bX y);omega
   have hfit:=CA (z:=0) zs hz (by have:=hzl.out;omega) hzl.out hvz htl;have HVZ:=Lib.hid hvz;have HF:=Lib.hid hfit;have hmn:nl (q*y)≤n-k:=by
    refine bI ?_;have h0:=dM aM (hz.drop k);have:((q*y:Nat):Int)<((BN^(n-k):Nat):Int):=by rw[fO];omega
    omega
   clear hL1 hchunk hqe hue hzd hvz htl hfit;have hneB:(Value.slice B (nl y) d).ownBlock≠some w.heap.size:=hoy.ne (Nat.le_refl _);have i1:(0:Int)≤(k:Int):=by omega
   have i2:(k:Int)≤((n:Nat):Int):=by omega
   have i3:(k:Int)≤(e:Int):=by omega
   have i4:(e:Int)≤(c:Int):=by omega
   have i5:¬n=k:=by omega
   have i7:k≤n:=by omega
   have i8:e≤c:=by omega
   have i9:k≤e:=by omega
   have i6:¬c=k:=by omega
   go_wp2
   go_region_held3 (fun _=>True) (trivial) (first
    |(go_at_call 127;refine(dI _ us (e-k) (c-k) _ HL1.out hrd1 (by omega) (by omega)).mono ?_;rintro e' w' ⟨rfl,rfl⟩)
    |(go_at_call 121;refine(ih q y _ _ _ (by omega) (by unfold aF;omega) hna hnb).mono ?_;rintro e' w2 ⟨v2,rfl,⟨A2,c2,rfl,hc2,hr2,ho2⟩,hf2,hb2⟩)
    |(go_at_call 167;refine(sM w.heap.size k (n-k) (zs.drop k) (n-k) A2 (nl (q*y)) (dg (q*y)) c2 w2 HZD.out rfl (hcell'.below hb2 hlt) (hsoft'.below hb2 hlt) (Nat.le_refl _) (by omega) hr2 (vO (hf2.ne2 hlt hneA hneB)) hmn (hz.drop k) (aW _) (by rw[bC];exact HF.out)).mono ?_;rintro e' w3 ⟨rfl,ts,htl,ht,htv,hc3,ho3⟩))
   have HTL:=Lib.hid htl;have HTV:=Lib.hid htv;clear htl htv;have hbel2:Below w.heap.size w w2:=aB hbel' hb2;go_wp2;go_roundw
   case rel=>
    have hzl':=hzl.out;have htl':=HTL.out;refine⟨k+nl y,zs.take k++ts,by omega,by go_num,?_,(hz.take k).append ht,?_,ho3.join (hcell''.below hb2 hlt) hzl' (by omega) hc3,ho3.soft (hsoft'.below hb2 hlt),ho3.belowOf hbel2 (Nat.le_refl _),?_⟩
    ·unfold Hid;rw[List.length_append,List.length_take];omega
    ·unfold Hid;rw[LK x y k e he4.out he3,←HVZ.out,gV,List.length_take,Nat.min_eq_left (by omega),HTV.out,bC,iF aA zs k (by omega),Int.mul_add,Int.add_assoc]
    ·have h1:=ho3.grown.size;have h2:=hb2.size;have h3:w.heap.size<wr.drew.heap.size:=hlt;omega
   case measure=>simp[intOf];omega
  ·go_wp2_with fail;refine(dI _ zs (n) (n) wr hzl.out (Rd.mk hlt hcell) (Nat.le_refl _) (by omega)).mono ?_;rintro e w4 ⟨rfl,rfl⟩;go_wp2;go_ret;refine⟨_,rfl,NatAt.trim (Rd.mk hlt hcell) hz ?_ (by rw[hzl.out];exact Nat.le_refl _) (Old.mk hlt),From.new (Nat.le_refl _),hbel⟩;rw[hval.out,Nat.mod_eq_of_lt];exact Nat.lt_of_lt_of_le (bX x) (Nat.pow_le_pow_right (by decide) (by omega))
theorem MulOK.mono {M N:Nat} (h:MulOK N) (hm:M≤N):MulOK M:=fun x y vx vy w h1 h2 h3 h4=>h x y vx vy w (by omega) h2 h3 h4
theorem LH (N:Nat) (ih:MulOK N):MulOK (N+1):=by
 intro x y vx vy w hN hlim hx hy;unfold aF at hlim;obtain⟨A,c,rfl,hc,hrx,hox⟩:=hx;obtain⟨B,d,rfl,hd,hry,hoy⟩:=hy;go_enter Tryz.func121,Tryz.ntmps121;go_upto_if 21 with (fail)
 go_cut [0,1] (fun a b wx=>w=wx∧∃(p s:Nat) (A' B':Option Addr) (c' d':Nat),a= .slice A' (nl p) c'∧b= .slice B' (nl s) d'∧nl s≤nl p∧nl p+nl s<N+1∧nl p+nl s≤17592186044416∧Hid (p*s=x*y)∧
  NatAt w (.slice A' (nl p) c') p∧NatAt w (.slice B' (nl s) d') s∧(∀v,From w [.slice A' (nl p) c',.slice B' (nl s) d'] v→From w [.slice A (nl x) c,.slice B (nl y) d] v))
 case first=>
  by_cases hlt:nl x<nl y
  ·go_wp2;go_meet
   case rel=>exact⟨rfl,y,x,B,A,d,c,rfl,rfl,by omega,by omega,by omega,Nat.mul_comm _ _,⟨B,d,rfl,hd,hry,hoy⟩,⟨A,c,rfl,hc,hrx,hox⟩,fun v h=>h.swap⟩
  ·go_wp2;go_meet
   case rel=>exact⟨rfl,x,y,A,B,c,d,rfl,rfl,by omega,by omega,by omega,rfl,⟨A,c,rfl,hc,hrx,hox⟩,⟨B,d,rfl,hd,hry,hoy⟩,fun v h=>h⟩
 case rest=>
  obtain⟨rfl,p,s,A',B',c',d',rfl,rfl,hsp,hn1,hn2,heq,hp,hs,hfrom⟩:=hcut;obtain⟨_,_,e1,hc',hrp,hop⟩:=hp;injection e1 with e1 _ e3;subst e1 e3;obtain⟨_,_,e1,hd',hrs,hos⟩:=hs;injection e1 with e1 _ e3;subst e1 e3;have HFR:=Lib.hid hfrom;clear hfrom;clear hrx hry hox hoy hc hd hN hlim;rcases Nat.eq_zero_or_pos (nl s) with h0|h0
  ·have hq:((nl s:Int)==0)=true:=by simp;omega
   have H0:=Lib.hid (mU h0);clear h0;go_wp2;go_ret;refine⟨_,rfl,?_,From.none,Below.refl _ _⟩;rw[←heq.out,H0.out,Nat.mul_zero];exact NatAt.nil _
  ·have hq:((nl s:Int)==0)=false:=by simp;omega
   obtain⟨bs,os,rfl,hbs,hcs⟩:=hrs.at_ (by rw[aJ];omega);obtain⟨bp,op,rfl,hbp,hcp⟩:=hrp.at_ (by rw[aJ];omega);have hcs0:=hcs 0 (by rw[aJ];omega);rw[Nat.add_zero] at hcs0;by_cases h1:nl s=1∧(dg s).getD 0 0=1
   ·have hq1:((nl s:Int)==1)=true:=by simp;omega
    have H1:Hid (s=1):=by
     have e:=bC s;have hl:(dg s).length=1:=h1.1;match hd:dg s,hl with
     |[a],_=>
      rw[hd,sJ] at e;have:a=1:=by have:=h1.2;rw[hd] at this;exact this
      unfold Hid;omega
    rw[h1.2] at hcs0;clear h1;go_wp2;go_ret;refine⟨_,rfl,?_,HFR.out _ (From.mem (by simp)),Below.refl _ _⟩;rw[←heq.out,H1.out,Nat.mul_one];exact⟨_,_,rfl,hc',hrp,hop⟩
   ·generalize hae:(dg s).getD 0 0=a0 at *;have HA:=Lib.hid hae;clear hae;have hq1:((nl s:Int)==1)=false∨((nl s:Int)==1)=true∧(a0==1)=false:=by
     by_cases e:nl s=1
     ·right;simp[e];intro h;exact h1 ⟨e,h⟩
     ·left;simp;omega
    clear h1;have hp0:nl p≠0:=by omega
    by_cases h40:nl s<40
    ·go_upto_region 6 with (fail);go_cut [32] (fun t wx=>t= .bool false∧w=wx)
     case first=>
      rcases hq1 with hq1|⟨hq1,hq2⟩
      ·go_wp2;go_meet
       case rel=>exact⟨rfl,rfl⟩
      ·go_wp2;go_meet
       case rel=>exact⟨rfl,rfl⟩
     case rest=>
      obtain⟨rfl,rfl⟩:=hcut;clear hq1 hcs0;obtain⟨n,hnl1,hnl2,HNL⟩:∃n,nl p+nl s≤n∧n≤nl p+nl s∧Hid (nl p+nl s=n):=⟨_,Nat.le_refl _,Nat.le_refl _,rfl⟩;go_wp2_with (at_make;refine gN rfl rfl .u64 161 8 Tryz.underlying48 eY n rfl rfl (by omega) (by omega) (by omega) (by omega) ?_;intro w1 hz1 hs1 hc1 hb1)
      go_loopw [55] (fun i wr=>∃(k:Nat) (zs:List Int),k≤nl s∧i= .int .i64 k∧Hid (zs.length=n)∧InR aA zs∧Hid (aD aA zs=p*aD aA ((dg s).take k))∧Hid (∀j,k+nl p≤j→zs.getD j 0=0)∧
        Cells .u64 wr w.heap.size 0 zs∧Soft wr w.heap.size∧Below w.heap.size w wr∧w.heap.size<wr.heap.size) (fun i _=>nl s-(intOf i).toNat)
      case atStart=>exact⟨0,_,Nat.zero_le _,rfl,by simp[Hid],InR.replicate aM _,by simp[Hid,iU],fun j _=>by simp[List.getElem?_replicate];split<;>rfl,hc1,hs1,hb1,hz1⟩
      case round=>
       obtain⟨k,zs,hk,rfl,hzl,hz,hval,hzero,hcell,hsoft,hbel,hlt⟩:=hrel;by_cases hks:k<nl s
       ·have hcs1:=(hcs.below hbel hbs) k (by rw[aJ];omega);have hb2:=(aW s).getD aM k;have hts:=gF aA (dg s) k (by rw[aJ];omega);generalize hye:(dg s).getD k 0=y0 at *;have HYE:=Lib.hid hye;have HTS:=Lib.hid hts;clear hye hts;have hzl':=hzl.out;have hseg:((zs.drop k).take (nl p)).length=nl p:=by rw[List.length_take,List.length_drop];omega
        have hcell1:Cells .u64 wr w.heap.size k ((zs.drop k).take (nl p)):=by have:=(hcell.drop k).take (nl p);rwa [Nat.zero_add] at this
        have HSEG:=Lib.hid hseg;clear hseg;have hcellz:=hcell (k+nl p) (by omega);rw[Nat.zero_add] at hcellz;have HZ:=Lib.hid hcellz;clear hzl' hcellz;go_wp2_with fail;refine(CB w.heap.size k ((zs.drop k).take (nl p)) (n-k) (some ⟨bp,op,none⟩) (dg p) c' (nl p) y0 wr HSEG.out rfl hcell1 hsoft (by omega) (Rd.mk (Nat.lt_of_lt_of_le hbp hbel.size) (hcp.below hbel hbp)) (vO (hop.ne (c:=c') (Nat.le_refl _))) ((hz.drop k).take _) (aW p) hb2).mono ?_;rintro e w2 ⟨ts,c2,rfl,hcc0,hcc1,htl,ht,htv,hc2,ho2⟩;have HTL:=Lib.hid htl;have HTV:=Lib.hid htv;clear htl htv;have hcz:w2.cell? ⟨w.heap.size,k+nl p,none⟩=some (.int .u64 (zs.getD (k+nl p) 0)):=(ho2.rest _ (.inr (Nat.le_refl _))).trans HZ.out;have hfz:=(ho2.soft hsoft).free (k+nl p);go_wp2;go_roundw
        case rel=>
         have hzl':=hzl.out;have htl':=HTL.out;have hpl:=gQ (zs:=zs) (ts:=ts) (k:=k) (by omega);have hcs3:=(ho2.patch hcell htl' hc2 (by omega)).set (i:=k+nl p) (by omega) c2;rw[Nat.zero_add] at hcs3;refine⟨k+1,(patch zs ts k).set (k+nl p) c2,by omega,by go_num,?_,(nO hz ht k).set hcc0 hcc1 _,?_,?_,hcs3,(ho2.soft hsoft).set _ _,?_,?_⟩
         ·unfold Hid;rw[List.length_set];omega
         ·unfold Hid;have h9:=HTV.out;rw[bC] at h9;rw[KX hzl' (by omega) htl' h9 (hzero.out _ (Nat.le_refl _)),hval.out,HTS.out];grind
         ·intro j hj;rw[jM _ _ _ _ (by omega),vZ (by omega) (by omega)];exact hzero.out j (by omega)
         ·exact(ho2.belowOf hbel (Nat.le_refl _)).setCell (Nat.le_refl _) _
         ·rw[kJ];have:=ho2.grown.size;omega
        case measure=>simp[intOf];omega
       ·obtain rfl:k=nl s:=by omega
        go_wp2_with fail;refine(dI _ zs n n wr hzl.out (Rd.mk hlt hcell) (Nat.le_refl _) (by omega)).mono ?_;rintro e w4 ⟨rfl,rfl⟩;go_wp2;go_ret;refine⟨_,rfl,NatAt.trim (Rd.mk hlt hcell) hz ?_ (by rw[hzl.out];exact Nat.le_refl _) (Old.mk hlt),From.new (Nat.le_refl _),hbel⟩;rw[hval.out,List.take_of_length_le (by rw[aJ];exact Nat.le_refl _),bC,←heq.out,Int.natCast_mul]
    ·have hq2:((nl s:Int)==1)=false:=by simp;omega
     clear hq1 hcs0;obtain⟨half,hh1,hh2,hhe⟩:∃half:Nat,nl p≤2*half∧2*half≤nl p+1∧((nl p:Int)+1)/2=(half:Int):=⟨(nl p+1)/2,by omega,by omega,by omega⟩;by_cases hlong:nl s≤half
     ·go_wp2_with fail;refine(LL p s _ _ w ⟨_,_,rfl,hc',hrp,hop⟩ ⟨_,_,rfl,hd',hrs,hos⟩ h0 (by unfold aF;omega) hsp (ih.mono (by omega))).mono ?_;rintro e w1 ⟨v1,rfl,hv1,hf1,hb1⟩;go_wp2;go_ret;exact⟨_,rfl,by rw[←heq.out];exact hv1,HFR.out _ hf1,hb1⟩
     ·have hl1:((dg p).take half).length=half:=by rw[List.length_take,aJ];omega
      have hl2:((dg s).take half).length=half:=by rw[List.length_take,aJ];omega
      have hr1:Rd .u64 w (some ⟨bp,op,none⟩) ((dg p).take half):=hrp.take half;have hr2:Rd .u64 w (some ⟨bs,os,none⟩) ((dg s).take half):=hrs.take half;have nx0:NatAt w (.slice (some ⟨bp,op,none⟩) (trimL ((dg p).take half)).length c') (p%BN^half):=NatAt.trim hr1 ((aW p).take _) (nM p half) (by omega) hop;have ny0:NatAt w (.slice (some ⟨bs,os,none⟩) (trimL ((dg s).take half)).length d') (s%BN^half):=NatAt.trim hr2 ((aW s).take _) (nM s half) (by omega) hos
      have nx1:NatAt w (.slice (some ⟨bp,op+half,none⟩) (nl p-half) (c'-half)) (p/BN^half):=
       ⟨_,_,by rw[gW],by rw[gW];omega,by rw[←oN];exact Rd.mk hbp (hcp.drop half),Old.mk hbp⟩
      have ny1:NatAt w (.slice (some ⟨bs,os+half,none⟩) (nl s-half) (d'-half)) (s/BN^half):=
       ⟨_,_,by rw[gW],by rw[gW];omega,by rw[←oN];exact Rd.mk hbs (hcs.drop half),Old.mk hbs⟩
      have lx0:=nN p half;have ly0:=nN s half;have lx1:nl (p/BN^half)≤nl p-half:=by rw[gW];exact Nat.le_refl _
      have ly1:nl (s/BN^half)≤nl s-half:=by rw[gW];exact Nat.le_refl _
      have hkara:=KW p s (BN^half) (Nat.pow_pos (by decide));generalize p%BN^half=x0 at *;generalize p/BN^half=x1 at *;generalize s%BN^half=y0 at *;generalize s/BN^half=y1 at *;have HL1:=Lib.hid hl1;have HL2:=Lib.hid hl2;have HK:=Lib.hid hkara;clear hl1 hl2 hkara;generalize (dg p).take half=us at *;generalize (dg s).take half=vs at *;have i1:¬c'=half:=by omega
      have i2:¬d'=half:=by omega
      have i3:half≤nl p:=by omega
      have i4:half≤nl s:=by omega
      have i5:half≤c':=by omega
      have i6:half≤d':=by omega
      go_wp2;go_quiet ((go_at_call 127;exact sI (dI _ us half c' _ HL1.out (hr1.drewN _) i5 (by omega))));go_wp2;go_quiet ((go_at_call 127;exact BX (dI _ vs half d' _ HL2.out (hr2.drewN _) i6 (by omega))));go_wp2_with fail;refine(ih x0 y0 _ _ _ (by omega) (by unfold aF;omega) (nx0.drewN _) (ny0.drewN _)).mono ?_;rintro e w1 ⟨v1,rfl,⟨A1,c1,rfl,hc1,hr1,ho1⟩,hf1,hb1'⟩;have hb1:Below w.heap.size w w1:=(cH (Below.refl _ _) _).trans hb1';clear hb1' hf1;have hnx0:=nx0.below hb1;have hnx1:=nx1.below hb1;have hny0:=ny0.below hb1;have hny1:=ny1.below hb1;have hlow:NatAt w1 (.slice A1 (nl (x0*y0)) c1) (x0*y0):=⟨_,_,rfl,hc1,hr1,ho1⟩;clear nx0 nx1 ny0 ny1;go_wp2_with fail;refine(ih x1 y1 _ _ _ (by omega) (by unfold aF;omega) hnx1 hny1).mono ?_;rintro e w2 ⟨v2,rfl,⟨A2,c2,rfl,hc2,hr2,ho2⟩,hf2,hb2⟩;clear hf2;have hhigh:NatAt w2 (.slice A2 (nl (x1*y1)) c2) (x1*y1):=⟨_,_,rfl,hc2,hr2,ho2⟩;go_wp2_with fail;refine(oQ x0 x1 _ _ _ (hnx0.below hb2) (hnx1.below hb2) (by omega) (by omega)).mono ?_;rintro e w3 ⟨v3,rfl,hv3,hf3,hb3⟩;clear hf3;go_wp2_with fail;refine(oQ y0 y1 _ _ _ ((hny0.below hb2).below hb3) ((hny1.below hb2).below hb3) (by omega) (by omega)).mono ?_;rintro e w4 ⟨v4,rfl,hv4,hf4,hb4⟩;clear hf4;have la1:=oL x0 x1;have la2:=oL y0 y1;go_wp2_with fail;refine(ih (x0+x1) (y0+y1) _ _ _ (by omega) (by unfold aF;omega) (hv3.below hb4) hv4).mono ?_;rintro e w5 ⟨v5,rfl,hv5,hf5,hb5⟩;clear hf5;have lm:=cJ (x0+x1) (y0+y1);have hb25:Below w2.heap.size w2 w5:=(aB hb3 hb4).trans (hb5.mono (Nat.le_trans hb3.size hb4.size));have hb15:Below w1.heap.size w1 w5:=aB hb2 hb25;clear hv3 hv4 hnx0 hnx1 hny0 hny1;go_wp2_with fail;refine(nQ ((x0+x1)*(y0+y1)) (x0*y0) _ _ _ hv5 (hlow.below hb15) (by omega) HK.out.2.1).mono ?_;rintro e w6 ⟨v6,rfl,hv6,hf6,hb6⟩;clear hf6;have lm2:=aX (Nat.sub_le ((x0+x1)*(y0+y1)) (x0*y0));go_wp2_with fail;refine(nQ ((x0+x1)*(y0+y1)-x0*y0) (x1*y1) _ _ _ hv6 ((hhigh.below hb25).below hb6) (by omega) HK.out.2.2).mono ?_;rintro e w7 ⟨v7,rfl,⟨A7,c7,rfl,hc7,hr7,ho7⟩,hf7,hb7⟩;clear hf7;have hb57:Below w5.heap.size w5 w7:=aB hb6 hb7;have hb27:Below w2.heap.size w2 w7:=aB hb25 hb57;have hb17:Below w1.heap.size w1 w7:=aB hb2 hb27;have hb07:Below w.heap.size w w7:=aB hb1 hb17;have hrl:=hr1.below hb17;have hrh:=hr2.below hb27;clear hv5 hv6 hb2 hb3 hb4 hb5 hb6 hb7 hb25 hb15 hb57 hb27 hb17 hb1 hr1 hr2 hlow hhigh la1 la2 lm lm2;have ll:=cJ x0 y0;have lh:=cJ x1 y1;have heqk:=HK.out.1;generalize hme:(x0+x1)*(y0+y1)-x0*y0-x1*y1=m at *;clear hme;generalize x0*y0=lo at *;generalize x1*y1=hi at *;have HKE:=Lib.hid heqk;clear heqk HK;obtain⟨n,hnl1,hnl2,HNL⟩:∃n,nl p+nl s≤n∧n≤nl p+nl s∧Hid (nl p+nl s=n):=⟨_,Nat.le_refl _,Nat.le_refl _,rfl⟩;have j1:¬n=2*half:=by omega
      have j2:¬n=half:=by omega
      have j3:2*half≤n:=by omega
      have j4:half≤n:=by omega
      go_wp2_with (first
       |(at_make;refine gN rfl rfl .u64 161 8 Tryz.underlying48 eY n rfl rfl (by omega) (by omega) (by omega) (by omega) ?_;intro w8 hz8 hs8 hc8 hb8)
       |(with_reducible refine iT rfl (d:= .tmp 125) (s:= .tmp 126) rfl .u64 161 Tryz.underlying48 iI rfl rfl w7.heap.size 0 (List.replicate n 0) (dg lo) (by simp) rfl (fun _=>rfl) hc8 hs8 (hrl.below hb8) ?_;intro w9 hc9 ho9;generalize hze:bJ (List.replicate n 0) (dg lo)=zs9 at hc9;have HZE:=Lib.hid hze;clear hze;have hc9d:Cells .u64 w9 w7.heap.size (2*half) (zs9.drop (2*half)):=(by have:=hc9.drop (2*half);rwa [Nat.zero_add] at this))
       |(with_reducible refine iT rfl (d:= .tmp 131) (s:= .tmp 132) rfl .u64 161 Tryz.underlying48 iI rfl rfl w7.heap.size (2*half) (zs9.drop (2*half)) (dg hi) (by rw[←HZE.out,List.length_drop,iE,List.length_replicate]) rfl (fun _=>rfl) hc9d (ho9.soft hs8) (ho9.rd (hrh.below hb8) (fun b o e h=>(hrh.lt_of e h))) ?_;intro w10 hc10 ho10))
      have hfill:=KY (lo:=lo) (hi:=hi) (h:=half) (n:=n) (by omega) j3 (by omega);rw[HZE.out] at hfill;obtain⟨f1,f2,f3,f4,f5⟩:=hfill;have hdl:(zs9.drop (2*half)).length=n-2*half:=by rw[List.length_drop,f4]
      rw[hdl] at ho10;rw[List.length_replicate] at ho9;have hc10z:=ho10.patch hc9 f1 hc10 (by omega);have hpl:=gQ (zs:=zs9) (ts:=bJ (zs9.drop (2*half)) (dg hi)) (k:=2*half) (by omega);have hpr:=nO f3 f2 (2*half);generalize patch zs9 (bJ (zs9.drop (2*half)) (dg hi)) (2*half)=zs at *;clear f1 f2 hc10 hdl hc9d;have hb9:Below w7.heap.size w7 w9:=ho9.belowOf hb8 (Nat.le_refl _);have hb10:Below w7.heap.size w7 w10:=ho10.belowOf hb9 (Nat.le_refl _);have hs10:=ho10.soft (ho9.soft hs8);have hvz:aD aA zs+aA^half*(m:Int)=((p*s:Nat):Int):=by
       rw[f5,HKE.out];simp only[Int.natCast_add,Int.natCast_mul,Int.natCast_pow];rw[show((BN:Nat):Int)=aA from rfl,show(2*half)=half+half by omega,Int.pow_add];grind
      have htl:((p*s:Nat):Int)<aA^n:=by
       rw[←HNL.out,←fO,Nat.pow_add];have h2:=Nat.mul_lt_mul'' (bX p) (bX s);omega
      have hfit:=CA (z:=0) zs hpr (by omega) (by omega) hvz htl;have hmn:nl m≤n-half:=by
       refine bI ?_;have h0:=dM aM (hpr.drop half);have:(m:Int)<((BN^(n-half):Nat):Int):=by rw[fO];omega
       omega
      have hczd:Cells .u64 w10 w7.heap.size half (zs.drop half):=by have:=hc10z.drop half;rwa [Nat.zero_add] at this
      have hlz:zs.length=n:=by omega
      refine(sM w7.heap.size half (n-half) (zs.drop half) (n-half) A7 (nl m) (dg m) c7 w10 (by rw[List.length_drop,hlz]) rfl hczd hs10 (Nat.le_refl _) (by omega) (hr7.below hb10) (fun b o e h=>hr7.lt_of e h) hmn (hpr.drop half) (aW m) (by rw[bC];exact hfit)).mono ?_;rintro e w11 ⟨rfl,ts,htl2,ht,htv,hc11,ho11⟩;have hc11z:=ho11.patch hc10z htl2 hc11 (by omega);have hval:aD aA (patch zs ts half)=((p*s:Nat):Int):=by
       rw[oO (by omega),htv,htl2,List.take_of_length_le (by rw[List.length_drop];omega),bC,←hvz];grind
      have hln:(patch zs ts half).length=n:=by rw[gQ (by omega),hlz]
      have hin:=nO hpr ht half;generalize patch zs ts half=fin at *;have hltf:w7.heap.size<w11.heap.size:=by have:=ho11.grown.size;have:=ho10.grown.size;have:=ho9.grown.size;omega
      have hbf:Below w7.heap.size w7 w11:=ho11.belowOf hb10 (Nat.le_refl _);have HVAL:=Lib.hid hval;have HLN:=Lib.hid hln;clear hval hln htv htl2 hvz hlz hpl f5 f4;go_wp2_with fail;refine(dI _ fin n n w11 HLN.out (Rd.mk hltf hc11z) (Nat.le_refl _) (by omega)).mono ?_;rintro e w12 ⟨rfl,rfl⟩;go_wp2;go_ret;exact⟨_,rfl,NatAt.trim (Rd.mk hltf hc11z) hin (by rw[HVAL.out,heq.out]) (by rw[HLN.out];exact Nat.le_refl _) (Old.mk hltf),From.new hb07.size,aB hb07 hbf⟩
theorem LI (N:Nat):MulOK N:=by
 induction N with
 |zero=>intro x y vx vy w h;omega
 |succ N ih=>exact LH N ih
theorem mB (x y:Nat) (vx vy:Value) (w:World) (hx:NatAt w vx x) (hy:NatAt w vy y) (hlim:nl x+nl y≤aF):
  Calls Tryz.prog 121 #[vx,vy] w (fY w [vx,vy] (x*y)):=LI _ x y vx vy w (Nat.lt_succ_self _) hlim hx hy
theorem jO (x:Int):IntKind.u64.wrap x=cB x:=by
 unfold cB;simp[IntKind.wrap,IntKind.bits,IntKind.signed]
theorem jP {sh:Nat} (h:sh≤64):(2:Int)^sh*2^(64-sh)=aA:=by
 rw[←Int.pow_add,show sh+(64-sh)=64 by omega];rfl
theorem cN (n:Nat):(0:Int)<2^n:=Int.pow_pos (by decide)
theorem CF (a:Int) {sh:Nat} (h:sh≤64):a/2^(64-sh)=eX (a*2^sh):=by
 unfold eX;have e:=jP h;have h1:=cN sh;have h2:=cN (64-sh);rw[show(18446744073709551616:Int)=2^(64-sh)*2^sh by rw[Int.mul_comm,e];rfl];rw[Int.mul_ediv_mul_of_pos_left _ _ h1]
theorem wI {a:Int} (h0:0≤a) (h1:a<aA) (sh:Nat):0≤eX (a*2^sh)∧eX (a*2^sh)<2^sh:=
 pT (Int.mul_nonneg h0 (Int.le_of_lt (cN sh))) (Int.mul_lt_mul_of_pos_right h1 (cN sh))
theorem CG (a:Int) {sh:Nat} (h:sh≤64):∃q,cB (a*2^sh)=2^sh*q:=by
 have e:=vX (a*2^sh);have e2:=jP h;refine⟨a-2^(64-sh)*eX (a*2^sh),?_⟩;rw[Int.mul_sub,←Int.mul_assoc,e2];rw[Int.mul_comm (2^sh) a];omega
theorem wJ {z y:Int} {sh:Nat} (h:sh≤64) (hz0:0≤z) (hz:z<2^sh) (hy0:0≤y) (hy:y<aA) (hd:∃q,y=2^sh*q):bits .or .u64 z y=z+y:=by
 have hp:(2:Int)^sh≤aA:=by
  have e:=jP h;have h2:=cN (64-sh);have h1:=cN sh;have:(2:Int)^sh*1≤2^sh*2^(64-sh):=Int.mul_le_mul_of_nonneg_left (by omega) (by omega);omega
 rw[u64_or z y hz0 (by unfold aA at hp;omega) hy0 (by unfold aA at hy;omega)];obtain⟨q,rfl⟩:=hd;have hq0:0≤q:=by
  rcases Int.lt_or_le q 0 with hq|hq
  ·have:=Int.mul_neg_of_pos_of_neg (cN sh) hq;omega
  ·exact hq
 obtain⟨q,rfl⟩:=Int.eq_ofNat_of_zero_le hq0;obtain⟨z,rfl⟩:=Int.eq_ofNat_of_zero_le hz0;have e1:((2:Int)^sh*(q:Int))=((2^sh*q:Nat):Int):=by simp
 rw[e1,Int.toNat_natCast,Int.toNat_natCast,←Int.natCast_add];congr 1;have hz':z<2^sh:=by
  have:(z:Int)<((2^sh:Nat):Int):=by simpa using hz
  omega
 rw[Nat.or_comm,←Nat.two_pow_add_eq_or_of_lt hz' q];omega
theorem nV:BN=2^64:=rfl
theorem qA (sk sh:Nat):(2:Nat)^(64*sk+sh)=BN^sk*2^sh:=by rw[Nat.pow_add,Nat.pow_mul,nV]
theorem wK (b:Int) {sh:Nat} (h:sh≤64):cB (b*2^(64-sh))=b%2^sh*2^(64-sh):=by
 have e:=jP h;have h1:=cN sh;have h2:=cN (64-sh);have e2:=Int.emod_add_mul_ediv b (2^sh);have h3:=Int.emod_nonneg b (show(2:Int)^sh≠0 by omega);have h4:=Int.emod_lt_of_pos b h1;refine Split.lo (c:=b/2^sh) ⟨?_,Int.mul_nonneg h3 (by omega),?_⟩
 ·rw[←e];generalize b%2^sh=r at *;generalize b/2^sh=d at *;rw[←e2];grind
 ·rw[←e];exact Int.mul_lt_mul_of_pos_right h4 h2
theorem LF {zs us:List Int} {k sh:Nat} {z r0:Int} (h:sh≤64) (hk:k<us.length) (hz:k<zs.length) (h0:zs.getD k 0=0)
  (he:z=us.getD k 0/2^sh+us.getD (k+1) 0%2^sh*2^(64-sh))
  (hv:2^sh*aD aA zs+r0=aD aA (us.take k)+us.getD k 0%2^sh*aA^k):
  2^sh*aD aA (zs.set k z)+r0=aD aA (us.take (k+1))+us.getD (k+1) 0%2^sh*aA^(k+1):=by
 rw[kO _ _ _ _ hz,h0,gF _ _ _ hk,he,Int.pow_succ];have e:=jP h;have e2:=Int.emod_add_mul_ediv (us.getD k 0) (2^sh);generalize us.getD k 0=u at *;generalize us.getD (k+1) 0%2^sh=r at *;generalize u%2^sh=t at *;generalize u/2^sh=d at *;generalize (2:Int)^(64-sh)=q at *;generalize (2:Int)^sh=p at *;generalize aA^k=m at *;generalize aD aA zs=s at *;generalize aD aA (us.take k)=u0 at *;generalize aA=b at *;subst e e2;grind
theorem LG {zv uv r0:Int} {sh:Nat} (h:2^sh*zv+r0=uv) (h0:0≤r0) (h1:r0<2^sh):zv=uv/2^sh:=by
 rw[←h,Int.add_comm,Int.add_mul_ediv_left _ _ (by have:=cN sh;omega),Int.ediv_eq_zero_of_lt h0 h1,Int.zero_add]
theorem MA {zs xs:List Int} {k sk sh:Nat} {a L H:Int} (hk:k<xs.length) (ha:xs.getD k 0=a) (hz:k+sk+1<zs.length) (hs:Split (a*2^sh) L H) (h0:zs.getD (k+sk+1) 0=0)
  (hv:aD aA zs=aA^sk*2^sh*aD aA (xs.take k)):
  aD aA ((zs.set (k+sk) (zs.getD (k+sk) 0+L)).set (k+sk+1) H)=aA^sk*2^sh*aD aA (xs.take (k+1)):=by
 rw[kO _ _ _ _ (by rw[List.length_set];exact hz),jM _ _ _ _ (by omega),h0,kO _ _ _ _ (by omega),hv,gF _ _ _ hk,ha];have e:=hs.1;rw[Int.pow_succ,Int.pow_add];have e2:aA^k*aA^sk*(L+aA*H)=aA^k*aA^sk*(a*2^sh):=by rw[e]
 grind
theorem t6 (x:Nat) (n:Nat) (vx:Value) (w:World) (hx:NatAt w vx x) (hn:n<18446744073709551616) (hlim:nl x+n/64+1≤aF):
  Calls Tryz.prog 159 #[vx,.int .u64 n] w (fY w [vx] (x*2^n)):=by
 unfold aF at hlim;obtain⟨A,c,rfl,hc,hrx,hox⟩:=hx;by_cases h0:nl x=0
 ·have q0:((nl x:Int)==0)=true:=by simp;omega
  have H0:=Lib.hid (mU h0);clear h0;go_enter Tryz.func159,Tryz.ntmps159;go_wp2;go_ret;refine⟨_,rfl,?_,From.mem (by simp),Below.refl _ _⟩;rw[show x*2^n=x by rw[H0.out,Nat.zero_mul]];exact⟨A,c,rfl,hc,hrx,hox⟩
 ·by_cases h1:n=0
  ·have q0:((nl x:Int)==0)=false:=by simp;omega
   subst h1;go_enter Tryz.func159,Tryz.ntmps159;go_wp2;go_ret;refine⟨_,rfl,?_,From.mem (by simp),Below.refl _ _⟩;rw[Nat.pow_zero,Nat.mul_one];exact⟨A,c,rfl,hc,hrx,hox⟩
  ·have q0:((nl x:Int)==0)=false:=by simp;omega
   have q1:((n:Int)==0)=false:=by simp;omega
   obtain⟨b,off,rfl,hb,hcx⟩:=hrx.at_ (by rw[aJ];omega);obtain⟨sk,hsk1,hsk2,HSK⟩:∃sk:Nat,nl x+sk+1≤17592186044416∧(n:Int)/64=(sk:Int)∧Hid (n/64=sk):=⟨n/64,hlim,by omega,rfl⟩;obtain⟨sh,hsh1,hsh2,HSH⟩:∃sh:Nat,sh<64∧(n:Int)%64=(sh:Int)∧Hid (n%64=sh):=⟨n%64,by omega,by omega,rfl⟩;obtain⟨m,hm1,hm2,HM⟩:∃m,nl x+sk+1≤m∧m≤nl x+sk+1∧Hid (nl x+sk+1=m):=⟨_,Nat.le_refl _,Nat.le_refl _,rfl⟩;go_enter Tryz.func159,Tryz.ntmps159;go_wp2_with (at_make;refine gN rfl rfl .u64 161 8 Tryz.underlying48 eY m rfl rfl (by omega) (by omega) (by omega) (by omega) ?_;intro w1 hz1 hs1 hc1 hb1)
   go_loopw [31] (fun i wr=>∃(k:Nat) (zs:List Int),k≤nl x∧i= .int .i64 k∧Hid (zs.length=m)∧InR aA zs∧Hid (zs.getD (k+sk) 0<2^sh)∧Hid (∀j,k+sk+1≤j→zs.getD j 0=0)∧
    Hid (aD aA zs=aA^sk*2^sh*aD aA ((dg x).take k))∧Cells .u64 wr w.heap.size 0 zs∧Soft wr w.heap.size∧Below w.heap.size w wr∧w.heap.size<wr.heap.size) (fun i _=>nl x-(intOf i).toNat)
   case atStart=>
    have hrep:∀j,(List.replicate m (0:Int)).getD j 0=0:=fun j=>by simp[List.getElem?_replicate];split<;>rfl
    exact⟨0,_,Nat.zero_le _,rfl,by simp[Hid],InR.replicate aM _,by unfold Hid;rw[hrep];exact cN sh,fun j _=>hrep j,by simp[Hid,iU],hc1,hs1,hb1,hz1⟩
   case round=>
    obtain⟨k,zs,hk,rfl,hzl,hz,hlow,hzero,hval,hcell,hsoft,hbel,hlt⟩:=hrel;by_cases hkx:k<nl x
    ·have g1:=(hcx.below hbel hb) k (by rw[aJ];omega);have g2:=hcell (k+sk) (by have:=hzl.out;omega);have g3:=hcell (k+sk+1) (by have:=hzl.out;omega);rw[Nat.zero_add] at g2 g3;have hf:=fun j=>hsoft.free j;have ha:=(aW x).getD aM k;have hz0:=(hz.getD aM (k+sk)).1;generalize hae:(dg x).getD k 0=a at *;obtain⟨L,H,hs⟩:=fK (a*2^sh);have hsr:a/2^(64-sh)=H:=by rw[CF a (by omega),hs.hi]
     have hsl:IntKind.u64.wrap (a*2^sh)=L:=by rw[jO,hs.lo]
     have hor:bits .or .u64 (zs.getD (k+sk) 0) L=zs.getD (k+sk) 0+L:=by
      rw[←hs.lo];exact wJ (by omega) hz0 hlow.out (iH _).1 (iH _).2 (CG a (by omega))
     have hHb:=wI ha.1 ha.2 sh;rw[hs.hi] at hHb;have hsum:zs.getD (k+sk) 0+L<aA:=by
      obtain⟨q,hq⟩:=CG a (show sh≤64 by omega);rw[hs.lo] at hq;have e:=jP (show sh≤64 by omega);have hLb:=hs.2.2;have hl:=hlow.out;rw[hq,←e] at hLb;have h9:q<2^(64-sh):=Int.lt_of_mul_lt_mul_left hLb (Int.le_of_lt (cN sh));have h10:(2:Int)^sh*(q+1)≤2^sh*2^(64-sh):=Int.mul_le_mul_of_nonneg_left (by omega) (Int.le_of_lt (cN sh));rw[Int.mul_add,Int.mul_one] at h10;rw[hq];omega
     have hstep:=MA (k:=k) (sk:=sk) (sh:=sh) (by rw[aJ];omega) hae (by have:=hzl.out;omega) hs (hzero.out _ (Nat.le_refl _)) hval.out;generalize hz0e:zs.getD (k+sk) 0=z0 at *;generalize hz1e:zs.getD (k+sk+1) 0=z1 at *;have HST:=Lib.hid hstep;have HAE:=Lib.hid hae;have HZ0:=Lib.hid hz0e;have HZ1:=Lib.hid hz1e;have HS:=Lib.hid hs;have HC:=Lib.hid hcell;clear hstep hae hz0e hz1e hs hcell hHb;go_wp2;go_roundw
     case rel=>
      have hs':=HS.out;have hHb:=wI ha.1 ha.2 sh;rw[hs'.hi] at hHb;have hzl':=hzl.out;have hp:(2:Int)^sh≤aA:=by
       have e:=jP (show sh≤64 by omega);have h2:=cN (64-sh);have h1:=cN sh;have:(2:Int)^sh*1≤2^sh*2^(64-sh):=Int.mul_le_mul_of_nonneg_left (by omega) (by omega);omega
      have hc2:=(HC.out.set (i:=k+sk) (by omega) (z0+L)).set (i:=k+sk+1) (by rw[List.length_set];omega) H;rw[Nat.zero_add,Nat.zero_add] at hc2;refine⟨k+1,(zs.set (k+sk) (z0+L)).set (k+sk+1) H,by omega,by go_num,?_,(hz.set (by have:=hs'.2.1;omega) hsum _).set hHb.1 (by omega) _,?_,?_,HST,hc2,(hsoft.set _ _).set _ _,(hbel.setCell (Nat.le_refl _) _).setCell (Nat.le_refl _) _,?_⟩
      ·unfold Hid;rw[List.length_set,List.length_set];exact hzl'
      ·unfold Hid;rw[show k+1+sk=k+sk+1 by omega,List.getD_eq_getElem?_getD,List.getElem?_set_self (by rw[List.length_set];omega)];exact hHb.2
      ·intro j hj;rw[jM _ _ _ _ (by omega),jM _ _ _ _ (by omega)];exact hzero.out j (by omega)
      ·rw[kJ,kJ];exact hlt
     case measure=>simp[intOf];omega
    ·obtain rfl:k=nl x:=by omega
     go_wp2_with fail;refine(dI _ zs m m wr hzl.out (Rd.mk hlt hcell) (Nat.le_refl _) (by omega)).mono ?_;rintro e w4 ⟨rfl,rfl⟩;go_wp2;go_ret;refine⟨_,rfl,NatAt.trim (Rd.mk hlt hcell) hz ?_ (by rw[hzl.out];exact Nat.le_refl _) (Old.mk hlt),From.new (Nat.le_refl _),hbel⟩;have e:n=64*sk+sh:=by have h1:=HSK.out;have h2:=HSH.out;omega
     rw[hval.out,List.take_of_length_le (by rw[aJ];exact Nat.le_refl _),bC,e,qA];simp only[Int.natCast_mul,Int.natCast_pow];rw[show((BN:Nat):Int)=aA from rfl,Int.mul_comm];rfl
theorem CV (x:Nat) (n:Nat) (vx:Value) (w:World) (hx:NatAt w vx x) (hn:n<18446744073709551616) (hlim:nl x≤aF):
  Calls Tryz.prog 210 #[vx,.int .u64 n] w (fY w [vx] (x/2^n)):=by
 unfold aF at hlim;obtain⟨A,c,rfl,hc,hrx,hox⟩:=hx;obtain⟨sk,hsk1,hsk2,HSK⟩:∃sk:Nat,sk<18446744073709551616∧(n:Int)/64=(sk:Int)∧Hid (n/64=sk):=⟨n/64,by omega,by omega,rfl⟩;obtain⟨sh,hsh1,hsh2,HSH⟩:∃sh:Nat,sh<64∧(n:Int)%64=(sh:Int)∧Hid (n%64=sh):=⟨n%64,by omega,by omega,rfl⟩;have HN:Hid (n=64*sk+sh):=by have h1:=HSK.out;have h2:=HSH.out;unfold Hid;omega
 by_cases h0:nl x≤sk
 ·have HZ:Hid (x/2^n=0):=by
   unfold Hid;rw[HN.out,qA];refine Nat.div_eq_of_lt ?_;have h1:=bX x;have h2:BN^nl x≤BN^sk:=Nat.pow_le_pow_right (by decide) h0;have h3:BN^sk*1≤BN^sk*2^sh:=Nat.mul_le_mul_left _ (Nat.pow_pos (by decide));omega
  go_enter Tryz.func210,Tryz.ntmps210;go_wp2;go_ret;refine⟨_,rfl,?_,From.none,Below.refl _ _⟩;rw[HZ.out];exact NatAt.nil _
 ·obtain⟨b,off,rfl,hb,hcx⟩:=hrx.at_ (by rw[aJ];omega);obtain⟨m,hm1,hm2,HM⟩:∃m,nl x≤m+sk∧m+sk≤nl x∧Hid (nl x-sk=m):=⟨nl x-sk,by omega,by omega,rfl⟩;go_enter Tryz.func210,Tryz.ntmps210;go_wp2_with (at_make;refine gN rfl rfl .u64 161 8 Tryz.underlying48 eY m rfl rfl (by omega) (by omega) (by omega) (by omega) ?_;intro w1 hz1 hs1 hc1 hb1)
  go_loopw [27] (fun i wr=>∃(k:Nat) (zs:List Int),k≤m∧i= .int .i64 k∧Hid (zs.length=m)∧InR aA zs∧Hid (∀j,k≤j→zs.getD j 0=0)∧
   Hid (2^sh*aD aA zs+((dg x).drop sk).getD 0 0%2^sh=aD aA (((dg x).drop sk).take k)+((dg x).drop sk).getD k 0%2^sh*aA^k)∧
   Cells .u64 wr w.heap.size 0 zs∧Soft wr w.heap.size∧Below w.heap.size w wr∧w.heap.size<wr.heap.size) (fun i _=>m-(intOf i).toNat)
  case atStart=>
   have hrep:∀j,(List.replicate m (0:Int)).getD j 0=0:=fun j=>by simp[List.getElem?_replicate];split<;>rfl
   exact⟨0,_,Nat.zero_le _,rfl,by simp[Hid],InR.replicate aM _,fun j _=>hrep j,by simp[Hid,iU],hc1,hs1,hb1,hz1⟩
  case round=>
   obtain⟨k,zs,hk,rfl,hzl,hz,hzero,hval,hcell,hsoft,hbel,hlt⟩:=hrel;by_cases hkx:k<m
   ·have hdx:∀j,((dg x).drop sk).getD j 0=(dg x).getD (j+sk) 0:=fun j=>by simp only[List.getD_eq_getElem?_getD,List.getElem?_drop,Nat.add_comm]
    have g1:=(hcx.below hbel hb) (k+sk) (by rw[aJ];omega);have g2:=hcell k (by have:=hzl.out;omega);rw[Nat.zero_add] at g2;have hf:=fun j=>hsoft.free j;have ha:=(aW x).getD aM (k+sk);have hb0:=(aW x).getD aM (k+sk+1);have hz0:=hzero.out k (Nat.le_refl _);rw[←hdx k] at ha g1;rw[show k+sk+1=k+1+sk by omega,←hdx (k+1)] at hb0
    have hstep:=fun (z:Int) (he:z=((dg x).drop sk).getD k 0/2^sh+((dg x).drop sk).getD (k+1) 0%2^sh*2^(64-sh))=>
     LF (zs:=zs) (z:=z) (by omega) (by rw[List.length_drop,aJ];omega) (by have:=hzl.out;omega) hz0 he hval.out
    have hquo0:0≤((dg x).drop sk).getD k 0/2^sh:=Int.ediv_nonneg ha.1 (Int.le_of_lt (cN sh));have hquo1:((dg x).drop sk).getD k 0/2^sh<2^(64-sh):=by
     refine Int.ediv_lt_of_lt_mul (cN sh) ?_;rw[Int.mul_comm,jP (by omega)];exact ha.2
    have hp:(2:Int)^(64-sh)≤aA:=by
     have e:=jP (show sh≤64 by omega);have h1:=cN sh;have h2:=cN (64-sh);have:1*(2:Int)^(64-sh)≤2^sh*2^(64-sh):=Int.mul_le_mul_of_nonneg_right (by omega) (by omega);omega
    by_cases hlast:k+sk+1<nl x
    ·have g3:=(hcx.below hbel hb) (k+sk+1) (by rw[aJ];omega);rw[show k+sk+1=k+1+sk by omega,←hdx (k+1),show k+1+sk=k+sk+1 by omega] at g3;have hlo:IntKind.u64.wrap (((dg x).drop sk).getD (k+1) 0*2^(64-sh))=((dg x).drop sk).getD (k+1) 0%2^sh*2^(64-sh):=by rw[jO,wK _ (by omega)]
     have hor:bits .or .u64 (((dg x).drop sk).getD k 0/2^sh) (((dg x).drop sk).getD (k+1) 0%2^sh*2^(64-sh))=((dg x).drop sk).getD k 0/2^sh+((dg x).drop sk).getD (k+1) 0%2^sh*2^(64-sh):=by
      rw[←wK _ (by omega)];exact wJ (by omega) hquo0 hquo1 (iH _).1 (iH _).2 ⟨((dg x).drop sk).getD (k+1) 0%2^sh,by rw[wK _ (by omega),Int.mul_comm]⟩
     have hzr:0≤((dg x).drop sk).getD k 0/2^sh+((dg x).drop sk).getD (k+1) 0%2^sh*2^(64-sh)∧((dg x).drop sk).getD k 0/2^sh+((dg x).drop sk).getD (k+1) 0%2^sh*2^(64-sh)<aA:=by
      have h1:=Int.emod_nonneg (((dg x).drop sk).getD (k+1) 0) (show(2:Int)^sh≠0 by have:=cN sh;omega);have h2:=Int.emod_lt_of_pos (((dg x).drop sk).getD (k+1) 0) (cN sh);have h3:(((dg x).drop sk).getD (k+1) 0%2^sh+1)*2^(64-sh)≤2^sh*2^(64-sh):=Int.mul_le_mul_of_nonneg_right (by omega) (Int.le_of_lt (cN _));rw[jP (by omega),Int.add_mul,Int.one_mul] at h3;have h4:=Int.mul_nonneg h1 (Int.le_of_lt (cN (64-sh)));omega
     have hst:=hstep _ rfl;generalize ((dg x).drop sk).getD (k+1) 0%2^sh*2^(64-sh)=hiP at *;generalize hqe:((dg x).drop sk).getD k 0/2^sh=loP at *;generalize hue:((dg x).drop sk).getD k 0=u0 at *;generalize hve:((dg x).drop sk).getD (k+1) 0=u1 at *;generalize hze:zs.getD k 0=z0 at *;have HST:=Lib.hid hst;have HUE:=Lib.hid hue;have HVE:=Lib.hid hve;have HC:=Lib.hid hcell;clear hst hstep hue hve hze hcell hdx hz0;have hne:b≠w.heap.size:=by omega
     go_wp2;have k1:(wr.setCell ⟨w.heap.size,k,none⟩ (.int .u64 loP)).cell? ⟨w.heap.size,k,none⟩=some (.int .u64 loP):=World.cell?_setCell_same _ _ _ g2;have k2:(wr.setCell ⟨w.heap.size,k,none⟩ (.int .u64 loP)).cell? ⟨b,off+(k+sk+1),none⟩=some (.int .u64 u1):=(World.cell?_setCell_other _ _ _ _ (by intro e;injection e;omega)).trans g3;have k3:∀j,(wr.setCell ⟨w.heap.size,k,none⟩ (.int .u64 loP)).frozen? ⟨w.heap.size,j,none⟩=false:=fun j=>(hsoft.set _ _).free j;have hon:Only w.heap.size 0 m wr (wr.setCell ⟨w.heap.size,k,none⟩ (.int .u64 loP)):=by have:=(Only.refl w.heap.size 0 m wr).set (i:=k) (by omega) (.int .u64 loP);rwa [Nat.zero_add] at this
     have hcz:Cells .u64 (wr.setCell ⟨w.heap.size,k,none⟩ (.int .u64 loP)) w.heap.size 0 (zs.set k loP):=by have:=HC.out.set (i:=k) (by have:=hzl.out;omega) loP;rwa [Nat.zero_add] at this
     generalize wr.setCell ⟨w.heap.size,k,none⟩ (.int .u64 loP)=w2 at *;have HCZ:=Lib.hid hcz;have HON:=Lib.hid hon;clear hcz hon g1 g2 g3 hf;go_region;go_wp2;go_roundw
     case rel=>
      have hc3:=HCZ.out.set (i:=k) (by rw[List.length_set];have:=hzl.out;omega) (loP+hiP);rw[Nat.zero_add,List.set_set] at hc3;have hon2:=HON.out;have hsz:=hon2.grown.size;refine⟨k+1,zs.set k (loP+hiP),by omega,by go_num,?_,hz.set hzr.1 hzr.2 _,?_,?_,hc3,((hon2.soft hsoft).set _ _),?_,?_⟩
      ·unfold Hid;rw[List.length_set];exact hzl.out
      ·intro j hj;rw[jM _ _ _ _ (by omega)];exact hzero.out j (by omega)
      ·unfold Hid;rw[HVE.out];exact HST.out
      ·exact((hon2.belowOf hbel (Nat.le_refl _)).drew).setCell (Nat.le_refl _) _
      ·show _<((w2.drew).setCell _ _).heap.size
       rw[kJ];exact Nat.lt_of_lt_of_le hlt hsz
     case measure=>simp[intOf];omega
    ·have hu1:((dg x).drop sk).getD (k+1) 0=0:=by
      rw[hdx,List.getD_eq_getElem?_getD,List.getElem?_eq_none (by rw[aJ];omega)];rfl
     have hst:=hstep (((dg x).drop sk).getD k 0/2^sh) (by rw[hu1];simp);rw[hu1] at hst;generalize hqe:((dg x).drop sk).getD k 0/2^sh=loP at *;generalize hue:((dg x).drop sk).getD k 0=u0 at *;generalize hze:zs.getD k 0=z0 at *;have HST:=Lib.hid hst;have HUE:=Lib.hid hue;have HU1:=Lib.hid hu1;have HC:=Lib.hid hcell;clear hst hstep hue hze hcell hdx hz0 hu1;go_wp2;go_roundw
     case rel=>
      have hc3:=HC.out.set (i:=k) (by have:=hzl.out;omega) loP;rw[Nat.zero_add] at hc3;refine⟨k+1,zs.set k loP,by omega,by go_num,?_,hz.set hquo0 (by omega) _,?_,?_,hc3,hsoft.set _ _,hbel.setCell (Nat.le_refl _) _,?_⟩
      ·unfold Hid;rw[List.length_set];exact hzl.out
      ·intro j hj;rw[jM _ _ _ _ (by omega)];exact hzero.out j (by omega)
      ·unfold Hid;rw[HU1.out];exact HST.out
      ·rw[kJ];exact hlt
     case measure=>simp[intOf];omega
   ·obtain rfl:k=m:=by omega
    go_wp2_with fail;refine(dI _ zs k k wr hzl.out (Rd.mk hlt hcell) (Nat.le_refl _) (by omega)).mono ?_;rintro e w4 ⟨rfl,rfl⟩;go_wp2;go_ret;refine⟨_,rfl,NatAt.trim (Rd.mk hlt hcell) hz ?_ (by rw[hzl.out];exact Nat.le_refl _) (Old.mk hlt),From.new (Nat.le_refl _),hbel⟩;have hv:=hval.out;have hlen:((dg x).drop sk).length=k:=by rw[List.length_drop,aJ];exact HM.out
    rw[List.take_of_length_le (by omega),List.getD_eq_getElem?_getD (i:=k),List.getElem?_eq_none (by omega),pU] at hv;have h2:=LG (sh:=sh) hv (Int.emod_nonneg _ (by have:=cN sh;omega)) (Int.emod_lt_of_pos _ (cN sh));rw[h2,HN.out,qA,←Nat.div_div_eq_div_mul];simp
theorem M8 (f:Nat):Lib.bitLenAux f 0=0:=by cases f<;>simp[Lib.bitLenAux]
theorem CS (f x:Nat) (h:x<2^f):x<2^Lib.bitLenAux f x∧(x≠0→2^(Lib.bitLenAux f x-1)≤x∧0<Lib.bitLenAux f x):=by
 induction f generalizing x with
 |zero=>simp at h;subst h;simp[Lib.bitLenAux]
 |succ f ih=>
  by_cases h0:x=0
  ·subst h0;simp[Lib.bitLenAux]
  ·have h2:=ih (x/2) (by rw[Nat.pow_succ] at h;omega);simp only[Lib.bitLenAux,h0,if_false];by_cases h3:x/2=0
   ·rw[h3,M8];refine⟨by omega,fun _=>⟨by simp;omega,by omega⟩⟩
   ·have h4:=h2.2 h3;generalize Lib.bitLenAux f (x/2)=m at *;refine⟨?_,fun _=>⟨?_,by omega⟩⟩
    ·rw[Nat.add_comm,Nat.pow_succ];omega
    ·have e:1+m-1=m-1+1:=by omega
     rw[e,Nat.pow_succ];omega
theorem sZ (y:Nat) (h0:y≠0) (h:y<BN):∃s:Nat,s<64∧Lib.bitLen y+s=64∧2^63≤y*2^s∧y*2^s<BN:=by
 have hs:=CS 64 y (by rw[nV] at h;exact h);have hle:Lib.bitLenAux 64 y≤64:=Lib.bitLenAux_le 64 y 64 (by rw[nV] at h;exact h);obtain⟨h1,h2⟩:=hs;obtain⟨h3,h4⟩:=h2 h0;unfold Lib.bitLen;generalize Lib.bitLenAux 64 y=m at *;refine⟨64-m,by omega,by omega,?_,?_⟩
 ·have:2^(m-1)*2^(64-m)=2^63:=by rw[←Nat.pow_add];congr 1;omega
  rw[←this];exact Nat.mul_le_mul_right _ h3
 ·have:2^m*2^(64-m)=BN:=by rw[←Nat.pow_add,show m+(64-m)=64 by omega];rfl
  rw[←this];exact Nat.mul_lt_mul_of_pos_right h1 (Nat.pow_pos (by decide))
theorem M9 {b U d q r y1 y0 qt rt:Int} (hb:0<b) (hq:q*y1+r=U) (hy0:0≤y0) (hd0:0≤d) (ht:qt*(y1*b+y0)+rt=U*b+d) (hrt:0≤rt) (hY:0<y1*b+y0) (hc:b*r+d<q*y0):qt+1≤q:=by
 rcases Int.lt_or_le q (qt+1) with h|h
 ·have h1:q*(y1*b+y0)≤qt*(y1*b+y0):=Int.mul_le_mul_of_nonneg_right (by omega) (by omega);have h2:q*(y1*b+y0)=(U-r)*b+q*y0:=by rw[←hq];grind
  have h3:(U-r)*b=U*b-b*r:=by grind
  omega
 ·exact h
theorem CT {b U d q r y1 y0 qt rt:Int} (hq:q*y1+r=U) (ht:qt*(y1*b+y0)+rt=U*b+d) (hrt:rt<y1*b+y0) (hY:0<y1*b+y0) (hc:q*y0≤b*r+d):q≤qt:=by
 rcases Int.lt_or_le qt q with h|h
 ·have h1:(qt+1)*(y1*b+y0)≤q*(y1*b+y0):=Int.mul_le_mul_of_nonneg_right (by omega) (by omega);have h2:q*(y1*b+y0)=(U-r)*b+q*y0:=by rw[←hq];grind
  have h3:(U-r)*b=U*b-b*r:=by grind
  rw[Int.add_mul,Int.one_mul] at h1;omega
 ·exact h
structure Dig (U d y1 y0 t q r:Int):Prop where
 eq:q*y1+r=U
 r0:0≤r
 r1:r<4294967296
 up:t≤q
 q0:0≤q
 q1:q≤4294967297
theorem Dig.down {U d y1 y0 t R q r:Int} (h:q*y1+r=U) (ht:t*(y1*4294967296+y0)+R=U*4294967296+d) (hR:R<y1*4294967296+y0) (hY:0<y1*4294967296+y0) (hc:q*y0≤4294967296*r+d):q≤t:=
 CT h ht hR hY hc
theorem Dig.next {U d y1 y0 t R q r:Int} (h:Dig U d y1 y0 t q r) (hy1:0<y1) (hy0:0≤y0) (hd0:0≤d) (ht:t*(y1*4294967296+y0)+R=U*4294967296+d) (hR0:0≤R) (hY:0<y1*4294967296+y0) (htb:t<4294967296)
  (hc:4294967296≤q∨4294967296*r+d<q*y0):t≤q-1∧(q-1)*y1+(r+y1)=U:=by
 refine⟨?_,?_⟩
 ·rcases hc with hc|hc
  ·omega
  ·have:=M9 (by decide) h.eq hy0 hd0 ht hR0 hY hc;omega
 ·have:=h.eq;rw[Int.sub_mul];omega
theorem Dig.stop {U d y1 y0 t R q r:Int} (h:(q-1)*y1+(r+y1)=U) (hq0:0≤q-1) (hq1:q≤4294967297) (hy0:0≤y0) (hy0':y0<4294967296) (hd0:0≤d) (ht:t*(y1*4294967296+y0)+R=U*4294967296+d)
  (hR:R<y1*4294967296+y0) (hY:0<y1*4294967296+y0) (hr:4294967296≤r+y1):q-1≤t:=by
 refine CT h ht hR hY ?_;have:=(iV hq0 (show q-1≤4294967296 by omega) hy0 (show y0≤4294967295 by omega)).2;omega
theorem CU {U d Y t R:Int} (hU0:0≤U) (hU:U<Y) (hd0:0≤d) (hd1:d<4294967296) (ht:t*Y+R=U*4294967296+d) (hR0:0≤R) (hR1:R<Y):0≤t∧t<4294967296:=by
 constructor
 ·rcases Int.lt_or_le t 0 with h|h
  ·have:t*Y≤ -1*Y:=Int.mul_le_mul_of_nonneg_right (by omega) (by omega);omega
  ·exact h
 ·rcases Int.lt_or_le t 4294967296 with h|h
  ·exact h
  ·have:4294967296*Y≤t*Y:=Int.mul_le_mul_of_nonneg_right h (by omega);omega
end Go.Proofs.YtbhplgdbfmifkaaGreatDoor
