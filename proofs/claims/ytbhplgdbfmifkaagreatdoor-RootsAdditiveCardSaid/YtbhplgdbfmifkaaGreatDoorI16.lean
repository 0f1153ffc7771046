/-
  Contracts of functions that the statement reaches, and plain laws: GcdD.
-/
import Derived.Test.YtbhplgdbfmifkaaGreatDoorI10
import Derived.Test.YtbhplgdbfmifkaaGreatDoorI13
import Derived.Test.YtbhplgdbfmifkaaGreatDoorI15
import Derived.Deep.RegionHeld3
set_option linter.unusedVariables false
set_option linter.unusedSimpArgs false
set_option maxHeartbeats 8000000
set_option maxRecDepth 100000
namespace Go.Proofs.YtbhplgdbfmifkaaGreatDoor
open Go.RowKit Sos
def OwnN (w:World) (B:Nat) (v:Value) (zs:List Int):Prop:=w.ownsRow B 161 1 v zs.length (zs.map (Value.int .u64))
theorem OwnN.nil (w:World) (B:Nat):OwnN w B (.slice none 0 0) []:=World.ownsRow_nil w B _ _
theorem OwnN.below {w w':World} {B:Nat} {v:Value} {zs:List Int} (h:OwnN w B v zs) (hb:Below w.heap.size w w'):OwnN w' B v zs:=by
 refine World.ownsRow.kept h (oM hb none) ?_;cases v.ownBlock with
 |none=>exact .inl rfl
 |some g=>exact .inr (by simp)
theorem OwnN.lt {w:World} {B:Nat} {v:Value} {zs:List Int} (h:OwnN w B v zs):∀g,v.ownBlock=some g→B≤g∧g<w.heap.size:=World.ownsRow.lt h
theorem OwnN.at_ {w:World} {B:Nat} {v:Value} {zs:List Int} (h:OwnN w B v zs) (h0:0<zs.length):
  ∃g cap,v= .slice (some ⟨g,0,none⟩) zs.length cap∧B≤g∧zs.length≤cap∧cap≤maxLen∧Shape w g 161 cap∧Cells .u64 w g 0 zs:=by
 rcases h.2 with ⟨_,e⟩|⟨g,cap,cur,rfl,hb,hh,hn,hm,hs,ht⟩
 ·omega
 ·refine⟨g,cap,rfl,hb,hn,hm,⟨cur,hh,by omega⟩,?_⟩;refine VC.cells (fun i u hu=> ?_);rw[cell_of_row w g (0+i) cur _ (0,0) hh,Nat.zero_add,←Array.getElem?_toList];rw[←ht,List.getElem?_take] at hu;split at hu
  ·exact hu
  ·cases hu
theorem OwnN.of {w:World} {B g cap:Nat} {zs:List Int} (hs:Shape w g 161 cap) (hc:Cells .u64 w g 0 zs) (hB:B≤g) (hl:zs.length≤cap) (hm:cap≤maxLen):OwnN w B (.slice (some ⟨g,0,none⟩) zs.length cap) zs:=by
 obtain⟨cur,hh,hn⟩:=hs;refine⟨by simp,.inr ⟨g,cap,cur,rfl,hB,hh,hl,hm,by omega,?_⟩⟩;refine List.ext_getElem? fun i=> ?_;rw[Nat.mul_one,List.getElem?_take];by_cases hi:i<zs.length
 ·rw[if_pos hi];have:=hc.vc i (.int .u64 zs[i]) (by simp[List.getElem?_eq_getElem hi]);rw[cell_of_row w g (0+i) cur _ (0,0) hh,Nat.zero_add,←Array.getElem?_toList] at this;rw[this];simp[List.getElem?_eq_getElem hi]
 ·rw[if_neg hi,List.getElem?_eq_none (by simp;omega)]
theorem OwnN.natAt {w:World} {B:Nat} {v:Value} {n:Nat} (h:OwnN w B v (dg n)):NatAt w v n:=by
 rcases Nat.eq_zero_or_pos (nl n) with h0|h0
 ·have e:=mU h0;subst e;rcases h.2 with ⟨rfl,_⟩|⟨g,cap,cur,rfl,hb,hh,hn,_⟩
  ·exact NatAt.nil _
  ·refine⟨_,cap,rfl,hn,by rw[pS];exact Rd.nil,Old.mk (Array.getElem?_eq_some_iff.1 hh).1⟩
 ·obtain⟨g,cap,rfl,hb,hl,hm,hs,hc⟩:=h.at_ (by rw[aJ];exact h0);exact⟨_,cap,rfl,hl,Rd.mk hs.lt hc,Old.mk hs.lt⟩
theorem OwnN.base {w:World} {B B':Nat} {v:Value} {zs:List Int} (h:OwnN w B v zs) (hB:B'≤B):OwnN w B' v zs:=by
 refine⟨h.1,?_⟩;rcases h.2 with h'|⟨g,cap,cur,hv,hb,h'⟩
 ·exact .inl h'
 ·exact .inr ⟨g,cap,cur,hv,Nat.le_trans hB hb,h'⟩
def BO (w:World) (zs:List Int) (e:Ending) (w':World):Prop:=∃v,e= .returned v∧OwnN w' w.heap.size v zs∧Below w.heap.size w w'
theorem JR (A:Option Addr) (zs:List Int) (c:Nat) (w:World) (hs:Rd .u64 w A zs) (hl:zs.length*8≤140737488355328):
  Calls Tryz.prog 152 #[.slice A zs.length c] w (BO w zs):=by
 cases A with
 |none=>
  have h0:zs=[]:=by
   rcases hs with h|⟨_,_,h,_⟩
   ·exact h
   ·cases h
  subst h0;have hq:∀w:World,(binOp .eql 48 (.slice none 0 c) (.slice none 0 0)).run Tryz.prog w= .ok (.bool true) w:=fun w=>Lib.run_eql_slice_nil w _ 161 none 0 c 0 0 Tryz.underlying48;go_enter Tryz.func152,Tryz.ntmps152;go_wp2;go_ret;exact⟨_,rfl,OwnN.nil _ _,Below.refl _ _⟩
 |some ad=>
  have hq:∀w:World,(binOp .eql 48 (.slice (some ad) zs.length c) (.slice none 0 0)).run Tryz.prog w= .ok (.bool false) w:=fun w=>Lib.run_eql_slice_nil w _ 161 (some ad) zs.length c 0 0 Tryz.underlying48;go_enter Tryz.func152,Tryz.ntmps152;have hsrc:Src (w.alloc (.cells #[] 161)) (some ad) (zs.map (Value.int .u64)):=(hs.below ((Below.refl _ _).alloc (Nat.le_refl _) _)).src;have hown0:=wG w 161 1;go_wp2_with (at_builtin;refine eJ rfl rfl 161 _ 1 8 Tryz.underlying48 eY rfl (by decide) w.heap.size (.slice (some ⟨w.heap.size,0,none⟩) 0 0) 0 [] rfl hown0 (zs.map (Value.int .u64)) rfl (by simp) hsrc (ints_oneCell _ _) (by omega) (by omega) (by simp) ?_;intro v1 w1 ho1 hg1 hat1);go_ret;refine⟨v1,rfl,by simpa [OwnN] using ho1,?_⟩;exact((Below.refl w.heap.size w).alloc (Nat.le_refl _) _).grown hg1 (by simp) (by simp[Value.ownBlock])
theorem nJ (n:Nat) (v:Value) (w:World) (hv:NatAt w v n) (hl:nl n≤aF):
  Calls Tryz.prog 152 #[v] w (BO w (dg n)):=by
 unfold aF at hl;obtain⟨A,c,rfl,hc,hs,_⟩:=hv;exact JR A (dg n) c w hs (by rw[aJ];omega)
def sB (w:World) (K G:Nat) (va vb:Value) (a b:Nat) (wr:World):Prop:=OwnN wr w.heap.size va (dg a)∧OwnN wr w.heap.size vb (dg b)∧(∀g,va.ownBlock=some g→vb.ownBlock≠some g)∧b≤a∧nl a≤K∧
 Hid (Nat.gcd a b=G)∧Below w.heap.size w wr
theorem BP {a b u0 u1 v0 v1 na nb:Nat} {odd:Bool} (h:Leh a b u0 u1 v0 v1 odd na nb):na<BN^nl a∧nb<BN^nl a∧na+nb≤a∧na≤b∧nb≤na∧Nat.gcd na nb=Nat.gcd a b∧
  (na:Int)=dJ odd*((v0:Int)*b-u0*a)∧(nb:Int)=dJ odd*((u1:Int)*a-v1*b):=by
 have h1:=h.small;have h2:=bX a;exact⟨by omega,by omega,h1.1,h1.2,h.hle,h.gcd.symm,h.hna,h.hnb⟩
theorem BQ (x y K:Nat) (vx vy:Value) (w:World) (hG:Glob w) (hx:NatAt w vx x) (hy:NatAt w vy y) (bx:nl x≤K) (bY:nl y≤K) (hK:5*K+4≤aF):
  Calls Tryz.prog 107 #[vx,vy] w (fY w [vx,vy] (Nat.gcd x y)):=by
 unfold aF at hK;have hcmp:=mA x y vx vy w hx hy (by omega) (by omega);rcases Nat.lt_or_ge x y with hlt|hge
 ·have hcz:bM x y<0:=by
   rcases iY x y with h|h|h<;>omega
  have hge:x≤y:=by omega
  generalize bM x y=cc at *;go_enter Tryz.func107,Tryz.ntmps107;go_wp2_with fail;refine hcmp.mono ?_;rintro e w0 ⟨rfl,hb0⟩;have hx0:=hx.below hb0;have hy0:=hy.below hb0;by_cases hyz:x=0
  ·subst hyz;obtain⟨B,d,rfl,hd,hry,hoy⟩:=id hx;have q0:((nl 0:Int)==0)=true:=by rw[cC];rfl
   go_wp2;go_ret;exact⟨_,rfl,by rw[Nat.gcd_zero_left];exact hy0,From.mem (by simp),hb0⟩
  ·have hn1:=eQ hyz;obtain⟨B,d,rfl,hd,hry,hoy⟩:=id hx;have q0:((nl x:Int)==0)=false:=by simp;omega
   go_wp2_with fail;refine(nJ y _ _ hy0 (by unfold aF;omega)).mono ?_;rintro e w1 ⟨va,rfl,hva,hb1⟩;go_wp2_with fail;refine(nJ x _ _ (hx0.below hb1) (by unfold aF;omega)).mono ?_;rintro e w2 ⟨vb,rfl,hvb,hb2⟩;have hb02:=hb0.trans ((aB hb1 hb2).mono hb0.size);have HGe:Hid (Nat.gcd y x=Nat.gcd x y):=Nat.gcd_comm _ _;have hrel0:sB w K (Nat.gcd x y) va vb y x w2:=by
    refine⟨(hva.below hb2).base hb0.size,hvb.base (Nat.le_trans hb0.size hb1.size),?_,hge,bY,HGe,hb02⟩;intro g e1 e2;have:=(hva.lt g e1).2;have:=(hvb.lt g e2).1;omega
   have HG0:=Lib.hid hG;clear hva hvb hx hy hx0 hy0 hb0 hb1 hb2 hb02 hd hry hoy hyz hn1 hge hcmp hG HGe;generalize hGG:Nat.gcd x y=G at *;clear hGG;generalize [Value.slice B (nl x) d,vy]=Fz at *;go_wp2_with fail;go_loopg [5,6] (y+x) (fun k p q wr=>∃a b,Hid (a+b=k)∧sB w K G p q a b wr)
   case atStart=>exact⟨y,x,rfl,hrel0⟩
   case round=>
    obtain⟨a,b,HK,hva,hvb,hdis,hba,hna,HGC,hbel⟩:=hrel;clear hrel0;by_cases hb1:nl b≤1
    ·by_cases hb0:b=0
     ·subst hb0;have hg0:=HGC.out;rw[Nat.gcd_zero_right] at hg0;have hN:=hva.natAt;have hf:From w Fz u5:=by
       intro g hg hlt;have:=(hva.lt g hg).1;omega
      subst hg0;rcases hvb.2 with ⟨rfl,_⟩|⟨g,cap,cur,rfl,_⟩
      ·go_wp2_with fail;go_ret;exact⟨_,rfl,hN,hf,hbel⟩
      ·rw[aJ,cC];go_wp2_with fail;go_ret;exact⟨_,rfl,hN,hf,hbel⟩
     ·have hn1:nl b=1:=by have:=eQ hb0;omega
      have hbB:b<BN:=by have:=bX b;rw[hn1,Nat.pow_one] at this;exact this
      have hNa:NatAt wr.drew u5 a:=hva.natAt;obtain⟨gb,capb,rfl,hgB,hcb,hmb,hsb,hcl⟩:=hvb.at_ (by rw[aJ];omega);have g0:=hcl 0 (by rw[aJ];omega);rw[m5 hb0 hbB] at g0;simp only[Nat.zero_add,List.getD_cons_zero] at g0;have hgl:gb<wr.drew.heap.size:=hsb.lt;rw[aJ,hn1] at *;obtain⟨r,HR⟩:∃r,Hid (a%b=r):=⟨_,rfl⟩;have hr:Hid (Nat.gcd b r=G):=by unfold Hid;rw[←HGC.out,←HR.out,Nat.gcd_comm b,←Nat.gcd_rec,Nat.gcd_comm]
      have hGr:Glob wr.drew:=HG0.out.below (hbel.drew);have hrb:r<BN:=by rw[←HR.out];exact Nat.lt_trans (Nat.mod_lt _ (by omega)) hbB
      have hGB:Nat.gcd b r<BN:=Nat.lt_of_le_of_lt (Nat.gcd_le_left _ (by omega)) hbB;clear hcl hva hvb hsb hn1 hdis;go_wp2_with fail
      go_region_held3 (fun w'=>w'.cell? ⟨gb,0,none⟩=some (.int .u64 b)) (first|go_keep|(exact(hbf.cell (p:=⟨gb,0,none⟩) (Nat.lt_of_lt_of_le hgl hbm.size)).trans ((hbm.cell (p:=⟨gb,0,none⟩) hgl).trans g0))|(exact(hbm.cell (p:=⟨gb,0,none⟩) hgl).trans g0)) (first
       |(go_at_call 157;(with_reducible refine(CP a b u5 _ hNa (by omega) hbB (by unfold aF;omega)).mono ?_);rintro e' wm ⟨he,hbm⟩;rw[HR.out] at he;subst he)
       |(go_at_call 156;(with_reducible refine(BR b r hbB hrb _ (hGr.below hbm)).mono ?_);rintro e' w' ⟨rfl,rfl⟩)
       |(go_at_call 122;(with_reducible refine(pZ _ hGB _).mono ?_);rintro e' wf ⟨vf,rfl,hvf,hff,hbf⟩))
      go_wp2;go_ret;exact⟨_,rfl,by rw[←hr.out];exact hvf,hff.wk (Nat.le_trans hbel.size hbm.size),hbel.trans ((Below.trans (Below.trans (cH (Below.refl _ _) 1) hbm) (hbf.mono hbm.size)).mono hbel.size)⟩
    ·have h2:2≤nl b:=by omega
     have hnab:=aX hba;have hb0:b≠0:=by intro h;subst h;rw[cC] at h2;omega
     have hNa:=hva.natAt;have hNb:=hvb.natAt;obtain⟨gb,capb,rfl,hgB,hcb,hmb,hsb,hclb⟩:=hvb.at_ (by rw[aJ];omega);obtain⟨ga,capa,rfl,hgA,hca,hma,hsa,hcla⟩:=hva.at_ (by rw[aJ];omega);have hne:ga≠gb:=fun h=>hdis ga rfl (by rw[h];rfl);simp only[aJ] at hcb hca hvb hva hNa hNb hdis⊢;go_wp2_with fail;refine(CJ a b _ _ _ hNa hNb hba h2 (by unfold aF;omega)).mono ?_;rintro e w3 ⟨u0,u1,v0,v1,odd,rfl,bu0,bu1,bv0,bv1,hleh,hb3⟩;have HLEH:=Lib.hid hleh;clear hleh hb1;by_cases hv0:v0=0
     ·subst hv0;clear HLEH;have hb4:=hb3.alloc hb3.size (.cells #[.int .u64 u0,.int .u64 u1,.int .u64 0,.int .u64 v1,.bool odd] 201);go_wp2_with fail;refine(qC a b _ _ _ (hNa.below hb4) (hNb.below hb4) hb0 (by unfold aF;omega)).mono ?_;rintro e w5 ⟨vq,vr,rfl,hq,hr,fq,fr,hb5⟩;have nr:nl (a%b)≤nl b:=aX (Nat.le_of_lt (Nat.mod_lt _ (by omega)));go_wp2_with fail;refine(nJ (a%b) _ _ hr (by unfold aF;omega)).mono ?_;rintro e w6 ⟨vc,rfl,hvc,hb6⟩;have hb46:=aB hb5 hb6;have hbr6:=aB hb4 hb46;have hlt:b+a%b<a+b:=by have:=Nat.mod_lt a (show 0<b by omega);omega
      go_wp2;go_roundg (b+a%b)
      case measure=>have:=HK.out;omega
      case rel=>
       refine⟨b,a%b,rfl,hvb.below hbr6,hvc.base (Nat.le_trans hbel.size (Nat.le_trans hb4.size hb5.size)),?_,Nat.le_of_lt (Nat.mod_lt _ (by omega)),by omega,?_,aB hbel hbr6⟩
       ·intro g e1 e2;have k1:g=gb:=by simpa [Value.ownBlock] using e1.symm
        have k2:=(hvc.lt g e2).1;have k3:=hsb.lt;have k4:=hb4.size;have k5:=hb5.size;omega
       ·unfold Hid;rw[←HGC.out,Nat.gcd_comm b,←Nat.gcd_rec,Nat.gcd_comm]
     ·obtain⟨na,nb,hL⟩:=HLEH.out.resolve_left hv0;have HF:=Lib.hid (BP hL);clear hL HLEH;have q0:((v0:Int)==0)=false:=by simp;omega
      go_wp2_with fail;have hb4:=hb3.alloc hb3.size (.cells #[.int .u64 u0,.int .u64 u1,.int .u64 v0,.int .u64 v1,.bool odd] 201);have hblk4:=Blk.new w3 [.int .u64 u0,.int .u64 u1,.int .u64 v0,.int .u64 v1,.bool odd] 201;have hwr3:=hb3.size;go_loopg [6] (nl a-nl b) (fun k q wi=>∃j,Hid (nl b+j+k=nl a)∧OwnN wi w.heap.size q (dg b++List.replicate j 0)∧q.ownBlock≠some ga∧q.ownBlock≠some w3.heap.size∧OwnN wi w.heap.size (.slice (some ⟨ga,0,none⟩) (nl a) capa) (dg a)∧Blk wi w3.heap.size [.int .u64 u0,.int .u64 u1,.int .u64 v0,.int .u64 v1,.bool odd]∧Below w.heap.size w wi)
      case atStart=>
       refine⟨0,by unfold Hid;omega,?_,?_,?_,hva.below hb4,hblk4,aB hbel hb4⟩
       ·simpa using hvb.below hb4
       ·simp[Value.ownBlock];omega
       ·have:=hsb.lt;simp[Value.ownBlock];omega
      case round=>
       obtain⟨j,HJ,hq,hqa,hqs,hva',hblk,hbi⟩:=hrel;clear hb4 hblk4;obtain⟨gq,capq,rfl,hgQ,hcq,hmq,hsq,hclq⟩:=hq.at_ (by rw[List.length_append,aJ];omega);have hll:(dg b++List.replicate j (0:Int)).length=nl b+j:=by rw[List.length_append,aJ,List.length_replicate]
       rw[hll] at hcq;simp only[hll];have HLL:=Lib.hid hll;clear hll;cases gk with
       |zero=>
        have hja:nl b+j=nl a:=by have:=HJ.out;omega
        obtain⟨g',c',e', -, -, -,hsa',hcla'⟩:=hva'.at_ (by rw[aJ];omega);simp only[Value.slice.injEq,Option.some.injEq,Addr.mk.injEq] at e';obtain⟨⟨e1, -, -⟩, -,e2⟩:=e';subst e1 e2;rw[hja] at hcq;simp only[hja];have HLL2:Hid ((dg b++List.replicate j (0:Int)).length=nl a):=by unfold Hid;rw[HLL.out,hja]
        clear hja HLL HJ;have hqne:ga≠gq:=fun h=>hqa (by rw[h];rfl);have hvq:aD aA (dg b++List.replicate j (0:Int))=b:=by rw[gV,iU,bC];simp
        have hiq:InR aA (dg b++List.replicate j (0:Int)):=(aW b).append (InR.replicate aM _);have HVQ:=Lib.hid hvq;clear hvq;generalize dg b++List.replicate j (0:Int)=ys at *;have c0:=hblk.cell (i:=0) rfl;have c1:=hblk.cell (i:=1) rfl;have c2:=hblk.cell (i:=2) rfl;have c3:=hblk.cell (i:=3) rfl;have c4:=hblk.cell (i:=4) rfl;go_wp2_with fail;refine(CK w.heap.size ga gq (dg a) ys capa capq (nl a) u0 u1 v0 v1 odd na nb wr (aJ a) HLL2.out hcla' hclq hsa'.soft hsq.soft hqne (by omega) (aW a) hiq bu0 bu1 bv0 bv1 (by rw[HVQ.out,bC];exact HF.out.2.2.2.2.2.2.1) (by rw[HVQ.out,bC];exact HF.out.2.2.2.2.2.2.2) (by rw[←fO];exact Int.ofNat_lt.2 HF.out.1) (by rw[←fO];exact Int.ofNat_lt.2 HF.out.2.1) hbi.size hgA hgQ).mono ?_;rintro e w7 ⟨rfl,zs,ws,hzl,hwl,hzr,hwr,hvz,hvw,hcz,hcw,hsz,hsw,hb7,hshp⟩;have hs1:=hshp _ _ _ hsa';have hs2:=hshp _ _ _ hsq;have HZL:=Lib.hid hzl;have HWL:=Lib.hid hwl;have HVZ:=Lib.hid hvz;have HVW:=Lib.hid hvw
        clear hzl hwl hvz hvw hshp c0 c1 c2 c3 c4;go_wp2_with fail;refine(dI _ zs (nl a) capa _ HZL.out (Rd.mk hs1.lt hcz) hca (by omega)).mono ?_;rintro e w8 ⟨rfl,rfl⟩;go_wp2_with fail;refine(dI _ ws (nl a) capq _ HWL.out (Rd.mk hs2.lt hcw) hcq (by omega)).mono ?_;rintro e w8 ⟨rfl,rfl⟩;have k1:=lZ hzr HVZ.out;have k2:=lZ hwr HVW.out;have t1:=(nK zs).1;have t2:=(nK ws).1;have r1:Cells .u64 w7 ga 0 (dg na):=by rw[←k1,t1];exact hcz.take _
        have r2:Cells .u64 w7 gq 0 (dg nb):=by rw[←k2,t2];exact hcw.take _
        have l1:(dg na).length≤capa:=by rw[←k1];have:=m6 zs;have:=HZL.out;omega
        have l2:(dg nb).length≤capq:=by rw[←k2];have:=m6 ws;have:=HWL.out;omega
        have o1:OwnN w7 w.heap.size (.slice (some ⟨ga,0,none⟩) (trimL zs).length capa) (dg na):=by rw[k1];exact OwnN.of hs1 r1 hgA l1 hma
        have o2:OwnN w7 w.heap.size (.slice (some ⟨gq,0,none⟩) (trimL ws).length capq) (dg nb):=by rw[k2];exact OwnN.of hs2 r2 hgQ l2 hmq
        clear k1 k2 t1 t2 r1 r2 l1 l2;have hF:=HF.out;have hlt2:na+nb<a+b:=by omega
        have hna2:nl na≤nl a:=aX (by omega);clear hF;go_wp2;go_roundg (na+nb)
        case measure=>have:=HK.out;omega
        case rel=>
         refine⟨na,nb,rfl,o1,o2,?_,HF.out.2.2.2.2.1,by omega,?_,hbi.trans hb7⟩
         ·intro g e1 e2;have k1:ga=g:=by simpa [Value.ownBlock] using e1
          have k2:gq=g:=by simpa [Value.ownBlock] using e2
          omega
         ·unfold Hid;rw[HF.out.2.2.2.2.2.1];exact HGC.out
       |succ k=>
        have hja:nl b+j<nl a:=by have:=HJ.out;omega
        have hlt:((nl b:Int)+j)<nl a:=by omega
        have hq':wr.ownsRow w.heap.size 161 1 (.slice (some ⟨gq,0,none⟩) (nl b+j) capq) (nl b+j) ((dg b++List.replicate j (0:Int)).map (Value.int .u64)):=by
         have:=hq;unfold OwnN at this;rw[HLL.out] at this;exact this
        have hga:=(hva'.lt ga rfl).2;have hsb3:=hblk.soft.lt;have hwi:=hbi.size;have hsrc:Src (wr.alloc (.cells #[.int .u64 0] 161)) (some ⟨wr.heap.size,0,none⟩) [Value.int .u64 0]:=by
         refine .inr ⟨_,_,rfl,fun i v hv=> ?_⟩;match i,hv with
         |0,hv=>simp at hv;subst hv;simp[go_sem]
        go_wp2_with (at_builtin;refine eJ rfl rfl 161 _ 1 8 Tryz.underlying48 eY rfl (by decide) w.heap.size (.slice (some ⟨gq,0,none⟩) (nl b+j) capq) (nl b+j) _ rfl (hq'.alloc _) [Value.int .u64 0] rfl (by simp) hsrc (by simp[Value.oneCell']) (by omega) (by omega) (by simp;omega) ?_;intro q1 w1 ho1 hg1 hat1);go_wp2;go_roundg k
        case measure=>omega
        case rel=>
         have hne1:∀g,g<wr.heap.size→(Value.slice (some ⟨gq,0,none⟩) (nl b+j) capq).ownBlock≠some g→q1.ownBlock≠some g:=by
          intro g hg hn e;rcases hat1 with h|h
          ·rw[h] at e;exact hn e
          ·rw[h] at e;simp at e;omega
         refine⟨j+1,?_,?_,hne1 _ hga hqa,hne1 _ hsb3 hqs,?_,?_,?_⟩
         ·have:=HJ.out;unfold Hid;omega
         ·unfold OwnN;have e:(dg b++List.replicate (j+1) (0:Int)).map (Value.int .u64)=(dg b++List.replicate j (0:Int)).map (Value.int .u64)++[Value.int .u64 0]:=by
           rw[List.replicate_succ',←List.append_assoc,List.map_append];rfl
          rw[e,List.length_append,aJ,List.length_replicate,←Nat.add_assoc];exact ho1
         ·exact World.ownsRow.kept (World.ownsRow.alloc hva' _) hg1 (.inr (fun h=>hqa h.symm))
         ·exact(hblk.alloc _).keep (hg1.block _ (by simp;omega) (fun h=>hqs h.symm))
         ·exact(hbi.alloc hbi.size _).grown hg1 (by simp;omega) (fun g hg=>by
           have:gq=g:=by simpa [Value.ownBlock] using hg
           omega)
 ·have hcz:¬bM x y<0:=by
   rcases iY x y with h|h|h<;>omega
  generalize bM x y=cc at *;go_enter Tryz.func107,Tryz.ntmps107;go_wp2_with fail;refine hcmp.mono ?_;rintro e w0 ⟨rfl,hb0⟩;have hx0:=hx.below hb0;have hy0:=hy.below hb0;by_cases hyz:y=0
  ·subst hyz;obtain⟨B,d,rfl,hd,hry,hoy⟩:=id hy;have q0:((nl 0:Int)==0)=true:=by rw[cC];rfl
   go_wp2;go_ret;exact⟨_,rfl,by rw[Nat.gcd_zero_right];exact hx0,From.mem (by simp),hb0⟩
  ·have hn1:=eQ hyz;obtain⟨B,d,rfl,hd,hry,hoy⟩:=id hy;have q0:((nl y:Int)==0)=false:=by simp;omega
   go_wp2_with fail;refine(nJ x _ _ hx0 (by unfold aF;omega)).mono ?_;rintro e w1 ⟨va,rfl,hva,hb1⟩;go_wp2_with fail;refine(nJ y _ _ (hy0.below hb1) (by unfold aF;omega)).mono ?_;rintro e w2 ⟨vb,rfl,hvb,hb2⟩;have hb02:=hb0.trans ((aB hb1 hb2).mono hb0.size);have HGe:Hid (Nat.gcd x y=Nat.gcd x y):=rfl;have hrel0:sB w K (Nat.gcd x y) va vb x y w2:=by
    refine⟨(hva.below hb2).base hb0.size,hvb.base (Nat.le_trans hb0.size hb1.size),?_,hge,bx,HGe,hb02⟩;intro g e1 e2;have:=(hva.lt g e1).2;have:=(hvb.lt g e2).1;omega
   have HG0:=Lib.hid hG;clear hva hvb hx hy hx0 hy0 hb0 hb1 hb2 hb02 hd hry hoy hyz hn1 hge hcmp hG HGe;generalize hGG:Nat.gcd x y=G at *;clear hGG;generalize [vx,Value.slice B (nl y) d]=Fz at *;go_wp2_with fail;go_loopg [5,6] (x+y) (fun k p q wr=>∃a b,Hid (a+b=k)∧sB w K G p q a b wr)
   case atStart=>exact⟨x,y,rfl,hrel0⟩
   case round=>
    obtain⟨a,b,HK,hva,hvb,hdis,hba,hna,HGC,hbel⟩:=hrel;clear hrel0;by_cases hb1:nl b≤1
    ·by_cases hb0:b=0
     ·subst hb0;have hg0:=HGC.out;rw[Nat.gcd_zero_right] at hg0;have hN:=hva.natAt;have hf:From w Fz u5:=by
       intro g hg hlt;have:=(hva.lt g hg).1;omega
      subst hg0;rcases hvb.2 with ⟨rfl,_⟩|⟨g,cap,cur,rfl,_⟩
      ·go_wp2_with fail;go_ret;exact⟨_,rfl,hN,hf,hbel⟩
      ·rw[aJ,cC];go_wp2_with fail;go_ret;exact⟨_,rfl,hN,hf,hbel⟩
     ·have hn1:nl b=1:=by have:=eQ hb0;omega
      have hbB:b<BN:=by have:=bX b;rw[hn1,Nat.pow_one] at this;exact this
      have hNa:NatAt wr.drew u5 a:=hva.natAt;obtain⟨gb,capb,rfl,hgB,hcb,hmb,hsb,hcl⟩:=hvb.at_ (by rw[aJ];omega);have g0:=hcl 0 (by rw[aJ];omega);rw[m5 hb0 hbB] at g0;simp only[Nat.zero_add,List.getD_cons_zero] at g0;have hgl:gb<wr.drew.heap.size:=hsb.lt;rw[aJ,hn1] at *;obtain⟨r,HR⟩:∃r,Hid (a%b=r):=⟨_,rfl⟩;have hr:Hid (Nat.gcd b r=G):=by unfold Hid;rw[←HGC.out,←HR.out,Nat.gcd_comm b,←Nat.gcd_rec,Nat.gcd_comm]
      have hGr:Glob wr.drew:=HG0.out.below (hbel.drew);have hrb:r<BN:=by rw[←HR.out];exact Nat.lt_trans (Nat.mod_lt _ (by omega)) hbB
      have hGB:Nat.gcd b r<BN:=Nat.lt_of_le_of_lt (Nat.gcd_le_left _ (by omega)) hbB;clear hcl hva hvb hsb hn1 hdis;go_wp2_with fail
      go_region_held3 (fun w'=>w'.cell? ⟨gb,0,none⟩=some (.int .u64 b)) (first|go_keep|(exact(hbf.cell (p:=⟨gb,0,none⟩) (Nat.lt_of_lt_of_le hgl hbm.size)).trans ((hbm.cell (p:=⟨gb,0,none⟩) hgl).trans g0))|(exact(hbm.cell (p:=⟨gb,0,none⟩) hgl).trans g0)) (first
       |(go_at_call 157;(with_reducible refine(CP a b u5 _ hNa (by omega) hbB (by unfold aF;omega)).mono ?_);rintro e' wm ⟨he,hbm⟩;rw[HR.out] at he;subst he)
       |(go_at_call 156;(with_reducible refine(BR b r hbB hrb _ (hGr.below hbm)).mono ?_);rintro e' w' ⟨rfl,rfl⟩)
       |(go_at_call 122;(with_reducible refine(pZ _ hGB _).mono ?_);rintro e' wf ⟨vf,rfl,hvf,hff,hbf⟩))
      go_wp2;go_ret;exact⟨_,rfl,by rw[←hr.out];exact hvf,hff.wk (Nat.le_trans hbel.size hbm.size),hbel.trans ((Below.trans (Below.trans (cH (Below.refl _ _) 1) hbm) (hbf.mono hbm.size)).mono hbel.size)⟩
    ·have h2:2≤nl b:=by omega
     have hnab:=aX hba;have hb0:b≠0:=by intro h;subst h;rw[cC] at h2;omega
     have hNa:=hva.natAt;have hNb:=hvb.natAt;obtain⟨gb,capb,rfl,hgB,hcb,hmb,hsb,hclb⟩:=hvb.at_ (by rw[aJ];omega);obtain⟨ga,capa,rfl,hgA,hca,hma,hsa,hcla⟩:=hva.at_ (by rw[aJ];omega);have hne:ga≠gb:=fun h=>hdis ga rfl (by rw[h];rfl);simp only[aJ] at hcb hca hvb hva hNa hNb hdis⊢;go_wp2_with fail;refine(CJ a b _ _ _ hNa hNb hba h2 (by unfold aF;omega)).mono ?_;rintro e w3 ⟨u0,u1,v0,v1,odd,rfl,bu0,bu1,bv0,bv1,hleh,hb3⟩;have HLEH:=Lib.hid hleh;clear hleh hb1;by_cases hv0:v0=0
     ·subst hv0;clear HLEH;have hb4:=hb3.alloc hb3.size (.cells #[.int .u64 u0,.int .u64 u1,.int .u64 0,.int .u64 v1,.bool odd] 201);go_wp2_with fail;refine(qC a b _ _ _ (hNa.below hb4) (hNb.below hb4) hb0 (by unfold aF;omega)).mono ?_;rintro e w5 ⟨vq,vr,rfl,hq,hr,fq,fr,hb5⟩;have nr:nl (a%b)≤nl b:=aX (Nat.le_of_lt (Nat.mod_lt _ (by omega)));go_wp2_with fail;refine(nJ (a%b) _ _ hr (by unfold aF;omega)).mono ?_;rintro e w6 ⟨vc,rfl,hvc,hb6⟩;have hb46:=aB hb5 hb6;have hbr6:=aB hb4 hb46;have hlt:b+a%b<a+b:=by have:=Nat.mod_lt a (show 0<b by omega);omega
      go_wp2;go_roundg (b+a%b)
      case measure=>have:=HK.out;omega
      case rel=>
       refine⟨b,a%b,rfl,hvb.below hbr6,hvc.base (Nat.le_trans hbel.size (Nat.le_trans hb4.size hb5.size)),?_,Nat.le_of_lt (Nat.mod_lt _ (by omega)),by omega,?_,aB hbel hbr6⟩
       ·intro g e1 e2;have k1:g=gb:=by simpa [Value.ownBlock] using e1.symm
        have k2:=(hvc.lt g e2).1;have k3:=hsb.lt;have k4:=hb4.size;have k5:=hb5.size;omega
       ·unfold Hid;rw[←HGC.out,Nat.gcd_comm b,←Nat.gcd_rec,Nat.gcd_comm]
     ·obtain⟨na,nb,hL⟩:=HLEH.out.resolve_left hv0;have HF:=Lib.hid (BP hL);clear hL HLEH;have q0:((v0:Int)==0)=false:=by simp;omega
      go_wp2_with fail;have hb4:=hb3.alloc hb3.size (.cells #[.int .u64 u0,.int .u64 u1,.int .u64 v0,.int .u64 v1,.bool odd] 201);have hblk4:=Blk.new w3 [.int .u64 u0,.int .u64 u1,.int .u64 v0,.int .u64 v1,.bool odd] 201;have hwr3:=hb3.size;go_loopg [6] (nl a-nl b) (fun k q wi=>∃j,Hid (nl b+j+k=nl a)∧OwnN wi w.heap.size q (dg b++List.replicate j 0)∧q.ownBlock≠some ga∧q.ownBlock≠some w3.heap.size∧OwnN wi w.heap.size (.slice (some ⟨ga,0,none⟩) (nl a) capa) (dg a)∧Blk wi w3.heap.size [.int .u64 u0,.int .u64 u1,.int .u64 v0,.int .u64 v1,.bool odd]∧Below w.heap.size w wi)
      case atStart=>
       refine⟨0,by unfold Hid;omega,?_,?_,?_,hva.below hb4,hblk4,aB hbel hb4⟩
       ·simpa using hvb.below hb4
       ·simp[Value.ownBlock];omega
       ·have:=hsb.lt;simp[Value.ownBlock];omega
      case round=>
       obtain⟨j,HJ,hq,hqa,hqs,hva',hblk,hbi⟩:=hrel;clear hb4 hblk4;obtain⟨gq,capq,rfl,hgQ,hcq,hmq,hsq,hclq⟩:=hq.at_ (by rw[List.length_append,aJ];omega);have hll:(dg b++List.replicate j (0:Int)).length=nl b+j:=by rw[List.length_append,aJ,List.length_replicate]
       rw[hll] at hcq;simp only[hll];have HLL:=Lib.hid hll;clear hll;cases gk with
       |zero=>
        have hja:nl b+j=nl a:=by have:=HJ.out;omega
        obtain⟨g',c',e', -, -, -,hsa',hcla'⟩:=hva'.at_ (by rw[aJ];omega);simp only[Value.slice.injEq,Option.some.injEq,Addr.mk.injEq] at e';obtain⟨⟨e1, -, -⟩, -,e2⟩:=e';subst e1 e2;rw[hja] at hcq;simp only[hja];have HLL2:Hid ((dg b++List.replicate j (0:Int)).length=nl a):=by unfold Hid;rw[HLL.out,hja]
        clear hja HLL HJ;have hqne:ga≠gq:=fun h=>hqa (by rw[h];rfl);have hvq:aD aA (dg b++List.replicate j (0:Int))=b:=by rw[gV,iU,bC];simp
        have hiq:InR aA (dg b++List.replicate j (0:Int)):=(aW b).append (InR.replicate aM _);have HVQ:=Lib.hid hvq;clear hvq;generalize dg b++List.replicate j (0:Int)=ys at *;have c0:=hblk.cell (i:=0) rfl;have c1:=hblk.cell (i:=1) rfl;have c2:=hblk.cell (i:=2) rfl;have c3:=hblk.cell (i:=3) rfl;have c4:=hblk.cell (i:=4) rfl;go_wp2_with fail;refine(CK w.heap.size ga gq (dg a) ys capa capq (nl a) u0 u1 v0 v1 odd na nb wr (aJ a) HLL2.out hcla' hclq hsa'.soft hsq.soft hqne (by omega) (aW a) hiq bu0 bu1 bv0 bv1 (by rw[HVQ.out,bC];exact HF.out.2.2.2.2.2.2.1) (by rw[HVQ.out,bC];exact HF.out.2.2.2.2.2.2.2) (by rw[←fO];exact Int.ofNat_lt.2 HF.out.1) (by rw[←fO];exact Int.ofNat_lt.2 HF.out.2.1) hbi.size hgA hgQ).mono ?_;rintro e w7 ⟨rfl,zs,ws,hzl,hwl,hzr,hwr,hvz,hvw,hcz,hcw,hsz,hsw,hb7,hshp⟩;have hs1:=hshp _ _ _ hsa';have hs2:=hshp _ _ _ hsq;have HZL:=Lib.hid hzl;have HWL:=Lib.hid hwl;have HVZ:=Lib.hid hvz;have HVW:=Lib.hid hvw
        clear hzl hwl hvz hvw hshp c0 c1 c2 c3 c4;go_wp2_with fail;refine(dI _ zs (nl a) capa _ HZL.out (Rd.mk hs1.lt hcz) hca (by omega)).mono ?_;rintro e w8 ⟨rfl,rfl⟩;go_wp2_with fail;refine(dI _ ws (nl a) capq _ HWL.out (Rd.mk hs2.lt hcw) hcq (by omega)).mono ?_;rintro e w8 ⟨rfl,rfl⟩;have k1:=lZ hzr HVZ.out;have k2:=lZ hwr HVW.out;have t1:=(nK zs).1;have t2:=(nK ws).1;have r1:Cells .u64 w7 ga 0 (dg na):=by rw[←k1,t1];exact hcz.take _
        have r2:Cells .u64 w7 gq 0 (dg nb):=by rw[←k2,t2];exact hcw.take _
        have l1:(dg na).length≤capa:=by rw[←k1];have:=m6 zs;have:=HZL.out;omega
        have l2:(dg nb).length≤capq:=by rw[←k2];have:=m6 ws;have:=HWL.out;omega
        have o1:OwnN w7 w.heap.size (.slice (some ⟨ga,0,none⟩) (trimL zs).length capa) (dg na):=by rw[k1];exact OwnN.of hs1 r1 hgA l1 hma
        have o2:OwnN w7 w.heap.size (.slice (some ⟨gq,0,none⟩) (trimL ws).length capq) (dg nb):=by rw[k2];exact OwnN.of hs2 r2 hgQ l2 hmq
        clear k1 k2 t1 t2 r1 r2 l1 l2;have hF:=HF.out;have hlt2:na+nb<a+b:=by omega
        have hna2:nl na≤nl a:=aX (by omega);clear hF;go_wp2;go_roundg (na+nb)
        case measure=>have:=HK.out;omega
        case rel=>
         refine⟨na,nb,rfl,o1,o2,?_,HF.out.2.2.2.2.1,by omega,?_,hbi.trans hb7⟩
         ·intro g e1 e2;have k1:ga=g:=by simpa [Value.ownBlock] using e1
          have k2:gq=g:=by simpa [Value.ownBlock] using e2
          omega
         ·unfold Hid;rw[HF.out.2.2.2.2.2.1];exact HGC.out
       |succ k=>
        have hja:nl b+j<nl a:=by have:=HJ.out;omega
        have hlt:((nl b:Int)+j)<nl a:=by omega
        have hq':wr.ownsRow w.heap.size 161 1 (.slice (some ⟨gq,0,none⟩) (nl b+j) capq) (nl b+j) ((dg b++List.replicate j (0:Int)).map (Value.int .u64)):=by
         have:=hq;unfold OwnN at this;rw[HLL.out] at this;exact this
        have hga:=(hva'.lt ga rfl).2;have hsb3:=hblk.soft.lt;have hwi:=hbi.size;have hsrc:Src (wr.alloc (.cells #[.int .u64 0] 161)) (some ⟨wr.heap.size,0,none⟩) [Value.int .u64 0]:=by
         refine .inr ⟨_,_,rfl,fun i v hv=> ?_⟩;match i,hv with
         |0,hv=>simp at hv;subst hv;simp[go_sem]
        go_wp2_with (at_builtin;refine eJ rfl rfl 161 _ 1 8 Tryz.underlying48 eY rfl (by decide) w.heap.size (.slice (some ⟨gq,0,none⟩) (nl b+j) capq) (nl b+j) _ rfl (hq'.alloc _) [Value.int .u64 0] rfl (by simp) hsrc (by simp[Value.oneCell']) (by omega) (by omega) (by simp;omega) ?_;intro q1 w1 ho1 hg1 hat1);go_wp2;go_roundg k
        case measure=>omega
        case rel=>
         have hne1:∀g,g<wr.heap.size→(Value.slice (some ⟨gq,0,none⟩) (nl b+j) capq).ownBlock≠some g→q1.ownBlock≠some g:=by
          intro g hg hn e;rcases hat1 with h|h
          ·rw[h] at e;exact hn e
          ·rw[h] at e;simp at e;omega
         refine⟨j+1,?_,?_,hne1 _ hga hqa,hne1 _ hsb3 hqs,?_,?_,?_⟩
         ·have:=HJ.out;unfold Hid;omega
         ·unfold OwnN;have e:(dg b++List.replicate (j+1) (0:Int)).map (Value.int .u64)=(dg b++List.replicate j (0:Int)).map (Value.int .u64)++[Value.int .u64 0]:=by
           rw[List.replicate_succ',←List.append_assoc,List.map_append];rfl
          rw[e,List.length_append,aJ,List.length_replicate,←Nat.add_assoc];exact ho1
         ·exact World.ownsRow.kept (World.ownsRow.alloc hva' _) hg1 (.inr (fun h=>hqa h.symm))
         ·exact(hblk.alloc _).keep (hg1.block _ (by simp;omega) (fun h=>hqs h.symm))
         ·exact(hbi.alloc hbi.size _).grown hg1 (by simp;omega) (fun g hg=>by
           have:gq=g:=by simpa [Value.ownBlock] using hg
           omega)
end Go.Proofs.YtbhplgdbfmifkaaGreatDoor
