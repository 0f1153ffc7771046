/-
  Contracts of functions that the statement reaches, and plain laws: WhoD.
-/
import Derived.Test.YtbhplgdbfmifkaaGreatDoorI36
set_option linter.unusedVariables false
set_option linter.unusedSimpArgs false
set_option maxHeartbeats 8000000
set_option maxRecDepth 100000
namespace Go.Proofs.YtbhplgdbfmifkaaGreatDoor
open Go.RowKit Sos
def gC (Q:List Int) (k:Nat):Nat→Int:=fun j=>if j<k then cf Q j else 0
def gS (Q ys:List Int) (M k j:Nat):List Int:=(List.range M).map (fun p=>conv (gC Q (k+1)) (cf ys) p-(if k≤p∧p<k+j then cf Q k*cf ys (p-k) else 0))
def iM (Q:List Int) (N k:Nat):List Int:=(List.range N).map (fun j=>if k≤j then cf Q j else 0)
theorem qX (Q ys:List Int) (M k j:Nat):(gS Q ys M k j).length=M:=by unfold gS;rw[List.length_map,List.length_range]
theorem pF (Q:List Int) (N k:Nat):(iM Q N k).length=N:=by unfold iM;rw[List.length_map,List.length_range]
theorem qY (Q ys:List Int) (M k j:Nat) {p:Nat} (h:p<M):(gS Q ys M k j)[p]? =some (conv (gC Q (k+1)) (cf ys) p-(if k≤p∧p<k+j then cf Q k*cf ys (p-k) else 0)):=by
 unfold gS;rw[List.getElem?_map,List.getElem?_range h];rfl
theorem uB (Q:List Int) (N k:Nat) {p:Nat} (h:p<N):(iM Q N k)[p]? =some (if k≤p then cf Q p else 0):=by
 unfold iM;rw[List.getElem?_map,List.getElem?_range h];rfl
theorem RE (Q ys:List Int) (k p:Nat):conv (gC Q (k+1)) (cf ys) p=conv (gC Q k) (cf ys) p+(if k≤p then cf Q k*cf ys (p-k) else 0):=by
 rw[←mY (cf Q k) k (cf ys) p,←j7];refine cO (fun j=> ?_) (fun _=>rfl) p;unfold gC;by_cases h1:j<k
 ·rw[if_pos (by omega),if_pos h1,if_neg (by omega),Int.add_zero]
 ·by_cases h2:j=k
  ·rw[if_pos (by omega),if_neg h1,if_pos h2,h2,Int.zero_add]
  ·rw[if_neg (by omega),if_neg h1,if_neg h2,Int.add_zero]
theorem RF (Q ys:List Int) (M k:Nat):gS Q ys M (k+1) ys.length=gS Q ys M k 0:=by
 unfold gS;refine List.map_congr_left (fun p _=> ?_);rw[RE Q ys (k+1) p];rw[if_neg (c:=k≤p∧p<k+0) (by omega),Int.sub_zero];by_cases h:k+1≤p
 ·by_cases h2:p<k+1+ys.length
  ·rw[if_pos h,if_pos ⟨h,h2⟩];omega
  ·rw[if_pos h,if_neg (by omega),aP (l:=ys) (i:=p-(k+1)) (by omega)];simp
 ·rw[if_neg h,if_neg (by omega)];omega
theorem RG (Q ys xs:List Int) (hid:∀i,cf xs i=conv (cf Q) (cf ys) i) {k:Nat} (hk:Q.length≤k+1):gS Q ys xs.length k 0=xs:=by
 refine List.ext_getElem? (fun p=> ?_);by_cases hp:p<xs.length
 ·rw[qY _ _ _ _ _ hp,if_neg (by omega),Int.sub_zero,List.getElem?_eq_getElem hp,←dO hp,hid p];refine congrArg some (cO (fun j=> ?_) (fun _=>rfl) p);unfold gC;split
  ·rfl
  ·rw[aP (by omega)]
 ·rw[List.getElem?_eq_none (by rw[qX];omega),List.getElem?_eq_none (by omega)]
theorem RH (Q ys:List Int) (M k:Nat) (hy:ys≠[]):conv (gC Q (k+1)) (cf ys) (ys.length-1+k)=cf Q k*cf ys (ys.length-1):=by
 have:=mZ (p:=gC Q (k+1)) (q:=cf ys) (m:=k) (n:=ys.length-1) (fun i hi=>by unfold gC;rw[if_neg (by omega)]) (fun i hi=>aP (by omega));rw[Nat.add_comm (ys.length-1) k,this];unfold gC;rw[if_pos (by omega)]
theorem RI (Q ys:List Int) (M k j:Nat) (hj:k+j<M):(gS Q ys M k j).set (j+k) (conv (gC Q (k+1)) (cf ys) (k+j)-cf Q k*cf ys j)=gS Q ys M k (j+1):=by
 refine List.ext_getElem? (fun p=> ?_);by_cases hp:p<M
 ·rw[qY _ _ _ _ _ hp];by_cases h:p=j+k
  ·subst h;rw[List.getElem?_set_self (by rw[qX];omega),if_pos (by omega),show j+k-k=j by omega,Nat.add_comm j k]
  ·rw[List.getElem?_set_ne (by omega),qY _ _ _ _ _ hp];by_cases h2:k≤p∧p<k+j
   ·rw[if_pos h2,if_pos (by omega)]
   ·rw[if_neg h2,if_neg (by omega)]
 ·rw[List.getElem?_eq_none (by rw[List.length_set,qX];omega),List.getElem?_eq_none (by rw[qX];omega)]
theorem RK (Q:List Int) (N k:Nat) (hk:k<N):(iM Q N (k+1)).set k (cf Q k)=iM Q N k:=by
 refine List.ext_getElem? (fun p=> ?_);by_cases hp:p<N
 ·rw[uB _ _ _ hp];by_cases h:p=k
  ·subst h;rw[List.getElem?_set_self (by rw[pF];omega),if_pos (Nat.le_refl _)]
  ·rw[List.getElem?_set_ne (by omega),uB _ _ _ hp];by_cases h2:k+1≤p
   ·rw[if_pos h2,if_pos (by omega)]
   ·rw[if_neg h2,if_neg (by omega)]
 ·rw[List.getElem?_eq_none (by rw[List.length_set,pF];omega),List.getElem?_eq_none (by rw[pF];omega)]
theorem RM (Q:List Int) (N:Nat) (h:Q.length=N):iM Q N 0=Q:=by
 refine List.ext_getElem? (fun p=> ?_);by_cases hp:p<N
 ·rw[uB _ _ _ hp,if_pos (Nat.zero_le _),List.getElem?_eq_getElem (by omega),dO (by omega)]
 ·rw[List.getElem?_eq_none (by rw[pF];omega),List.getElem?_eq_none (by omega)]
theorem RN (Q:List Int) (N:Nat):iM Q N N=List.replicate N 0:=by
 refine List.ext_getElem? (fun p=> ?_);by_cases hp:p<N
 ·rw[uB _ _ _ hp,if_neg (by omega),List.getElem?_replicate,if_pos hp]
 ·rw[List.getElem?_eq_none (by rw[pF];omega),List.getElem?_eq_none (by rw[List.length_replicate];omega)]
theorem uC {f g:Nat→Int} {Kf Kg n:Nat} (hf:∀i,nl (f i).natAbs≤Kf) (hg:∀i,nl (g i).natAbs≤Kg) (hn:n≤1073741824):nl (conv f g n).natAbs≤Kf+Kg+1:=by
 refine bI ?_;have h1:(conv f g n).natAbs≤(n+1)*BN^(Kf+Kg):=by
  unfold conv
  refine E7 _ _ _ (fun k _=> ?_);rw[Int.natAbs_mul];exact qO (hf k) (hg _)
 have h2:(n+1)*BN^(Kf+Kg)<BN*BN^(Kf+Kg):=Nat.mul_lt_mul_of_pos_right (by unfold BN;omega) (Nat.pow_pos (by decide));rw[Nat.pow_succ,Nat.mul_comm _ BN];omega
theorem RO {Q:List Int} {K:Nat} (h:∀n∈Q,nl n.natAbs≤K) (k i:Nat):nl (gC Q k i).natAbs≤K:=by
 unfold gC;split
 ·exact cI h i
 ·rw[show(0:Int).natAbs=0 from rfl,cC];exact Nat.zero_le _
theorem RP {Q xs ys:List Int} (tQ:aN Q) (tx:aN xs) (ty:aN ys) (hy:ys≠[]) (hid:∀i,cf xs i=conv (cf Q) (cf ys) i):(Q=[]→xs=[])∧(Q≠[]→xs.length+1=Q.length+ys.length):=by
 constructor
 ·intro h;refine iJ tx (fun a ha=>by simp at ha) (fun i=> ?_);rw[hid,h,eR (fun i=>bS i),bS]
 ·intro h;have hq:=(cZ h).1 tQ;have hyl:=(cZ hy).1 ty;have l1:0<Q.length:=List.length_pos_iff.2 h;have l2:0<ys.length:=List.length_pos_iff.2 hy;have htop:cf xs (Q.length-1+(ys.length-1))≠0:=by
   rw[hid,mZ (m:=Q.length-1) (n:=ys.length-1) (fun i hi=>aP (by omega)) (fun i hi=>aP (by omega))];exact Int.mul_ne_zero hq hyl
  have h1:Q.length-1+(ys.length-1)<xs.length:=by
   refine Nat.lt_of_not_le (fun h=>htop (aP h))
  have h2:xs.length≤Q.length-1+(ys.length-1)+1:=by
   refine Nat.le_of_not_lt (fun hlt=> ?_);have hx:xs≠[]:=fun e=>by rw[e] at hlt;simp at hlt
   refine(cZ hx).1 tx ?_;rw[hid];exact o6 (m:=Q.length) (n:=ys.length) (fun i hi=>aP hi) (fun i hi=>aP hi) (by omega)
  omega
theorem yC (Q xs ys:List Int) (vx vy:Value) (w:World) (hx:WholeAt w vx xs) (hy:WholeAt w vy ys) (hy0:ys≠[]) (tQ:aN Q) (tx:aN xs) (ty:aN ys) (hid:∀i,cf xs i=conv (cf Q) (cf ys) i) (K:Nat) (hKQ:∀n∈Q,nl n.natAbs≤K) (hKy:∀n∈ys,nl n.natAbs≤K)
  (hK2:7*K+8≤aF) (hlx:xs.length≤1073741824) (hly:ys.length≤1073741824):
  Calls Tryz.prog 81 #[vx,vy] w fun e w'=>∃v',e= .returned v'∧WholeAt w' v' Q∧Below w.heap.size w w':=by
 unfold aF at hK2;obtain⟨A,c,rfl,hc⟩:=hx.form;obtain⟨A',c',rfl,hc'⟩:=hy.form;obtain⟨hq0,hq1⟩:=RP tQ tx ty hy0 hid;have hys0:ys.length≠0:=fun e=>hy0 (List.eq_nil_of_length_eq_zero e);have q1:((ys.length:Int)==0)=false:=by rw[beq_eq_false_iff_ne];omega
 go_enter Tryz.func81,Tryz.ntmps81;by_cases hlt:xs.length<ys.length
 ·have hlt':(xs.length:Int)<(ys.length:Int):=by omega
  have hQ:Q=[]:=Classical.byContradiction (fun h=>by have:=hq1 h;have:=List.length_pos_iff.2 h;omega);have HQ:=Lib.hid hQ;clear hQ;go_wp2_with fail;go_ret;rw[HQ.out];exact⟨_,rfl,WholeAt.nil _ _ _,Below.refl _ _⟩
 ·have hlt':¬(xs.length:Int)<(ys.length:Int):=by omega
  have hxs0:xs≠[]:=fun e=>hlt (by rw[e];exact Nat.pos_of_ne_zero hys0);have hQ0:Q≠[]:=fun e=>hxs0 (hq0 e);have hql:=hq1 hQ0;obtain⟨N,hN⟩:∃N,Q.length=N:=⟨_,rfl⟩;have hNi:(xs.length:Int)-ys.length+1=(N:Int):=by omega
  have hNp:0<N:=by rw[←hN];exact List.length_pos_iff.2 hQ0
  have hN1:N+ys.length=xs.length+1:=by omega
  have hNl:N≤1073741824:=by omega
  have HN:=Lib.hid hN;have HID:=Lib.hid hid;have HTQ:=Lib.hid tQ;clear hN hid hq0 hq1 hql tQ tx hQ0;obtain⟨rows,hrl,hrl2,hrk,hsrc,hir,hone⟩:=hx.rows hxs0;clear hrl2
  go_wp2_with (first
   |(at_make;refine eZ rfl rfl 50 _ 2 32 Tryz.underlying47 jZ rfl (by decide) N rfl rfl (by first|rfl|omega) (by first|rfl|omega) (by omega) (by omega) ?_;intro w4 hz4 hr4 hb4)
   |(at_builtin;refine eJ rfl rfl 50 _ 2 32 Tryz.underlying47 jZ rfl (by decide) w4.heap.size (.slice (some ⟨w4.heap.size,0,none⟩) 0 0) 0 [] rfl (F0 w4) rows.flatten rfl (by rw[gK hrk,hrl]) (hsrc.below (hb4.alloc hb4.size _)) hone (by omega) (by omega) (by simp) ?_;intro v5 w5 ho5 hg5 hat5))
  have hb45:Below w4.heap.size w4 w5:=⟨hg5.os,hg5.tape,hg5.output,Nat.le_trans (by simp) hg5.size,fun k hk=>(hg5.block k (by simp;omega) (fun e=>by simp[Value.ownBlock] at e;omega)).trans (Below.heap_alloc w4 _ k hk)⟩;have hb5:Below w.heap.size w w5:=aB hb4 hb45;rw[Nat.zero_add,List.nil_append] at ho5;obtain⟨g,cap,rfl,hg1,hg2,hcap,hcm,hS⟩:=BA ho5 hrk hrl rfl (by omega) (hir.keep (Keep.below hb5));have hR:OwnW w5 w.heap.size (List.replicate N 0):=(OwnW.made hr4).below hb45;have hgw:w.heap.size<g:=by have:=hz4;omega
  clear hb4 hr4 hz4 hg5 hat5 ho5 hb45 hsrc hir hone hrk hrl;have hNm:N=N-1+1:=by omega
  have hSx:OwnW w5 g (gS Q ys xs.length (N-1) 0):=by rw[RG Q ys xs HID.out (by rw[HN.out];omega)];exact hS
  have hRx:OwnW w5 w.heap.size (iM Q N N):=by rw[RN];exact hR
  clear hS hR;clear hNm;go_loopg [7] N (fun k i wr=>i= .int .i64 ((k:Int)-1)∧k≤N∧OwnW wr w.heap.size (iM Q N k)∧(0<k→OwnW wr g (gS Q ys xs.length (k-1) 0))∧Below w.heap.size w wr)
  case atStart=>exact⟨by go_num,Nat.le_refl _,hRx,fun _=>hSx,hb5⟩
  case round=>
   clear hRx hSx hb5 hg2;obtain⟨rfl,hkN,hR,hS,hb⟩:=hrel;generalize wr=wy at *;cases gk with
   |zero=>
    have hQl:Q.length≤N:=by rw[HN.out];exact Nat.le_refl _
    rw[RM Q N HN.out] at hR;have hW:=hR.whole N hQl;have ht:=oJ Q (some ⟨w.heap.size,0,none⟩) N wy hW K hKQ (by omega) (by omega);rw[nZ HTQ.out,HN.out] at ht;go_wp2_with fail;refine ht.mono ?_;rintro e6 w6 ⟨rfl,h6,hb6⟩;go_wp2;go_ret;exact⟨_,rfl,h6,aB hb hb6⟩
   |succ k=>
    replace hS:=hS (Nat.succ_pos k);rw[Nat.add_sub_cancel] at hS;obtain⟨p,hp⟩:∃p,p=ys.length-1+k:=⟨_,rfl⟩;have hpx:p<xs.length:=by omega
    have hpi:(ys.length:Int)-1+k=(p:Int):=by omega
    have hp1:(p:Int)<(xs.length:Int):=by omega
    have hp0:(0:Int)≤(p:Int):=by omega
    have hk0:(0:Int)≤(k:Int):=by omega
    have hk1:(k:Int)<(N:Int):=by omega
    have hle0:=(cZ hy0).1 ty;have hget:=qY Q ys xs.length k 0 hpx;rw[if_neg (by omega),Int.sub_zero,hp,RH Q ys xs.length k hy0,←hp] at hget;obtain⟨st,At,kt,ct,g0,g1,htop⟩:=hS.at_ hget;have bQk:=cI hKQ k;have ble:=cI hKy (ys.length-1);have btp:=bZ (cf Q k) (cf ys (ys.length-1)) _ _ bQk ble;have hle:=fun W h=>mR ys (.slice A' ys.length c') W h hy0 (by omega);have hqu:=fun W v u h1 h2=>iC (cf Q k*cf ys (ys.length-1)) (cf ys (ys.length-1)) v u W h1 h2 hle0 (by omega);rw[Int.mul_tdiv_cancel _ hle0] at hqu;unfold bW at hle hqu;generalize cf Q k*cf ys (ys.length-1)=TP at *;generalize cf ys (ys.length-1)=le at *;have hyw:=hy.below hb;have hyd:=hyw.drew;have hgl:=hS.lt;have hgl0:=hS.lt;have hbx:=hb.size;have hZ:Below wy.heap.size wy (wy.alloc (.cells #[.bool false,.slice none 0 0] 50)):=(Below.refl _ _).alloc (Nat.le_refl _) _;have hya:=(hyw.below hZ).drew;have DN:=Bx.new wy [.bool false,.slice none 0 0] 50;have HP:=Lib.hid hp;have hw1:IntKind.i64.wrap ((ys.length:Int)-1)=(ys.length:Int)-1:=by rw[IntKind.wrap_i64];omega
    have hw2:IntKind.i64.wrap ((ys.length:Int)-1+k)=(ys.length:Int)-1+k:=by rw[IntKind.wrap_i64];omega
    have hA:(0:Int)≤(ys.length:Int)-1+k:=by omega
    have hB:(ys.length:Int)-1+k<(xs.length:Int):=by omega
    have hC:((ys.length:Int)-1+k).toNat=p:=by omega
    clear hpi hp1 hp0 hp hget;have n_D:∀o,(wy.alloc o).cell? ⟨g,p*2,none⟩=some (.bool st):=fun o=>(((Below.refl _ _).alloc (Nat.le_refl _) o).cell (p:=⟨g,p*2,none⟩) hgl).trans g0;have n_E:∀o,(wy.alloc o).cell? ⟨g,p*2+1,none⟩=some (.slice At kt ct):=fun o=>(((Below.refl _ _).alloc (Nat.le_refl _) o).cell (p:=⟨g,p*2+1,none⟩) hgl).trans g1;rw[show((k+1:Nat):Int)-1=(k:Int) by omega];go_upto_region 8 with fail;go_cut [8] (fun s wx=>∃gd,s= .pointer (some ⟨gd,0,none⟩)∧w.heap.size<gd∧g<gd∧IntBx wx gd (cf Q k)∧OwnW wx w.heap.size (iM Q N (k+1))∧OwnW wx g (gS Q ys xs.length k 0)∧Below w.heap.size w wx)
    case first=>
     go_region_held3 (fun w'=>w'.cell? ⟨g,p*2,none⟩=some (.bool st)∧w'.cell? ⟨g,p*2+1,none⟩=some (.slice At kt ct))
      (first|(with_reducible exact⟨g0,g1⟩)|(exact⟨(((Below.refl _ _).alloc (Nat.le_refl _) _).cell (p:=⟨g,p*2,none⟩) hgl).trans g0,(((Below.refl _ _).alloc (Nat.le_refl _) _).cell (p:=⟨g,p*2+1,none⟩) hgl).trans g1⟩)|(exact⟨(aK _ _ _ _ _ _ (show wy.heap.size≠g by omega)).trans ((aK _ _ _ _ _ _ (show wy.heap.size≠g by omega)).trans g0),(aK _ _ _ _ _ _ (show wy.heap.size≠g by omega)).trans ((aK _ _ _ _ _ _ (show wy.heap.size≠g by omega)).trans g1)⟩)|(exact⟨(aK _ _ _ _ _ _ (show w6.heap.size≠g by omega)).trans ((aK _ _ _ _ _ _ (show w6.heap.size≠g by omega)).trans g0),(aK _ _ _ _ _ _ (show w6.heap.size≠g by omega)).trans ((aK _ _ _ _ _ _ (show w6.heap.size≠g by omega)).trans g1)⟩)|go_keep)
      (first
      |(go_at_call 61;(with_reducible refine(hle _ hyd).mono ?_);rintro e6 w6 ⟨v6,rfl,h6,hb6'⟩;have hb6:Below wy.heap.size wy w6:=(Below.refl wy.heap.size wy).drew.trans hb6';replace g0:=(hb6.cell (p:=⟨g,p*2,none⟩) hgl).trans g0;replace g1:=(hb6.cell (p:=⟨g,p*2+1,none⟩) hgl).trans g1;replace hgl:=Nat.lt_of_lt_of_le hgl hb6.size;have h6l:=hb6.size;have htd:=htop.below hb6;have hRd:=hR.below hb6;have hSd:=hS.below hb6;have hbd:=aB hb hb6)
      |(go_at_call 61;(with_reducible refine(hle _ hya).mono ?_);rintro e6 w6 ⟨v6,rfl,h6,hb6'⟩;have hb6:Below wy.heap.size wy w6:=hZ.drew.trans (hb6'.mono hZ.size);have D:=DN.drew.below hb6';replace g0:=(hb6.cell (p:=⟨g,p*2,none⟩) hgl).trans g0;replace g1:=(hb6.cell (p:=⟨g,p*2+1,none⟩) hgl).trans g1;replace hgl:=Nat.lt_of_lt_of_le hgl hb6.size;have h6l:=hb6.size;have htd:=htop.below hb6;have hRd:=hR.below hb6;have hSd:=hS.below hb6;have hbd:=aB hb hb6)
      |(go_at_call 120;(with_reducible refine(hqu _ _ _ htd h6).mono ?_);rintro e7 w7 ⟨v7,rfl,h7,hb7⟩;obtain⟨s7,A7,k7,c7,rfl⟩:=h7.form;have h7l:=hb7.size;replace g0:=(hb7.cell (p:=⟨g,p*2,none⟩) hgl).trans g0;replace g1:=(hb7.cell (p:=⟨g,p*2+1,none⟩) hgl).trans g1;replace hgl:=Nat.lt_of_lt_of_le hgl hb7.size;replace hRd:=hRd.below hb7;replace hSd:=hSd.below hb7;replace hbd:=aB hbd hb7;(try replace D:=D.below hb7);(try have D_0:=D.cell 0 rfl);(try have D_1:=D.cell 1 rfl);(try have D_f0:=D.free 0);(try have D_f1:=D.free 1))
      |(go_at_call 120;(with_reducible refine(hqu _ _ _ (htd.below ((Below.refl _ _).alloc (Nat.le_refl _) (.cells #[.bool false,.slice none 0 0] 50))) (h6.below ((Below.refl _ _).alloc (Nat.le_refl _) (.cells #[.bool false,.slice none 0 0] 50)))).mono ?_);rintro e7 w7 ⟨v7,rfl,h7,hb7'⟩;obtain⟨s7,A7,k7,c7,rfl⟩:=h7.form;have hb7:Below w6.heap.size w6 w7:=((Below.refl w6.heap.size w6).alloc (Nat.le_refl _) (.cells #[.bool false,.slice none 0 0] 50)).trans (hb7'.mono ((Below.refl w6.heap.size w6).alloc (Nat.le_refl _) (.cells #[.bool false,.slice none 0 0] 50)).size);have D:=(Bx.new w6 [.bool false,.slice none 0 0] 50).below hb7';have h7l:=hb7.size;replace g0:=(hb7.cell (p:=⟨g,p*2,none⟩) hgl).trans g0;replace g1:=(hb7.cell (p:=⟨g,p*2+1,none⟩) hgl).trans g1;replace hgl:=Nat.lt_of_lt_of_le hgl hb7.size;replace hRd:=hRd.below hb7;replace hSd:=hSd.below hb7;replace hbd:=aB hbd hb7;have D_0:=D.cell 0 rfl;have D_1:=D.cell 1 rfl;have D_f0:=D.free 0;have D_f1:=D.free 1))
     all_goals (
      go_wp2_with fail;go_meet
      first
       |exact⟨_,rfl,by omega,by omega,(IntBx.stored (m:=0) ⟨_,_,_,_,D,IntAt.zero _⟩ h7).1,hRd.step (IntBx.stored (m:=0) ⟨_,_,_,_,D,IntAt.zero _⟩ h7).2 (by omega),hSd.step (IntBx.stored (m:=0) ⟨_,_,_,_,D,IntAt.zero _⟩ h7).2 (by omega),dE hbd (IntBx.stored (m:=0) ⟨_,_,_,_,D,IntAt.zero _⟩ h7).2 (by omega)⟩
       |exact⟨_,rfl,by omega,by omega,⟨_,_,_,_,Bx.new w7 [.bool s7,.slice A7 k7 c7] 50,h7.keep (Keep.alloc _ _)⟩,hRd.alloc _,hSd.alloc _,hbd.alloc hbd.size _⟩)
    case rest=>
     clear hR hS hb;obtain⟨gd,rfl,hgd1,hgd2,hD,hR,hS,hb⟩:=hcut;clear hle hqu hyd hya hZ DN n_D n_E hw1 hw2 hA hB hC g0 g1 htop hle0 btp ble hgl hgl0 hyw;have hkq:k<(iM Q N (k+1)).length:=by rw[pF];omega
     obtain⟨sd,Ad,kd,cd,D,hDv⟩:=id hD;have D_0:=D.cell 0 rfl;have D_1:=D.cell 1 rfl;obtain⟨s',B',l',d',q0,q1', -⟩:=hR.at_ (List.getElem?_eq_getElem hkq);have f0:=hR.free (k*2);have f1:=hR.free (k*2+1);go_upto_region 10 with fail;have hst:=hR.stored hkq hDv;have hD2:=hD.step hst.2 (by omega);have hS2:=hS.step hst.2 (by omega);have hb2:=dE hb hst.2 (Nat.le_refl _);have hR2:=hst.1;rw[RK Q N k (by omega)] at hR2;clear hst hR hS hD hb D D_0 D_1 q0 q1' f0 f1 hDv;generalize (wc.setCell ⟨w.heap.size,k*2,none⟩ (.bool sd)).setCell ⟨w.heap.size,k*2+1,none⟩ (.slice Ad kd cd)=wd at *;go_wp2_with fail;have hcn:∀p,p<xs.length→nl (conv (gC Q (k+1)) (cf ys) p).natAbs≤K+K+1:=fun p hp=>uC (fun i=>RO hKQ (k+1) i) (fun i=>cI hKy i) (by omega);go_loopg [55] ys.length (fun k' i wx=>∃j,Hid (j+k'=ys.length)∧i= .int .i64 j∧IntBx wx gd (cf Q k)∧OwnW wx w.heap.size (iM Q N k)∧OwnW wx g (gS Q ys xs.length k j)∧Below w.heap.size w wx)
     case atStart=>exact⟨0,by unfold Hid;omega,rfl,hD2,hR2,hS2,hb2⟩
     case round=>
      clear hD2 hR2 hS2 hb2;obtain⟨j,HJ,rfl,hD,hR,hS,hb⟩:=hrel;generalize wr=wx at *;have hj0:(0:Int)≤(j:Int):=by omega
      cases gk with
      |zero=>
       have hj:j=ys.length:=HJ.out;subst hj;go_wp2_with fail;go_roundg k
       case rel=>
        refine⟨by go_num,by omega,hR,fun h=> ?_,hb⟩;obtain⟨k',rfl⟩:∃k',k=k'+1:=⟨k-1,by omega⟩;rw[RF] at hS;exact hS
       case measure=>omega
      |succ k'=>
       have hjy:j<ys.length:=by have:=HJ.out;omega
       have hj1:(j:Int)<(ys.length:Int):=by omega
       have hjk:k+j<xs.length:=by have:=HP.out;omega
       have hgt:=qY Q ys xs.length k j (p:=j+k) (by omega);rw[if_neg (by omega)] at hgt;have hset:=RI Q ys xs.length k j hjk;have hcb:=hcn (j+k) (by omega);rw[Nat.add_comm k j] at hset;rw[Int.sub_zero] at hgt;have hlr:j+k<(gS Q ys xs.length k j).length:=by rw[qX];omega
       obtain⟨b,s,B,l,d,rfl,hbl,y0,y1,hyi,hym⟩:=(hy.below hb).get (i:=j) hjy;have bY:=hKy _ hym;have bmu:=bZ (cf Q k) (cf ys j) _ _ bQk bY;have hmul:=fun W v u h1 h2=>f8 (cf Q k) (cf ys j) v u W h1 h2 (by omega);have hsub:=fun W v u h1 h2=>JL (conv (gC Q (k+1)) (cf ys) (j+k)) (cf Q k*cf ys j) v u W h1 h2 (by omega) (by omega);unfold bW at hmul hsub;have HSET:=Lib.hid hset;clear hset hym bmu hcb;generalize conv (gC Q (k+1)) (cf ys) (j+k)-cf Q k*cf ys j=nv at *
       generalize cf Q k*cf ys j=mv at *;generalize conv (gC Q (k+1)) (cf ys) (j+k)=ov at *
       generalize cf ys j=yv at *;obtain⟨st,At,kt,ct,g0,g1,hov⟩:=hS.at_ hgt;obtain⟨sd,Ad,kd,cd,D,hDv⟩:=id hD;have hwl:=hS.lt;have hdl:=D.lt;have hgc:wx.heap.size≠g:=by omega
       have hC0:Below wx.heap.size wx (wx.alloc (.cells #[.bool s,.slice B l d] 50)):=(Below.refl _ _).alloc (Nat.le_refl _) _;have C:=Bx.new wx [.bool s,.slice B l d] 50;have C_0:=C.cell 0 rfl;have C_1:=C.cell 1 rfl;have D_0:=(D.below hC0).cell 0 rfl;have D_1:=(D.below hC0).cell 1 rfl;replace g0:=(hC0.cell (p:=⟨g,(j+k)*2,none⟩) hwl).trans g0;replace g1:=(hC0.cell (p:=⟨g,(j+k)*2+1,none⟩) hwl).trans g1;have hov':=(hov.below hC0).drew;have hDv':=(hDv.below hC0).drew;have hyi':=(hyi.below hC0).drew;have hw1:IntKind.i64.wrap ((j:Int)+k)=(j:Int)+k:=by rw[IntKind.wrap_i64];omega
       have hA:(0:Int)≤(j:Int)+k:=by omega
       have hB:(j:Int)+k<(xs.length:Int):=by omega
       have hC:((j:Int)+k).toNat=j+k:=by omega
       have hS':=(hS.below hC0).drew;have hR':=(hR.below hC0).drew;have hD':=hD.below hC0.drew;have hb':=(aB hb hC0).drew;replace hwl:=Nat.lt_of_lt_of_le hwl hC0.size;replace hdl:=Nat.lt_of_lt_of_le hdl hC0.size;have hcl:=C.lt;clear hgt hS hR hD hb D hyi hov hDv;go_wp2_with fail;clear C hC0;generalize wx.heap.size=gc at *;generalize wx.alloc (.cells #[.bool s,.slice B l d] 50)=wz at *
       go_region_with (first
         |(go_at_call 57;(with_reducible refine(hmul _ _ _ hDv' hyi').mono ?_);rintro e6 w6 ⟨v6,rfl,h6,hb6⟩;replace hov':=hov'.below hb6;replace hS':=hS'.below hb6;replace hR':=hR'.below hb6;replace hD':=hD'.below hb6;replace hb':=aB hb' hb6;replace g0:=(hb6.cell (p:=⟨g,(j+k)*2,none⟩) hwl).trans g0;replace g1:=(hb6.cell (p:=⟨g,(j+k)*2+1,none⟩) hwl).trans g1;replace D_0:=(hb6.cell (p:=⟨gd,0,none⟩) hdl).trans D_0;replace D_1:=(hb6.cell (p:=⟨gd,1,none⟩) hdl).trans D_1;replace C_0:=(hb6.cell (p:=⟨gc,0,none⟩) hcl).trans C_0;replace C_1:=(hb6.cell (p:=⟨gc,1,none⟩) hcl).trans C_1;replace hwl:=Nat.lt_of_lt_of_le hwl hb6.size;replace hdl:=Nat.lt_of_lt_of_le hdl hb6.size;replace hcl:=Nat.lt_of_lt_of_le hcl hb6.size)
         |(go_at_call 135;(with_reducible refine(hsub _ _ _ hov' h6).mono ?_);rintro e7 w7 ⟨v7,rfl,h7,hb7⟩;obtain⟨s7,A7,k7,c7,rfl⟩:=h7.form;replace hS':=hS'.below hb7;replace hR':=hR'.below hb7;replace hD':=hD'.below hb7;replace hb':=aB hb' hb7;replace g0:=(hb7.cell (p:=⟨g,(j+k)*2,none⟩) hwl).trans g0;replace g1:=(hb7.cell (p:=⟨g,(j+k)*2+1,none⟩) hwl).trans g1;replace D_0:=(hb7.cell (p:=⟨gd,0,none⟩) hdl).trans D_0;replace D_1:=(hb7.cell (p:=⟨gd,1,none⟩) hdl).trans D_1;replace C_0:=(hb7.cell (p:=⟨gc,0,none⟩) hcl).trans C_0;replace C_1:=(hb7.cell (p:=⟨gc,1,none⟩) hcl).trans C_1;have f0:=hS'.free ((j+k)*2);have f1:=hS'.free ((j+k)*2+1)))
       all_goals (
        go_wp2_with fail;have hst:=(hS'.stored hlr h7).2;have zS:=(hS'.stored hlr h7).1;rw[HSET.out] at zS;have zR:=hR'.step hst (by omega);have zD:=hD'.step hst (by omega);have zb:=dE hb' hst (by omega);go_roundg k'
        case rel=>exact⟨j+1,by have:=HJ.out;unfold Hid;omega,by go_num,zD,zR,zS,zb⟩
        case measure=>omega)
end Go.Proofs.YtbhplgdbfmifkaaGreatDoor
