/-
  Contracts of functions that the statement reaches, and plain laws: ParA, ParB, IntE, BxK, IntF, IntG, IntH, SumA, SumB, RatA, RowA, RowB, RowC, RowD, RowE, RatC, RatD.
-/
import Derived.Test.YtbhplgdbfmifkaaGreatDoorI01
import Derived.Test.YtbhplgdbfmifkaaGreatDoorI07
import Derived.Test.YtbhplgdbfmifkaaGreatDoorI17
import Derived.Test.YtbhplgdbfmifkaaGreatDoorI18
import Derived.Lib.ConvBytes
import Derived.Deep.DeepCutAuto
set_option linter.unusedVariables false
set_option linter.unusedSimpArgs false
set_option maxHeartbeats 8000000
set_option maxRecDepth 100000
namespace Go.Proofs.YtbhplgdbfmifkaaGreatDoor
open Go.RowKit Sos
theorem mE {l:List UInt8} (h:Digs l):nl (aL l)≤l.length:=by
 refine bI (Nat.lt_of_lt_of_le (qE h) ?_);exact Nat.pow_le_pow_left (by decide) _
theorem iZ (t:ByteArray) (a b:Nat):(t.extract a b).data.toList=(t.data.toList.take b).drop a:=by
 rw[ByteArray.data_extract,Array.toList_extract,List.extract_eq_take_drop];rw[List.take_drop];by_cases h:a≤b
 ·rw[show a+(b-a)=b by omega]
 ·rw[List.drop_of_length_le (by simp;omega),List.drop_of_length_le (by simp;omega)]
theorem ND (s:ByteArray) (w:World):∃cap w1,(convert 9 149 (.string s)).run Tryz.prog w= .ok (.slice (some ⟨w.heap.size,0,none⟩) s.size cap) w1∧Below w.heap.size w w1∧w1.heap.size=w.heap.size+1∧
  ∀j,j<s.size→w1.cell? ⟨w.heap.size,j,none⟩=some (.int .u8 ((s.data.toList.getD j 0).toNat:Int)):=
 ⟨_,_,Lib.run_convert_string_bytes w _ _ 5 s Tryz.underlying9 Tryz.underlying149 Tryz.underlying5,
  ⟨rfl,rfl,rfl,by rw[Lib.bytesWorld_size];omega,fun j hj=>Lib.bytesWorld_at_old w _ s j hj⟩,Lib.bytesWorld_size w _ s,fun j hj=>Lib.bytesWorld_cell w _ s j hj⟩
theorem NE {zs:List Int} (h:InR aA zs) (hv:aA^(zs.length-1)≤aD aA zs):gO zs:=by
 intro e;obtain⟨ys,rfl⟩:∃ys,zs=ys++[0]:=by
  rcases List.eq_nil_or_concat zs with rfl|⟨ys,b,rfl⟩
  ·simp at e
  ·rw[List.concat_eq_append,List.getLast?_append] at e;simp at e;subst e;exact⟨ys,by rw[List.concat_eq_append]⟩
 rw[gV] at hv;have:=fE aM h.left;simp at hv;omega
theorem NF {old base chunk:Nat} {zs:List Int} {c:Int} (hb:1≤base) (hz:InR aA zs) (hzl:zs.length=nl old) (hc0:0≤c) (hc1:c<aA) (hv:aD aA zs+c*aA^nl old=(old:Int)*base+chunk):
  (c=0→zs=dg (old*base+chunk))∧(c≠0→zs++[c]=dg (old*base+chunk)):=by
 refine⟨fun h=> ?_,fun h=> ?_⟩
 ·subst h;have hv':aD aA zs=((old*base+chunk:Nat):Int):=by push_cast;omega
  refine sH ⟨hz,?_⟩ hv';by_cases h0:old=0
  ·subst h0;rw[cC] at hzl;have:zs=[]:=List.eq_nil_of_length_eq_zero hzl;subst this;simp[gO]
  ·refine NE hz ?_;rw[hzl,hv',←fO];have h1:=vK h0;have h2:old*1≤old*base:=Nat.mul_le_mul_left _ hb;omega
 ·refine sH ⟨hz.append (InR.cons hc0 hc1 InR.nil),?_⟩ ?_
  ·unfold gO;rw[List.getLast?_append];simpa using h
  ·rw[gV,sJ,hzl];push_cast;rw[Int.mul_comm];exact hv
theorem NG (s:ByteArray) (w:World) (hd:Digs s.data.toList) (hl:s.size≤1099511627776):
  Calls Tryz.prog 184 #[.string s] w (fY w [] (aL s.data.toList)):=by
 go_enter Tryz.func184,Tryz.ntmps184;go_wp2_with fail;go_loopg [0,3] s.size (fun k p q wr=>∃(t:ByteArray) (l1:List UInt8),p= .string t∧Hid (t.size=k)∧Hid (s.data.toList=l1++t.data.toList)∧OwnN wr w.heap.size q (dg (aL l1))∧Below w.heap.size w wr)
 case atStart=>exact⟨s,[],rfl,rfl,rfl,by rw[xA,pS];exact OwnN.nil _ _,Below.refl _ _⟩
 case round=>
  obtain⟨t,l1,rfl,HT,HS,hq,hbel⟩:=hrel;have hls:s.data.toList.length=s.size:=by simp
  have hlt:t.data.toList.length=t.size:=by simp
  have hlen:l1.length+t.size=s.size:=by rw[←hls,HS.out,List.length_append,hlt]
  have hd1:Digs l1:=by have:=hd;rw[HS.out] at this;exact this.left
  have hd2:Digs t.data.toList:=by have:=hd;rw[HS.out] at this;exact this.right
  have hn:=mE hd1;have hl1:l1.length≤1099511627776:=by omega
  have htl:t.size≤1099511627776:=by omega
  have HLEN:=Lib.hid hlen;have HLT:=Lib.hid hlt;clear hls hlt hlen;by_cases h0:t.size=0
  ·have ht:t.data.toList=[]:=List.eq_nil_of_length_eq_zero (by rw[HLT.out];exact h0);have hs:=HS.out;rw[ht,List.append_nil] at hs;have hN:=hq.natAt;have hf:From w [] u3:=by
    intro g hg hlt;have:=(hq.lt g hg).1;omega
   have q0:¬(0:Int)<(t.size:Int):=by omega
   have HS2:=Lib.hid hs;clear hs ht HS HT HLT HLEN;go_wp2_with fail;go_ret;exact⟨_,rfl,by rw[HS2.out];exact hN,hf,hbel⟩
  ·obtain⟨z,hz1,hz2,hz3,hze⟩:∃z:Nat,1≤z∧z≤19∧z≤t.size∧((t.size:Int)-1)%19+1=(z:Int):=⟨(t.size-1)%19+1,by omega,by omega,by omega,by omega⟩;obtain⟨bc,w1,hconv,hb1,hs1,hcell⟩:=ND (t.extract 0 z) wr;have hez:(t.extract 0 z).size=z:=by rw[ByteArray.size_extract];omega
   have hel:(t.extract 0 z).data.toList=t.data.toList.take z:=by rw[iZ,List.drop_zero]
   have her:(t.extract z t.size).data.toList=t.data.toList.drop z:=by rw[iZ,List.take_of_length_le (by rw[HLT.out];omega)]
   have hes:(t.extract z t.size).size=t.size-z:=by rw[ByteArray.size_extract];omega
   rw[hez,hel] at hcell;rw[hez] at hconv;have HEL:=Lib.hid hel;have HER:=Lib.hid her;have HES:=Lib.hid hes;have hdp:Digs (t.data.toList.take z):=hd2.take z;have hpl:(t.data.toList.take z).length=z:=by rw[List.length_take,HLT.out];omega
   obtain⟨pc,HPC⟩:∃pc,Hid (t.data.toList.take z=pc):=⟨_,rfl⟩;rw[HPC.out] at hcell hdp hpl;have HPL:=Lib.hid hpl;have HS1:=Lib.hid hs1;have HCELL:=Lib.hid hcell;have hq1:=hq.below hb1;obtain⟨A,c,hqe⟩:=hq.slice;rw[aJ] at hqe;subst hqe;clear hel her hes hez hpl hcell hq hs1;have htz:decide (0<t.size)=true:=by simp;omega
   go_wp2_with (simp only[hconv]);go_loopg [5,6,25] z (fun k p q i wx=>∃j:Nat,Hid (j+k=z)∧i= .int .i64 j∧p= .int .u64 (aL (pc.take j):Nat)∧q= .int .u64 ((10^j:Nat):Int)∧wx=w1)
   case atStart=>exact⟨0,by unfold Hid;omega,rfl,by simp[xA],by simp,rfl⟩
   case round=>
    obtain⟨j,HJ,rfl,rfl,rfl,rfl⟩:=hrel;have hvb:=qE (hdp.take j);have hlj:(pc.take j).length≤j:=List.length_take_le _ _;have hvb2:aL (pc.take j)<10^j:=Nat.lt_of_lt_of_le hvb (Nat.pow_le_pow_right (by decide) hlj);clear hvb hlj;cases gk with
    |succ k=>
     have hj:j<z:=by have:=HJ.out;omega
     have g:=HCELL.out j hj;have hjl:j<pc.length:=by rw[HPL.out];exact hj
     have hch:48≤(pc.getD j 0).toNat∧(pc.getD j 0).toNat≤57:=hdp _ (by rw[List.getD_eq_getElem?_getD,List.getElem?_eq_getElem hjl];exact List.getElem_mem hjl);have hst:aL (pc.take (j+1))=10*aL (pc.take j)+((pc.getD j 0).toNat-48):=by
      rw[List.take_succ_eq_append_getElem hjl,mF,List.getD_eq_getElem?_getD,List.getElem?_eq_getElem hjl];rfl
     have hP:10^j≤1000000000000000000:=by
      have:10^j≤10^18:=Nat.pow_le_pow_right (by decide) (by omega);exact this
     have hPs:10^(j+1)=10^j*10:=Nat.pow_succ ..;have HST:=Lib.hid hst;have HPS:=Lib.hid hPs;clear hst hPs;generalize hve:aL (pc.take j)=v at *;generalize hPe:10^j=P at *;generalize hce:(pc.getD j 0).toNat=ch at *;have HCE:=Lib.hid hce;clear hve hPe hce hconv;obtain⟨hc1,hc2⟩:=hch;go_wp2_with fail;go_roundg k
     case measure=>omega
     case rel=>exact⟨j+1,by have:=HJ.out;unfold Hid;omega,by go_num,by rw[HST.out];go_num,by rw[HPS.out];go_num,rfl⟩
    |zero=>
     have hj:j=z:=by have:=HJ.out;omega
     subst hj;have hpt:pc.take j=pc:=List.take_of_length_le (by rw[HPL.out];exact Nat.le_refl _);rw[hpt] at hvb2⊢;have hP:10^j<18446744073709551616:=by
      have:10^j≤10^19:=Nat.pow_le_pow_right (by decide) (by omega);omega
     have hP0:1≤10^j:=Nat.pow_pos (by decide);have hval:aL (l1++pc)=aL l1*10^j+aL pc:=by rw[mW,HPL.out]
     have HVAL:=Lib.hid hval;clear hval hpt hconv;generalize hve:aL pc=v at *;generalize hPe:10^j=P at *;generalize hoe:aL l1=old at *;clear hve hPe hoe HJ;go_wp2_with fail
     go_loopg [9,44] (nl old) (fun k p i wx=>∃(m:Nat) (zs:List Int) (cy:Int),Hid (m+k=nl old)∧i= .int .i64 m∧p= .int .u64 cy∧(0≤cy∧cy<aA)∧Hid (zs.length=nl old)∧InR aA zs∧Hid (∀j,m≤j→zs.getD j 0=(dg old).getD j 0)∧
      Hid (aD aA (zs.take m)+cy*aA^m=aD aA ((dg old).take m)*P+v)∧OwnN wx w.heap.size (.slice A (nl old) c) zs∧Below w.heap.size w wx)
     case atStart=>
      refine⟨0,dg old,v,by unfold Hid;omega,rfl,rfl,⟨by omega,?_⟩,aJ old,aW old,fun _ _=>rfl,by simp[Hid],hq1,aB hbel hb1⟩;unfold aA;omega
     case round=>
      obtain⟨m,zs,cy,HM,rfl,rfl,hcy,HZL,hz,HZR,HVZ,ho,hbx⟩:=hrel;clear hq1;cases gk with
      |succ k=>
       have hm:m<nl old:=by have:=HM.out;omega
       have HO:=Lib.hid ho;obtain⟨g,rfl,hgB,hnc,hcm,hsh,hcl⟩:=ho.parts (by rw[HZL.out];omega);have g1:=hcl m (by rw[HZL.out];exact hm);rw[Nat.zero_add,HZR.out m (Nat.le_refl _)] at g1;have f1:=hsh.soft.free m;have bx:=(aW old).getD aM m;have htx:=gF aA (dg old) m (by rw[aJ];exact hm);generalize hxe:(dg old).getD m 0=x at *;have bP:0≤(P:Int)∧(P:Int)<aA:=⟨by omega,by unfold aA;omega⟩;obtain⟨L,H,hs⟩:=fK (x*P+cy);have mb:=jN bx bP hcy (z:=0) (by decide);have bH:=hs.hi_bd (by omega) (m:=aA) (by omega);have bL:=hs.2;have hstep:aD aA ((zs.set m L).take (m+1))+H*aA^(m+1)=aD aA ((dg old).take (m+1))*P+v:=by
        rw[qB (by rw[HZL.out];exact hm),htx,Int.pow_succ];have e1:=HVZ.out;have e2:=hs.1;generalize aD aA (zs.take m)=Z at *;generalize aD aA ((dg old).take m)=X at *;generalize aA^m=Q at *;generalize aA=b at *;have e3:L=x*P+cy-b*H:=by omega
        rw[e3];grind
       have HSP:=Lib.hid hs;have HST:=Lib.hid hstep;have HXE:=Lib.hid hxe;clear hs hstep hxe htx mb hcl ho;go_wp2_with fail;refine(mC x P cy L H bx bP hcy HSP.out _).mono ?_;rintro e1 w' ⟨rfl,rfl⟩;go_wp2_with fail;go_roundg k
       case measure=>omega
       case rel=>
        refine⟨m+1,zs.set m L,H,by have:=HM.out;unfold Hid;omega,by go_num,rfl,bH,by unfold Hid;rw[List.length_set];exact HZL.out,hz.set bL.1 bL.2 m,?_,HST,HO.out.set (by rw[HZL.out];exact hm) L,hbx.setCell (by simpa using hgB) _⟩;intro j hj;rw[jM _ _ _ _ (by omega)];exact HZR.out j (by omega)
      |zero=>
       have hm:m=nl old:=by have:=HM.out;omega
       subst hm;have hv:=HVZ.out;rw[List.take_of_length_le (by rw[HZL.out];exact Nat.le_refl _),List.take_of_length_le (by rw[aJ];exact Nat.le_refl _),bC] at hv;have HCE:=Lib.hid (NF hP0 hz HZL.out hcy.1 hcy.2 hv);have hnew:Hid (aL (l1++pc)=old*P+v):=HVAL;have hS2:Hid (s.data.toList=(l1++pc)++(t.extract j t.size).data.toList):=by
        unfold Hid;rw[HER.out,List.append_assoc,←HPC.out,List.take_append_drop];exact HS.out
       clear hv HVZ HZR HM hz;by_cases hc0:cy=0
       ·subst hc0;have e:=HCE.out.1 rfl;rw[←HVAL.out] at e;subst e;go_wp2_with fail;go_roundg (t.size-j)
        case measure=>have:=HT.out;omega
        case rel=>exact⟨_,l1++pc,rfl,HES,hS2,ho,hbx⟩
       ·have e:=HCE.out.2 hc0;rw[←HVAL.out] at e;have hcz:(cy != 0)=true:=by simpa using hc0
        have HE:=Lib.hid e;clear e;have hsrc:Src (wr.alloc (.cells #[.int .u64 cy] 161)) (some ⟨wr.heap.size,0,none⟩) [Value.int .u64 cy]:=by
         refine .inr ⟨_,_,rfl,fun i v hv=> ?_⟩;match i,hv with
         |0,hv=>simp at hv;subst hv;simp[go_sem]
        have ho':wr.ownsRow w.heap.size 161 1 (.slice A (nl old) c) (nl old) (zs.map (Value.int .u64)):=by
         have:=ho;unfold OwnN at this;rw[HZL.out] at this;exact this
        have hbs:=hbx.size;go_wp2_with (at_builtin;refine eJ rfl rfl 161 _ 1 8 Tryz.underlying48 eY rfl (by decide) w.heap.size (.slice A (nl old) c) (nl old) _ rfl (ho'.alloc _) [Value.int .u64 cy] rfl (by simp) hsrc (by simp[Value.oneCell']) (by omega) (by omega) (by simp;omega) ?_;intro q1 w2 ho1 hg1 hat1);go_wp2_with fail;go_roundg (t.size-j)
        case measure=>have:=HT.out;omega
        case rel=>
         refine⟨_,l1++pc,rfl,HES,hS2,?_,(hbx.alloc hbx.size _).grown hg1 (by simp;omega) (fun g hg=>(ho.lt g hg).1)⟩;rw[←HE.out];unfold OwnN;rw[List.map_append,List.length_append,HZL.out];exact ho1
def wX (w:World) (n:Nat) (e:Ending) (w':World):Prop:=∃v,e= .returned v∧NatAt w' v n∧Below w.heap.size w w'
def PowAt (w:World) (v:Value) (k:Nat):Prop:=∃A c us,v= .slice A k c∧k≤c∧us.length=k∧(k=0∨∃b off,A=some ⟨b,off,none⟩∧b<w.heap.size∧VC w b off us)∧∀i u,us[i]? =some u→NatAt w u (10^(19*2^i))
theorem PowAt.below {w w':World} {v:Value} {k:Nat} (h:PowAt w v k) (hb:Below w.heap.size w w'):PowAt w' v k:=by
 obtain⟨A,c,us,hv,hc,hl,hA,hu⟩:=h;refine⟨A,c,us,hv,hc,hl,?_,fun i u h=>(hu i u h).below hb⟩;rcases hA with h|⟨b,off,rfl,hb',hc'⟩
 ·exact .inl h
 ·exact .inr ⟨b,off,rfl,Nat.lt_of_lt_of_le hb' hb.size,hc'.below hb hb'⟩
theorem PowAt.cut {w:World} {A:Option Addr} {c k:Nat} (h:PowAt w (.slice A k c) k) {j:Nat} (hj:j≤k):PowAt w (.slice A j c) j:=by
 obtain⟨A',c',us,hv,hc,hl,hA,hu⟩:=h;simp only[Value.slice.injEq] at hv;obtain⟨rfl, -,rfl⟩:=hv;refine⟨A,c,us.take j,rfl,by omega,by rw[List.length_take];omega,?_,fun i u h=>hu i u (by rw[List.getElem?_take] at h;split at h;exact h;cases h)⟩;rcases hA with h|⟨b,off,rfl,hb',hc'⟩
 ·exact .inl (by omega)
 ·exact .inr ⟨b,off,rfl,hb',hc'.take j⟩
theorem D0 (S:Nat):nl (10^S)≤S+1:=by
 refine bI ?_;rw[Nat.pow_succ];have h1:10^S≤BN^S:=Nat.pow_le_pow_left (by decide) _;have h2:0<BN^S:=Nat.pow_pos (by decide);have h3:BN^S*2≤BN^S*BN:=Nat.mul_le_mul_left _ kI;omega
theorem wY (j:Nat) (hj:j≤40):∃S:Nat,(19:Int)*2^j=(S:Int)∧Hid (S=19*2^j)∧S≤20890720927744∧19≤S:=by
 have h1:2^j≤2^40:=Nat.pow_le_pow_right (by decide) hj;have h2:0<2^j:=Nat.pow_pos (by decide);refine⟨19*2^j,by push_cast;rfl,rfl,?_,by omega⟩;have h3:(2:Nat)^40=1099511627776:=by decide
 omega
def wZ (N:Nat):Prop:=∀(k:Nat) (s:ByteArray) (v:Value) (w:World),k<N→k≤40→Digs s.data.toList→s.size≤1099511627776→PowAt w v k→Calls Tryz.prog 151 #[.string s,v] w (wX w (aL s.data.toList))
theorem N7 (N:Nat) (ih:wZ N):wZ (N+1):=by
 intro k s v w hN hk40 hd hl hp;have hps:=NG s w hd hl;have HP:=Lib.hid hp;obtain⟨A,c,us,rfl,hc,hlu,hA,hu⟩:=hp;go_enter Tryz.func151,Tryz.ntmps151;go_wp2_with fail;go_loop [5] (fun i=>∃q:Int, -1≤q∧q<k∧i= .int .i64 q) (fun i=>(intOf i+1).toNat)
 case atStart=>exact⟨(k:Int)-1,by omega,by omega,rfl⟩
 case round=>
  obtain⟨q,hq1,hq2,rfl⟩:=hrel;by_cases hq0:0≤q
  ·obtain⟨j,rfl⟩:=Int.eq_ofNat_of_zero_le hq0;obtain⟨S,hS,HS,hS1,hS2⟩:=wY j (by omega);by_cases hge:s.size≤S
   ·have hge':(s.size:Int)≤S:=by omega
    go_wp2_with fail;go_round
    case rel=>exact⟨(j:Int)-1,by omega,by omega,rfl⟩
    case measure=>simp[intOf]
   ·have hge':¬(s.size:Int)≤S:=by omega
    by_cases h570:s.size≤570
    ·go_wp2_with fail;refine hps.mono ?_;rintro e w1 ⟨v1,rfl,hv1,hf1,hb1⟩;go_wp2;go_ret;exact⟨_,rfl,hv1,hb1⟩
    ·obtain⟨b,off,rfl,hb,hvc⟩:=hA.resolve_left (by omega);obtain⟨u,hju⟩:∃u,us[j]? =some u:=⟨_,List.getElem?_eq_getElem (by omega)⟩;have g:=hvc j u hju;have hnu:=hu j u hju;rw[←HS.out] at hnu;obtain⟨z,hz,hze,HZ⟩:∃z:Nat,z≤s.size∧(s.size:Int)-S=(z:Int)∧Hid (z+S=s.size):=⟨s.size-S,by omega,by omega,by unfold Hid;omega⟩;have hel:(s.extract 0 z).data.toList=s.data.toList.take z:=by rw[iZ,List.drop_zero]
     have her:(s.extract z s.size).data.toList=s.data.toList.drop z:=by rw[iZ,List.take_of_length_le (by simp)]
     have hez:(s.extract 0 z).size≤1099511627776:=by rw[ByteArray.size_extract];omega
     have hes:(s.extract z s.size).size≤1099511627776:=by rw[ByteArray.size_extract];omega
     have HEL:=Lib.hid hel;have HER:=Lib.hid her;have hval:aL s.data.toList=aL (s.data.toList.take z)*10^S+aL (s.data.toList.drop z):=by
      conv=>lhs;rw[←List.take_append_drop z s.data.toList,mW]
      rw[List.length_drop];have:s.data.toList.length=s.size:=by simp
      rw[this,show s.size-z=S by have:=HZ.out;omega]
     have HVAL:=Lib.hid hval;have hlt1:=mE (hd.take z);have hlt2:=mE (hd.drop z);have hln1:(s.data.toList.take z).length≤z:=List.length_take_le _ _;have hln2:(s.data.toList.drop z).length≤s.size:=by rw[List.length_drop];simp
     have hpn:=D0 S;have HHU:=Lib.hid hju;have hw:w.heap.size≤w.heap.size:=Nat.le_refl _;clear hel her hval hju hvc hu hlu hA hps;have hi0:(0:Int)≤(j:Int):=by omega
     have hi1:(j:Int)<(k:Int):=hq2;have hi2:j≤c:=by omega
     have hcall1:=fun w1 (hb:Below w.heap.size w w1)=>ih j (s.extract 0 z) (.slice (some ⟨b,off,none⟩) j c) w1 (by omega) (by omega) (by rw[HEL.out];exact hd.take z) hez ((HP.out.below hb).cut (by omega));have hcall2:=fun w1 (hb:Below w.heap.size w w1)=>ih j (s.extract z s.size) (.slice (some ⟨b,off,none⟩) j c) w1 (by omega) (by omega) (by rw[HER.out];exact hd.drop z) hes ((HP.out.below hb).cut (by omega));go_wp2_with fail
     go_region_held3 (fun w'=>w'.cell? ⟨b,off+j,none⟩=some u) (first|go_keep|(exact(hb1.cell (p:=⟨b,off+j,none⟩) hb).trans g)|(exact(hb2.cell (p:=⟨b,off+j,none⟩) (Nat.lt_of_lt_of_le hb hb1.size)).trans ((hb1.cell (p:=⟨b,off+j,none⟩) hb).trans g))) (first
      |(go_at_call 151;(with_reducible refine(hcall1 _ ((Below.refl _ _).drew)).mono ?_);rintro e1 w1 ⟨v1,rfl,hv1,hb1⟩)
      |(go_at_call 121;(with_reducible refine(mB _ _ _ _ _ hv1 ((hnu.drew).below hb1) (by rw[HEL.out];unfold aF;omega)).mono ?_);rintro e2 w2 ⟨v2,rfl,hv2,hf2,hb2⟩))
     have hb01:Below w.heap.size w w1:=((Below.refl w.heap.size w).drew).trans hb1;have hb02:Below w.heap.size w w2:=aB hb01 hb2;rw[HEL.out] at hv2;have hm1:=cJ (aL (s.data.toList.take z)) (10^S);clear hv1 hf2 hb1 hb2 g hnu hcall1;have hv2d:NatAt w2.drew v2 (aL (s.data.toList.take z)*10^S):=hv2;go_wp2_with fail
     go_region_held3 (fun _=>True) (trivial) (first
      |(go_at_call 151;(with_reducible refine(hcall2 _ (hb02.drew)).mono ?_);rintro e3 w3 ⟨v3,rfl,hv3,hb3⟩)
      |(go_at_call 123;(with_reducible refine(oQ _ _ _ _ _ (hv2d.below hb3) hv3 (by omega) (by rw[HER.out];omega)).mono ?_);rintro e4 w4 ⟨v4,rfl,hv4,hf4,hb4⟩))
     go_wp2;go_ret;have hb03:Below w.heap.size w w3:=(hb02.drew).trans (hb3.mono hb02.size);exact⟨_,rfl,by rw[HVAL.out,←HER.out];exact hv4,aB hb03 hb4⟩
  ·obtain rfl:q= -1:=by omega
   go_wp2_with fail;refine hps.mono ?_;rintro e w1 ⟨v1,rfl,hv1,hf1,hb1⟩;go_wp2;go_ret;exact⟨_,rfl,hv1,hb1⟩
theorem N9 (N:Nat):wZ N:=by
 induction N with
 |zero=>intro k s v w h;omega
 |succ N ih=>exact N7 N ih
theorem D4 (k:Nat) (s:ByteArray) (v:Value) (w:World) (hk:k≤40) (hd:Digs s.data.toList) (hl:s.size≤1099511627776) (hp:PowAt w v k):
  Calls Tryz.prog 151 #[.string s,v] w (wX w (aL s.data.toList)):=N9 (k+1) k s v w (Nat.lt_succ_self _) hk hd hl hp
def OwnP (w:World) (B:Nat) (v:Value) (us:List Value):Prop:=w.ownsRow B 48 1 v us.length us∧∀i u,us[i]? =some u→NatAt w u (10^(19*2^i))∧∀g,v.ownBlock=some g→u.ownBlock≠some g
theorem x9:(Tryz.prog.info? 48).map (fun i=>(i.zero,i.size,i.bytes))=some (some (.slice none 0 0),1,24):=by kernel_rfl
theorem OwnP.pow {w:World} {B:Nat} {v:Value} {us:List Value} (h:OwnP w B v us):PowAt w v us.length:=by
 obtain⟨⟨_,h1⟩,h2⟩:=h;rcases h1 with ⟨rfl,e⟩|⟨g,cap,cur,rfl,hb,hh,hn,hm,hs,ht⟩
 ·exact⟨none,0,us,by rw[e],by omega,rfl,.inl e,fun i u hu=>(h2 i u hu).1⟩
 ·refine⟨_,cap,us,rfl,hn,rfl,.inr ⟨g,0,rfl,(Array.getElem?_eq_some_iff.1 hh).1,?_⟩,fun i u hu=>(h2 i u hu).1⟩;intro i u hu;rw[cell_of_row w g (0+i) cur _ (0,0) hh,Nat.zero_add,←Array.getElem?_toList];rw[←ht,List.getElem?_take] at hu;split at hu
  ·exact hu
  ·cases hu
theorem OwnP.push {w w':World} {B:Nat} {v v' u:Value} {us:List Value} {o:Obj} (h:OwnP w B v us) (hu:NatAt w u (10^(19*2^us.length))) (hv:∀g,v.ownBlock=some g→u.ownBlock≠some g)
  (ho:w'.ownsRow B 48 1 v' (us.length+1) (us++[u])) (hg:(w.alloc o).grownBy w' v.ownBlock) (hat:v'.ownBlock=v.ownBlock∨v'.ownBlock=some (w.alloc o).heap.size):OwnP w' B v' (us++[u]):=by
 have key:∀x n,NatAt w x n→(∀g,v.ownBlock=some g→x.ownBlock≠some g)→NatAt w' x n∧∀g,v'.ownBlock=some g→x.ownBlock≠some g:=by
  intro x n hx hne;refine⟨(hx.below ((Below.refl _ _).alloc (Nat.le_refl _) _)).grown hg hne,fun g e e2=> ?_⟩;rcases hat with h|h
  ·exact hne g (by rw[←h];exact e) e2
  ·rw[h] at e;injection e with e;have:=hx.block e2;simp at e;omega
 refine⟨by rw[List.length_append];exact ho,fun i x hx=> ?_⟩;rcases Nat.lt_or_ge i us.length with hi|hi
 ·rw[List.getElem?_append_left hi] at hx;exact key x _ (h.2 i x hx).1 (h.2 i x hx).2
 ·rw[List.getElem?_append_right hi] at hx;have hi0:i=us.length:=by
   rcases Nat.lt_or_ge i (us.length+1) with h1|h1
   ·omega
   ·rw[List.getElem?_eq_none (by simp;omega)] at hx;cases hx
  subst hi0;simp at hx;subst hx;exact key u _ hu hv
theorem OwnP.nil (w:World) (B:Nat):OwnP w B (.slice none 0 0) []:=⟨World.ownsRow_nil w B _ _,fun i u h=>by cases h⟩
theorem OwnP.belowE {w w':World} {B:Nat} {v:Value} {us:List Value} (h:OwnP w B v us) (hb:Below w.heap.size w w'):OwnP w' B v us:=by
 refine⟨World.ownsRow.kept h.1 (oM hb none) ?_,fun i u hu=>⟨(h.2 i u hu).1.below hb,(h.2 i u hu).2⟩⟩;cases v.ownBlock with
 |none=>exact .inl rfl
 |some g=>exact .inr (by simp)
theorem NatAt.oneCell {w:World} {v:Value} {n:Nat} (h:NatAt w v n):∀u∈[v],u.oneCell'=true:=by
 obtain⟨A,c,rfl,_⟩:=h;intro u hu;rw[List.mem_singleton] at hu;subst hu;rfl
theorem NC (s:ByteArray) (w:World) (hd:Digs s.data.toList) (hl:s.size≤1099511627776):
  Calls Tryz.prog 106 #[.string s] w (wX w (aL s.data.toList)):=by
 by_cases h570:570<s.size
 ·have h5:(570:Int)<(s.size:Int):=by omega
  have hn0:NatAt (w.alloc (.cells #[.int .u64 10000000000000000000] 161)) (.slice (some ⟨w.heap.size,0,none⟩) 1 1) (10^(19*2^([]:List Value).length)):=t8 w 10000000000000000000 (by decide) (by decide) 161;go_enter Tryz.func106,Tryz.ntmps106;go_wp2_with (at_builtin;(refine eJ rfl rfl 48 _ 1 24 Tryz.underlying198 x9 rfl (by decide) w.heap.size (.slice none 0 0) 0 [] rfl (World.ownsRow_nil _ _ _ _) [Value.slice (some ⟨w.heap.size,0,none⟩) 1 1] rfl (by simp) (BM _ _ _ _ (by simp)) (by simp[Value.oneCell']) (by omega) (by omega) (by simp;omega) ?_);intro q1 w1 ho1 hg1 hat1);have hP0:=OwnP.push (OwnP.nil _ w.heap.size) hn0 (by intro g e;cases e) (by simpa using ho1) hg1 hat1;have hb1:Below w.heap.size w w1:=(((Below.refl _ _).alloc (Nat.le_refl _) _).alloc (by simp) _).grown hg1 (by simp;omega) (by intro k hk;cases hk);clear ho1 hg1 hat1 hn0;go_wp2_with fail;go_loopg [3] 39 (fun k q wr=>∃us,Hid (us.length+k=40)∧1≤us.length∧Hid (19*2^(us.length-1)<s.size)∧OwnP wr w.heap.size q us∧Below w.heap.size w wr)
  case atStart=>exact⟨[Value.slice (some ⟨w.heap.size,0,none⟩) 1 1],rfl,by simp,by unfold Hid;simp;omega,hP0,hb1⟩
  case round=>
   obtain⟨us,HK,h1,HL,hP,hbel⟩:=hrel;clear hP0 hb1;have hm37:us.length≤37:=by
    rcases Nat.lt_or_ge 37 us.length with h|h
    ·exfalso;have h2:2^37≤2^(us.length-1):=Nat.pow_le_pow_right (by decide) (by omega);have h3:=HL.out;have h4:(2:Nat)^37=137438953472:=by decide
     omega
    ·exact h
   obtain⟨S,hS,HS,hS1,hS2⟩:=wY us.length (by omega);have HP:=Lib.hid hP;have hpw:=hP.pow;rcases hP.1.2 with ⟨_,e⟩|⟨g,cap,cur,rfl,hb,hh,hn,hm,hs,ht⟩
   ·omega
   by_cases hlt:S<s.size
   ·have hlt':(S:Int)<s.size:=by omega
    obtain⟨A',c',us',hv',hc',hl',hA',hu'⟩:=hpw;simp only[Value.slice.injEq] at hv';obtain⟨rfl, -,rfl⟩:=hv';obtain⟨u,hu⟩:∃u,us[us.length-1]? =some u:=⟨_,List.getElem?_eq_getElem (by omega)⟩;have gc:wr.cell? ⟨g,us.length-1,none⟩=some u:=by
     rw[cell_of_row wr g _ cur _ (0,0) hh,←Array.getElem?_toList];have h1:(cur.toList.take (us.length*1))[us.length-1]? =us[us.length-1]? :=by rw[ht]
     rw[List.getElem?_take,if_pos (by omega)] at h1;rw[h1];exact hu
    obtain⟨hnu,hnb⟩:=HP.out.2 _ _ hu;have hpn:=D0 (19*2^(us.length-1));have hpb:=HL.out;have hgl:g<wr.heap.size:=(Array.getElem?_eq_some_iff.1 hh).1;have hprod:10^(19*2^(us.length-1))*10^(19*2^(us.length-1))=10^(19*2^us.length):=by
     rw[←Nat.pow_add];congr 1;obtain⟨m,hm⟩:∃m,us.length=m+1:=⟨us.length-1,by omega⟩;rw[hm,Nat.add_sub_cancel,Nat.pow_succ];omega
    have HPR:=Lib.hid hprod;clear hl' hA' hu' ht hs hh hP hprod hpb;generalize 10^(19*2^(us.length-1))=X at *;have hXl:nl X≤1099511627777:=by have:=HL.out;omega
    go_wp2_with fail;refine(mB X X _ _ _ hnu hnu (by unfold aF;omega)).mono ?_;rintro e w2 ⟨v2,rfl,hv2,hf2,hb2⟩;obtain⟨A2,c2,rfl,hcc2,hr2,ho2⟩:=id hv2;have hv2':NatAt w2 (Value.slice A2 (nl (X*X)) c2) (10^(19*2^us.length)):=by rw[←HPR.out];exact hv2
    have hne2:∀g',(Value.slice (some ⟨g,0,none⟩) us.length cap).ownBlock=some g'→(Value.slice A2 (nl (X*X)) c2).ownBlock≠some g':=by
     intro g' e;have:g=g':=by simpa [Value.ownBlock] using e
     subst this;exact hf2.ne2 hgl (hnb _ rfl) (hnb _ rfl)
    have hP2:=HP.out.belowE hb2;have hone:=hv2.oneCell;have hws:=hbel.size;have hws2:=hb2.size;go_wp2_with (at_builtin;(refine eJ rfl rfl 48 _ 1 24 Tryz.underlying198 x9 rfl (by decide) w.heap.size (.slice (some ⟨g,0,none⟩) us.length cap) us.length us rfl (hP2.1.alloc _) [(Value.slice A2 (nl (X*X)) c2)] rfl (by simp) (iD _ _ _) hone (by omega) (by omega) (by simp;omega) ?_);intro q1 w3 ho1 hg1 hat1);have hP3:=OwnP.push hP2 hv2' hne2 ho1 hg1 hat1
    have hb3:Below w.heap.size w w3:=((aB hbel hb2).alloc (by omega) _).grown hg1 (by simp;omega) (fun k hk=>by
     have:g=k:=by simpa [Value.ownBlock] using hk
     omega)
    go_wp2_with fail;go_roundg (40-(us++[(Value.slice A2 (nl (X*X)) c2)]).length)
    case measure=>have:=HK.out;simp;omega
    case rel=>
     refine⟨us++[(Value.slice A2 (nl (X*X)) c2)],by unfold Hid;simp;omega,by simp,?_,hP3,hb3⟩;unfold Hid;rw[List.length_append,List.length_singleton,Nat.add_sub_cancel,←HS.out];exact hlt
   ·have hlt':¬(S:Int)<s.size:=by omega
    clear hP;go_wp2_with fail;refine(D4 us.length s _ _ (by omega) hd hl hpw).mono ?_;rintro e w2 ⟨v2,rfl,hv2,hb2⟩;go_wp2;go_ret;exact⟨_,rfl,hv2,aB hbel hb2⟩
 ·have h5:¬(570:Int)<(s.size:Int):=by omega
  have hp:PowAt w (.slice none 0 0) 0:=⟨none,0,[],rfl,Nat.le_refl _,rfl,.inl rfl,fun i u h=>by cases h⟩;go_enter Tryz.func106,Tryz.ntmps106;go_wp2_with fail;refine(D4 0 s _ _ (by omega) hd hl hp).mono ?_;rintro e w1 ⟨v1,rfl,hv1,hb1⟩;go_wp2;go_ret;exact⟨_,rfl,hv1,hb1⟩
def Bx (w:World) (b:Nat) (cs:List Value) (t:TypeId):Prop:=w.heap[b]? =some (.cells cs.toArray t (0,0))
section
variable {w w':World} {b:Nat} {cs:List Value} {t:TypeId}
theorem Bx.new (w:World) (cs:List Value) (t:TypeId):Bx (w.alloc (.cells cs.toArray t)) w.heap.size cs t:=by show(w.heap.push _)[w.heap.size]? =_;simp
theorem Bx.newAt (w:World) (cs:List Value) (t:TypeId) (g:Nat) (hg:w.heap.size=g):Bx (w.alloc (.cells cs.toArray t)) g cs t:=by subst hg;exact Bx.new w cs t
theorem Bx.lt (h:Bx w b cs t):b<w.heap.size:=(Array.getElem?_eq_some_iff.1 h).1
theorem Bx.cell (h:Bx w b cs t) (i:Nat) {v:Value} (hv:cs[i]? =some v):w.cell? ⟨b,i,none⟩=some v:=by
 unfold Bx at h;simp[World.cell?,h,hv]
theorem Bx.free (h:Bx w b cs t) (j:Nat):w.frozen? ⟨b,j,none⟩=false:=frozen_of_row w b j _ t h
theorem Bx.below (h:Bx w b cs t) (hb:Below w.heap.size w w'):Bx w' b cs t:=(hb.block b h.lt).trans h
theorem Bx.belowB {B:Nat} (h:Bx w b cs t) (hb:Below B w w') (hl:b<B):Bx w' b cs t:=(hb.block b hl).trans h
theorem Bx.alloc (h:Bx w b cs t) (o:Obj):Bx (w.alloc o) b cs t:=(Below.heap_alloc w o b h.lt).trans h
theorem Bx.drew (h:Bx w b cs t):Bx w.drew b cs t:=h
theorem Bx.far (h:Bx w b cs t) {g:Nat} (o:Nat) (v:Value) (hne:g≠b):Bx (w.setCell ⟨g,o,none⟩ v) b cs t:=(Below.heap_setCell w ⟨g,o,none⟩ v b (fun e=>hne e.symm)).trans h
theorem Bx.set (h:Bx w b cs t) (i:Nat) (v:Value):Bx (w.setCell ⟨b,i,none⟩ v) b (cs.set i v) t:=by
 unfold Bx at h⊢;simp[World.setCell,Array.getElem?_modify,h]
end
def NoInt (c:Value):Prop:=∀k x,c≠ .int k x
theorem NoInt.bool (s:Bool):NoInt (.bool s):=fun _ _ h=>by cases h
theorem NoInt.slice (A:Option Addr) (n c:Nat):NoInt (.slice A n c):=fun _ _ h=>by cases h
theorem NoInt.string (s:ByteArray):NoInt (.string s):=fun _ _ h=>by cases h
theorem NatAt.put {w:World} {u:Value} {n:Nat} (h:NatAt w u n) {p:Addr} {c:Value} (hp:w.cell? p=some c) (hc:NoInt c) (v:Value):NatAt (w.setCell p v) u n:=by
 obtain⟨A,c',hv,hc',hr,ho⟩:=h;refine⟨A,c',hv,hc',?_,ho.mono (by simp)⟩;rcases hr with hr|⟨b,off,rfl,hlt,hcs⟩
 ·exact .inl hr
 ·refine .inr ⟨b,off,rfl,by simpa using hlt,fun i hi=> ?_⟩;have h1:=hcs i hi;rw[World.cell?_setCell_other _ _ _ _ ?_,h1];rintro rfl;rw[h1] at hp;injection hp with hp;exact hc _ _ hp.symm
theorem IntAt.put {w:World} {u:Value} {n:Int} (h:IntAt w u n) {p:Addr} {c:Value} (hp:w.cell? p=some c) (hc:NoInt c) (v:Value):IntAt (w.setCell p v) u n:=by
 obtain⟨a,hu,hn⟩:=h;exact⟨a,hu,hn.put hp hc v⟩
def Keep (w w':World):Prop:=∀u n,NatAt w u n→NatAt w' u n
theorem Keep.refl (w:World):Keep w w:=fun _ _ h=>h
theorem Keep.trans {a b c:World} (h:Keep a b) (k:Keep b c):Keep a c:=fun u n hu=>k u n (h u n hu)
theorem Keep.below {w w':World} (hb:Below w.heap.size w w'):Keep w w':=fun _ _ h=>h.below hb
theorem Keep.alloc (w:World) (o:Obj):Keep w (w.alloc o):=Keep.below ((Below.refl _ _).alloc (Nat.le_refl _) _)
theorem Keep.put {w:World} {p:Addr} {c:Value} (hp:w.cell? p=some c) (hc:NoInt c) (v:Value):Keep w (w.setCell p v):=fun _ _ h=>h.put hp hc v
theorem NatAt.keep {w w':World} {v:Value} {n:Nat} (h:NatAt w v n) (hk:Keep w w'):NatAt w' v n:=hk _ _ h
theorem IntAt.keep {w w':World} {v:Value} {n:Int} (h:IntAt w v n) (hk:Keep w w'):IntAt w' v n:=by
 obtain⟨u,hv,hu⟩:=h;exact⟨u,hv,hk _ _ hu⟩
theorem IntAt.drew {w:World} {u:Value} {n:Int} (h:IntAt w u n):IntAt w.drew u n:=h
theorem IntAt.form {w:World} {v:Value} {n:Int} (h:IntAt w v n):∃s A k c,v= .agg #[.bool s,.slice A k c]:=by
 obtain⟨u,rfl,A,c,rfl,_⟩:=h;exact⟨_,_,_,_,rfl⟩
theorem IntAt.words {w:World} {s:Bool} {u:Value} {n:Int} (h:IntAt w (.agg #[.bool s,u]) n):NatAt w u n.natAbs:=by
 obtain⟨u',e,h⟩:=h;simp at e;rw[e.2];exact h
theorem IntAt.neg {w:World} {s:Bool} {u:Value} {n:Int} (h:IntAt w (.agg #[.bool s,u]) n):s=decide (n<0):=by
 obtain⟨u',e,h⟩:=h;simp at e;exact e.1
theorem IntAt.of {w:World} {s:Bool} {u:Value} {n:Int} (h:NatAt w u n.natAbs) (hs:s=decide (n<0)):IntAt w (.agg #[.bool s,u]) n:=⟨u,by rw[hs],h⟩
theorem IntAt.zero (w:World):IntAt w (.agg #[.bool false,.slice none 0 0]) 0:=IntAt.of (NatAt.nil w) (by simp)
theorem gE {w w5:World} {B b:Nat} {t:TypeId} {s s0:Bool} {A0:Option Addr} {k0 c0:Nat} {u:Value} (hb:Below B w w5) (hg:B≤b) (hr:Bx w5 b [.bool s0,.slice A0 k0 c0] t):
  let W:=(w5.setCell ⟨b,0,none⟩ (.bool s)).setCell ⟨b,1,none⟩ u
  W.cell? ⟨b,0,none⟩=some (.bool s)∧W.cell? ⟨b,1,none⟩=some u∧Bx W b [.bool s,u] t∧Below B w W∧Keep w5 W:=by
 have h1:=(hr.set 0 (.bool s));have h2:=h1.set 1 u;refine⟨h2.cell 0 rfl,h2.cell 1 rfl,h2,?_,?_⟩
 ·exact(hb.setCell (p:=⟨b,0,none⟩) (by simpa using hg) _).setCell (p:=⟨b,1,none⟩) (by simpa using hg) _
 ·exact(Keep.put (hr.cell 0 rfl) (NoInt.bool _) _).trans (Keep.put (h1.cell 1 rfl) (NoInt.slice _ _ _) _)
theorem BJ (s:ByteArray) (w:World) (hd:Digs s.data.toList) (hl:s.size≤1099511627776):
  Calls Tryz.prog 44 #[.string s] w (bW w ((aL s.data.toList:Nat):Int)):=by
 have R:=Bx.new w [.bool false,.slice none 0 0] 50;have hb:Below w.heap.size w (w.alloc (.cells #[.bool false,.slice none 0 0] 50)):=(Below.refl _ _).alloc (Nat.le_refl _) _;have hp:=fun W=>NC s W hd hl;generalize aL s.data.toList=m at *;go_enter Tryz.func44,Tryz.ntmps44;go_wp2_with fail;generalize w.alloc (.cells #[.bool false,.slice none 0 0] 50)=W at *;refine(hp _).mono ?_;rintro e4 w4 ⟨v4,rfl,hv4,hb4⟩;obtain⟨A4,c4,rfl, -, -, -⟩:=id hv4;have R:=R.below hb4;have r0:=R.cell 0 rfl;have r1:=R.cell 1 rfl;have f0:=R.free 0;have f1:=R.free 1;have hb:=aB hb hb4;clear hp;go_wp2_with fail;obtain⟨z0,z1, -,hbz,hN⟩:=gE (s:=false) (u:= .slice A4 (nl m) c4) hb (Nat.le_refl _) R;have hv6:=hN _ _ hv4;generalize (w4.setCell ⟨w.heap.size,0,none⟩ (.bool false)).setCell ⟨w.heap.size,1,none⟩ (.slice A4 (nl m) c4)=W6 at *;exact bodyPost_ret (v:= .agg #[.bool false,.slice A4 (nl m) c4]) (by simp[results,Tryz.results44,go_sem,z0,z1]) rfl ⟨_,rfl,IntAt.of hv6 (by simp),hbz⟩
theorem sA (neg:Bool) (u:Value) (m:Nat) (n:Int) (w:World) (hu:NatAt w u m) (hm:nl m≤17592186044416) (hn:n=if neg then -(m:Int) else m):
  Calls Tryz.prog 68 #[.bool neg,u] w (bW w n):=by
 refine(lV neg u m n w hu hm hn).mono ?_;rintro e w' ⟨rfl,hb⟩;refine⟨_,rfl,IntAt.of ?_ rfl,hb⟩;have:n.natAbs=m:=by subst hn;cases neg<;>simp
 rw[this];exact hu.below hb
def JN (w:World) (s:Bool) (u:Value) (n:Int) (e:Ending) (w':World):Prop:=∃s',e= .returned (.agg #[.bool s',u])∧IntAt w' (.agg #[.bool s',u]) n∧Below w.heap.size w w'
theorem JO (x:Int) (s:Bool) (A:Option Addr) (k c:Nat) (w:World) (hx:IntAt w (.agg #[.bool s,.slice A k c]) x) (hl:nl x.natAbs≤17592186044416):
  Calls Tryz.prog 26 #[.agg #[.bool s,.slice A k c]] w (JN w s (.slice A k c) (-x)):=by
 have B1:=(Bx.new w [.bool s,.slice A k c] 50).alloc (.cells #[.bool false,.slice none 0 0] 50);have R:=Bx.new (w.alloc (.cells #[.bool s,.slice A k c] 50)) [.bool false,.slice none 0 0] 50;have hb:Below w.heap.size w ((w.alloc (.cells #[.bool s,.slice A k c] 50)).alloc (.cells #[.bool false,.slice none 0 0] 50)):=((Below.refl _ _).alloc (Nat.le_refl _) _).alloc (by simp) _;have hsz:w.heap.size≤(w.alloc (.cells #[.bool s,.slice A k c] 50)).heap.size:=by simp
 have hu:=hx.words.below hb;have hsum: -x=if (!s) then -((x.natAbs:Nat):Int) else ((x.natAbs:Nat):Int):=by
  rw[hx.neg];by_cases h:x<0<;>simp[h]<;>omega
 have HS:=Lib.hid hsum;obtain⟨sn,HSN⟩:∃sn,Hid (decide (-x<0)=sn):=⟨_,rfl⟩;clear hsum;have c0:=B1.cell 0 rfl;have c1:=B1.cell 1 rfl;have hsg:=fun W (h:NatAt W (.slice A k c) x.natAbs)=>lV (!s) _ _ (-x) W h hl HS.out;rw[HSN.out] at hsg;go_enter Tryz.func26,Tryz.ntmps26;go_wp2_with fail;generalize hg:(w.alloc (.cells #[.bool s,.slice A k c] 50)).heap.size=g at *;generalize (w.alloc (.cells #[.bool s,.slice A k c] 50)).alloc (.cells #[.bool false,.slice none 0 0] 50)=W at *;refine(hsg _ hu).mono ?_;rintro e5 w5 ⟨rfl,hb5⟩;have R:=R.below hb5;have r0:=R.cell 0 rfl;have r1:=R.cell 1 rfl;have f0:=R.free 0;have f1:=R.free 1;have hb:=aB hb hb5;have hu:=hu.below hb5;rw[World.size_alloc] at hg;subst hg;go_wp2_with fail;obtain⟨z0,z1, -,hbz,hN⟩:=gE (s:=sn) (u:= .slice A k c) hb hsz R;have hv6:=hN _ _ hu;generalize (w5.setCell ⟨w.heap.size+1,0,none⟩ (.bool sn)).setCell ⟨w.heap.size+1,1,none⟩ (.slice A k c)=W6 at *;exact bodyPost_ret (v:= .agg #[.bool sn,.slice A k c]) (by simp[results,Tryz.results26,go_sem,z0,z1]) rfl ⟨_,rfl,IntAt.of (by rw[Int.natAbs_neg];exact hv6) HSN.out.symm,hbz⟩
abbrev C1 (w:World) (b:Nat) (v0:Value):Prop:=w.cell? ⟨b,0,none⟩=some v0
abbrev C2 (w:World) (b:Nat) (v0 v1:Value):Prop:=w.cell? ⟨b,0,none⟩=some v0∧w.cell? ⟨b,1,none⟩=some v1
abbrev C3 (w:World) (b:Nat) (v0 v1 v2:Value):Prop:=w.cell? ⟨b,0,none⟩=some v0∧w.cell? ⟨b,1,none⟩=some v1∧w.cell? ⟨b,2,none⟩=some v2
abbrev C4 (w:World) (b:Nat) (v0 v1 v2 v3:Value):Prop:=w.cell? ⟨b,0,none⟩=some v0∧w.cell? ⟨b,1,none⟩=some v1∧w.cell? ⟨b,2,none⟩=some v2∧w.cell? ⟨b,3,none⟩=some v3
abbrev Fz (w:World) (b:Nat):Prop:=∀j,w.frozen? ⟨b,j,none⟩=false
theorem aa {p q:Prop} (h:p) (k:q):p∧q:=⟨h,k⟩
section
variable {w W:World} {b g o B:Nat} {t:TypeId} {v0 v1 v2 v3 u:Value} {cs:List Value}
theorem Bx.k1 (h:Bx w b [v0] t):C1 w b v0:=h.cell 0 rfl
theorem Bx.k2 (h:Bx w b [v0,v1] t):C2 w b v0 v1:=⟨h.cell 0 rfl,h.cell 1 rfl⟩
theorem Bx.k3 (h:Bx w b [v0,v1,v2] t):C3 w b v0 v1 v2:=⟨h.cell 0 rfl,h.cell 1 rfl,h.cell 2 rfl⟩
theorem Bx.k4 (h:Bx w b [v0,v1,v2,v3] t):C4 w b v0 v1 v2 v3:=⟨h.cell 0 rfl,h.cell 1 rfl,h.cell 2 rfl,h.cell 3 rfl⟩
theorem Bx.g1 (h:Bx w b [v0] t):C1 w b v0∧Fz w b:=⟨h.k1,h.free⟩
theorem Bx.g2 (h:Bx w b [v0,v1] t):C2 w b v0 v1∧Fz w b:=⟨h.k2,h.free⟩
theorem Bx.g3 (h:Bx w b [v0,v1,v2] t):C3 w b v0 v1 v2∧Fz w b:=⟨h.k3,h.free⟩
theorem Bx.g4 (h:Bx w b [v0,v1,v2,v3] t):C4 w b v0 v1 v2 v3∧Fz w b:=⟨h.k4,h.free⟩
theorem dF (hne:g≠b) (h:C2 w b v0 v1):C2 (w.setCell ⟨g,o,none⟩ u) b v0 v1:=⟨(aK _ _ _ _ _ _ hne).trans h.1,(aK _ _ _ _ _ _ hne).trans h.2⟩
theorem fP (hne:g≠b) (h:C4 w b v0 v1 v2 v3):C4 (w.setCell ⟨g,o,none⟩ u) b v0 v1 v2 v3:=
 ⟨(aK _ _ _ _ _ _ hne).trans h.1,(aK _ _ _ _ _ _ hne).trans h.2.1,(aK _ _ _ _ _ _ hne).trans h.2.2.1,(aK _ _ _ _ _ _ hne).trans h.2.2.2⟩
theorem bA (w:World) (c0:List Value) (t0:TypeId):∃W,w.alloc (.cells c0.toArray t0)=W∧Below w.heap.size w W∧Bx W w.heap.size c0 t0:=
 ⟨_,rfl,(Below.refl _ _).alloc (Nat.le_refl _) _,Bx.new _ _ _⟩
theorem j6 (w:World) (c0:List Value) (t0:TypeId) (c1:List Value) (t1:TypeId):∃W,(w.alloc (.cells c0.toArray t0)).alloc (.cells c1.toArray t1)=W∧Below w.heap.size w W∧Bx W w.heap.size c0 t0∧Bx W (w.heap.size+1) c1 t1:=by
 obtain⟨W,rfl,h,k0⟩:=bA w c0 t0;exact⟨_,rfl,h.alloc h.size _,k0.alloc _,Bx.newAt _ _ _ _ (World.size_alloc _ _)⟩
theorem dK (w:World) (c0:List Value) (t0:TypeId) (c1:List Value) (t1:TypeId) (c2:List Value) (t2:TypeId):
  ∃W,((w.alloc (.cells c0.toArray t0)).alloc (.cells c1.toArray t1)).alloc (.cells c2.toArray t2)=W∧Below w.heap.size w W∧Bx W w.heap.size c0 t0∧Bx W (w.heap.size+1) c1 t1∧Bx W (w.heap.size+1+1) c2 t2:=by
 obtain⟨W,rfl,h,k0,k1⟩:=j6 w c0 t0 c1 t1;exact⟨_,rfl,h.alloc h.size _,k0.alloc _,k1.alloc _,Bx.newAt _ _ _ _ (by simp)⟩
theorem xF (w:World) (c0:List Value) (t0:TypeId) (c1:List Value) (t1:TypeId) (c2:List Value) (t2:TypeId) (c3:List Value) (t3:TypeId):
  ∃W,(((w.alloc (.cells c0.toArray t0)).alloc (.cells c1.toArray t1)).alloc (.cells c2.toArray t2)).alloc (.cells c3.toArray t3)=W∧Below w.heap.size w W∧Bx W w.heap.size c0 t0∧Bx W (w.heap.size+1) c1 t1∧Bx W (w.heap.size+1+1) c2 t2∧Bx W (w.heap.size+1+1+1) c3 t3:=by
 obtain⟨W,rfl,h,k0,k1,k2⟩:=dK w c0 t0 c1 t1 c2 t2;exact⟨_,rfl,h.alloc h.size _,k0.alloc _,k1.alloc _,k2.alloc _,Bx.newAt _ _ _ _ (by simp)⟩
def fZ:Option Value→Bool
 |some (.bool _)=>true
 |some (.string _)=>true
 |some (.slice _ _ _)=>true
 |_=>false
theorem Bx.put1 (h:Bx W b cs t) (hb:Below B w W) (hB:B≤b) (i:Nat) (v:Value) (hn:fZ cs[i]? =true):
  ∃W',W.setCell ⟨b,i,none⟩ v=W'∧Bx W' b (cs.set i v) t∧Below B w W'∧Keep W W'∧∀{g:Nat} {cs:List Value} {t:TypeId},Bx W g cs t→b≠g→Bx W' g cs t:=by
 refine⟨_,rfl,h.set i v,hb.setCell (p:=⟨b,i,none⟩) hB v,?_,fun k hne=>k.far i v hne⟩;cases hc:cs[i]? with
 |none=>rw[hc] at hn;cases hn
 |some c=>
  rw[hc] at hn;refine Keep.put (h.cell i hc) (fun k x e=> ?_) v;subst e;cases hn
theorem Bx.put2 (h:Bx W b cs t) (hb:Below B w W) (hB:B≤b) (v0 v1:Value) {a0 a1:Value} (hc:cs=[a0,a1]) (hn:(fZ (some a0)&&fZ (some a1))=true):
  ∃W',(W.setCell ⟨b,0,none⟩ v0).setCell ⟨b,1,none⟩ v1=W'∧Bx W' b [v0,v1] t∧Below B w W'∧Keep W W'∧∀{g:Nat} {cs:List Value} {t:TypeId},Bx W g cs t→b≠g→Bx W' g cs t:=by
 subst hc;simp only[Bool.and_eq_true] at hn;obtain⟨W1,rfl,h1,b1,k1,f1⟩:=h.put1 hb hB 0 v0 hn.1;obtain⟨W2,rfl,h2,b2,k2,f2⟩:=h1.put1 b1 hB 1 v1 hn.2;exact⟨_,rfl,h2,b2,k1.trans k2,fun k hne=>f2 (f1 k hne) hne⟩
theorem Bx.put3 (h:Bx W b cs t) (hb:Below B w W) (hB:B≤b) (v0 v1 v2:Value) {a0 a1 a2:Value} (hc:cs=[a0,a1,a2]) (hn:(fZ (some a0)&&(fZ (some a1)&&fZ (some a2)))=true):
  ∃W',((W.setCell ⟨b,0,none⟩ v0).setCell ⟨b,1,none⟩ v1).setCell ⟨b,2,none⟩ v2=W'∧Bx W' b [v0,v1,v2] t∧Below B w W'∧Keep W W'∧∀{g:Nat} {cs:List Value} {t:TypeId},Bx W g cs t→b≠g→Bx W' g cs t:=by
 subst hc;simp only[Bool.and_eq_true] at hn;obtain⟨W1,rfl,h1,b1,k1,f1⟩:=h.put1 hb hB 0 v0 hn.1;obtain⟨W2,rfl,h2,b2,k2,f2⟩:=h1.put1 b1 hB 1 v1 hn.2.1;obtain⟨W3,rfl,h3,b3,k3,f3⟩:=h2.put1 b2 hB 2 v2 hn.2.2;exact⟨_,rfl,h3,b3,(k1.trans k2).trans k3,fun k hne=>f3 (f2 (f1 k hne) hne) hne⟩
theorem Bx.put4 (h:Bx W b cs t) (hb:Below B w W) (hB:B≤b) (v0 v1 v2 v3:Value) {a0 a1 a2 a3:Value} (hc:cs=[a0,a1,a2,a3]) (hn:(fZ (some a0)&&(fZ (some a1)&&(fZ (some a2)&&fZ (some a3))))=true):
  ∃W',(((W.setCell ⟨b,0,none⟩ v0).setCell ⟨b,1,none⟩ v1).setCell ⟨b,2,none⟩ v2).setCell ⟨b,3,none⟩ v3=W'∧Bx W' b [v0,v1,v2,v3] t∧Below B w W'∧Keep W W'∧∀{g:Nat} {cs:List Value} {t:TypeId},Bx W g cs t→b≠g→Bx W' g cs t:=by
 subst hc;simp only[Bool.and_eq_true] at hn;obtain⟨W1,rfl,h1,b1,k1,f1⟩:=h.put1 hb hB 0 v0 hn.1;obtain⟨W2,rfl,h2,b2,k2,f2⟩:=h1.put1 b1 hB 1 v1 hn.2.1;obtain⟨W3,rfl,h3,b3,k3,f3⟩:=h2.put1 b2 hB 2 v2 hn.2.2.1;obtain⟨W4,rfl,h4,b4,k4,f4⟩:=h3.put1 b3 hB 3 v3 hn.2.2.2;exact⟨_,rfl,h4,b4,((k1.trans k2).trans k3).trans k4,fun k hne=>f4 (f3 (f2 (f1 k hne) hne) hne) hne⟩
end
theorem JL (x y:Int) (vx vy:Value) (w:World) (hx:IntAt w vx x) (hy:IntAt w vy y) (bx:nl x.natAbs≤17592186044414) (bY:nl y.natAbs≤17592186044414):
  Calls Tryz.prog 135 #[vx,vy] w (bW w (x-y)):=by
 rw[Int.sub_eq_add_neg];have bn:nl (-y).natAbs≤17592186044414:=by rw[Int.natAbs_neg];exact bY
 obtain⟨sx,Ax,kx,cx,rfl⟩:=hx.form;obtain⟨sy,Ay,ky,cy,rfl⟩:=hy.form;obtain⟨W,eW,hb,B1,B2,R⟩:=dK w [.bool sx,.slice Ax kx cx] 50 [.bool sy,.slice Ay ky cy] 50 [.bool false,.slice none 0 0] 50;have cM:=aa B1.g2 (aa B2.g2 R.g2);go_enter Tryz.func135,Tryz.ntmps135;go_wp2_with fail;(try rw[eW]);clear eW;have hx:=hx.below hb;have hy:=hy.below hb;replace hx:=hx.drew;replace hy:=hy.drew;replace B1:=B1.drew;replace B2:=B2.drew;replace R:=R.drew;replace hb:=hb.drew;replace cM:=aa B1.k2 (aa B2.k2 R.g2);have n_R_B1:w.heap.size+1+1≠w.heap.size:=by omega
 have n_R_B2:w.heap.size+1+1≠w.heap.size+1:=by omega
 go_region_held3 (fun w'=>C2 w' w.heap.size (.bool sx) (.slice Ax kx cx)∧C2 w' (w.heap.size+1) (.bool sy) (.slice Ay ky cy))
  (first|(with_reducible exact⟨B1.k2,B2.k2⟩)|(refine⟨?_,?_⟩<;>(repeat (first|with_reducible exact B1.k2|with_reducible exact B2.k2|with_reducible refine dF n_R_B1 ?_|with_reducible refine dF n_R_B2 ?_))))
  (first
   |(go_at_call 26;(with_reducible refine(oK y _ _ hy (by omega)).mono ?_);rintro e4 w4 ⟨v4,rfl,h4,hb4⟩;obtain⟨s4,A4,k4,c4,rfl⟩:=h4.form;replace B1:=B1.below hb4;replace B2:=B2.below hb4;replace R:=R.below hb4;replace cM:=aa B1.k2 (aa B2.k2 R.g2);replace hk:=Keep.below hb4;replace hx:=hx.keep hk;replace hy:=hy.keep hk;(try replace h5:=h5.keep hk);replace hb:=aB hb hb4)
   |(go_at_call 63;(with_reducible refine(nI x (-y) _ _ _ hx h4 (by omega) (by omega)).mono ?_);rintro e5 w5 ⟨v5,rfl,h5,hb5⟩;obtain⟨s5,A5,k5,c5,rfl⟩:=h5.form;replace B1:=B1.below hb5;replace B2:=B2.below hb5;replace R:=R.below hb5;replace cM:=aa B1.k2 (aa B2.k2 R.g2);replace hk:=Keep.below hb5;replace hx:=hx.keep hk;replace hy:=hy.keep hk;(try replace h4:=h4.keep hk);replace hb:=aB hb hb5))
 go_wp2_with fail;obtain⟨W6,eW6,R,hb,hk,ff⟩:=R.put2 hb (by omega) (.bool s5) (.slice A5 k5 c5) rfl rfl;replace B1:=ff B1 (by omega);replace B2:=ff B2 (by omega);replace h5:=h5.keep hk;rw[eW6];clear eW6;replace cM:=aa B1.k2 (aa B2.k2 R.k2);exact bodyPost_ret (v:= .agg #[.bool s5,.slice A5 k5 c5]) (by simp[results,Tryz.results135,go_sem,R.k2]) rfl ⟨_,rfl,h5,hb⟩
theorem BG (x y:Int):x.tdiv y=if (!(decide (x<0)==decide (y<0))) then -((x.natAbs/y.natAbs:Nat):Int) else ((x.natAbs/y.natAbs:Nat):Int):=by
 have key:∀a b:Nat,(a:Int).tdiv b=((a/b:Nat):Int):=fun a b=>rfl;by_cases h1:x<0<;>by_cases h2:y<0
 ·have e:x.tdiv y=(x.natAbs:Int).tdiv y.natAbs:=by
   conv=>lhs;rw[show x= -(x.natAbs:Int) by omega,show y= -(y.natAbs:Int) by omega,Int.neg_tdiv,Int.tdiv_neg,Int.neg_neg]
  rw[e,key];simp[h1,h2]
 ·have e:x.tdiv y= -(x.natAbs:Int).tdiv y.natAbs:=by
   conv=>lhs;rw[show x= -(x.natAbs:Int) by omega,show y=(y.natAbs:Int) by omega,Int.neg_tdiv]
  rw[e,key];simp[h1,h2]
 ·have e:x.tdiv y= -(x.natAbs:Int).tdiv y.natAbs:=by
   conv=>lhs;rw[show x=(x.natAbs:Int) by omega,show y= -(y.natAbs:Int) by omega,Int.tdiv_neg]
  rw[e,key];simp[h1,h2]
 ·have e:x.tdiv y=(x.natAbs:Int).tdiv y.natAbs:=by
   conv=>lhs;rw[show x=(x.natAbs:Int) by omega,show y=(y.natAbs:Int) by omega]
  rw[e,key];simp[h1,h2]
theorem BH (x y:Int):x.tmod y=if decide (x<0) then -((x.natAbs%y.natAbs:Nat):Int) else ((x.natAbs%y.natAbs:Nat):Int):=by
 have key:∀a b:Nat,(a:Int).tmod b=((a%b:Nat):Int):=fun a b=>rfl;have ey:∀z:Int,z.tmod y=z.tmod y.natAbs:=fun z=>by
  rcases Int.natAbs_eq y with h|h
  ·rw[←h]
  ·conv=>lhs;rw[h,Int.tmod_neg]
 rw[ey];by_cases h1:x<0
 ·have e:x.tmod y.natAbs= -(x.natAbs:Int).tmod y.natAbs:=by
   conv=>lhs;rw[show x= -(x.natAbs:Int) by omega,Int.neg_tmod]
  rw[e,key];simp[h1]
 ·have e:x.tmod y.natAbs=(x.natAbs:Int).tmod y.natAbs:=by
   conv=>lhs;rw[show x=(x.natAbs:Int) by omega]
  rw[e,key];simp[h1]
def BI (w:World) (m n:Int) (e:Ending) (w':World):Prop:=∃u v,e= .returned (.tuple #[u,v])∧IntAt w' u m∧IntAt w' v n∧Below w.heap.size w w'
theorem JM (x y:Int) (vx vy:Value) (w:World) (hx:IntAt w vx x) (hy:IntAt w vy y) (hy0:y≠0) (hl:nl x.natAbs+4*nl y.natAbs+4≤17592186044416):
  Calls Tryz.prog 164 #[vx,vy] w (BI w (x.tdiv y) (x.tmod y)):=by
 obtain⟨sx,Ax,kx,cx,rfl⟩:=hx.form;obtain⟨sy,Ay,ky,cy,rfl⟩:=hy.form;have hq:=BG x y;have hr:=BH x y;rw[←hx.neg] at hq hr;rw[←hy.neg] at hq;have HQ:=Lib.hid hq;have HR:=Lib.hid hr;have hlq:nl (x.natAbs/y.natAbs)≤nl x.natAbs:=aX (Nat.div_le_self _ _);have hlr:nl (x.natAbs%y.natAbs)≤nl x.natAbs:=aX (Nat.mod_le _ _);have hky:ky=nl y.natAbs:=by
  obtain⟨A',c',e, -⟩:=hy.words;simp only[Value.slice.injEq] at e;exact e.2.1
 have hk1:((ky:Int)==0)=false:=by
  have:=eQ (show y.natAbs≠0 by omega);simp;omega
 have hdv:=fun W (h1:NatAt W (.slice Ax kx cx) x.natAbs) (h2:NatAt W (.slice Ay ky cy) y.natAbs)=>qC x.natAbs y.natAbs _ _ W h1 h2 (by omega) (by unfold aF;omega);unfold mV at hdv;generalize x.natAbs/y.natAbs=q at *;generalize x.natAbs%y.natAbs=r at *;generalize x.tdiv y=Q at *;generalize x.tmod y=R' at *;clear hq hr hky;obtain⟨W,eW,hb,B1,B2,R,S⟩:=xF w [.bool sx,.slice Ax kx cx] 50 [.bool sy,.slice Ay ky cy] 50 [.bool false,.slice none 0 0] 50 [.bool false,.slice none 0 0] 50;have cM:=aa B1.g2 (aa B2.g2 (aa R.g2 S.g2));go_enter Tryz.func164,Tryz.ntmps164;go_wp2_with fail;(try rw[eW]);clear eW;have hx:=hx.below hb;have hy:=hy.below hb;refine(hdv _ hx.words hy.words).mono ?_;rintro e3 w3 ⟨v3,u3,rfl,h3,i3, -, -,hb3⟩;obtain⟨A3,c3,rfl, -, -, -⟩:=id h3;obtain⟨D3,d3,rfl, -, -, -⟩:=id i3;replace B1:=B1.below hb3;replace B2:=B2.below hb3;replace R:=R.below hb3;replace S:=S.below hb3;replace cM:=aa B1.k2 (aa B2.k2 (aa R.g2 S.g2));replace hk:=Keep.below hb3;replace hx:=hx.keep hk;replace hy:=hy.keep hk;replace hb:=aB hb hb3;clear hdv;go_wp2_with fail;replace hx:=hx.drew;replace hy:=hy.drew;replace h3:=h3.drew;replace i3:=i3.drew;replace B1:=B1.drew;replace B2:=B2.drew;replace R:=R.drew;replace S:=S.drew;replace hb:=hb.drew;replace cM:=aa B1.k2 (aa B2.k2 (aa R.g2 S.g2));have n_R_B1:w.heap.size+1+1≠w.heap.size:=by omega
 have n_R_B2:w.heap.size+1+1≠w.heap.size+1:=by omega
 have n_S_B1:w.heap.size+1+1+1≠w.heap.size:=by omega
 have n_S_B2:w.heap.size+1+1+1≠w.heap.size+1:=by omega
 go_region_held3 (fun w'=>C2 w' w.heap.size (.bool sx) (.slice Ax kx cx)∧C2 w' (w.heap.size+1) (.bool sy) (.slice Ay ky cy))
  (first|(with_reducible exact⟨B1.k2,B2.k2⟩)|(refine⟨?_,?_⟩<;>(repeat (first|with_reducible exact B1.k2|with_reducible exact B2.k2|with_reducible refine dF n_R_B1 ?_|with_reducible refine dF n_R_B2 ?_|with_reducible refine dF n_S_B1 ?_|with_reducible refine dF n_S_B2 ?_))))
  (first
   |(go_at_call 68;(with_reducible refine(sA _ _ q Q _ h3 (by omega) HQ.out).mono ?_);rintro e4 w4 ⟨v4,rfl,h4,hb4⟩;obtain⟨s4,A4,k4,c4,rfl⟩:=h4.form;replace B1:=B1.below hb4;replace B2:=B2.below hb4;replace R:=R.below hb4;replace S:=S.below hb4;replace cM:=aa B1.k2 (aa B2.k2 (aa R.g2 S.g2));replace hk:=Keep.below hb4;replace hx:=hx.keep hk;replace hy:=hy.keep hk;replace h3:=h3.keep hk;replace i3:=i3.keep hk;(try replace h5:=h5.keep hk);replace hb:=aB hb hb4)
   |(go_at_call 68;(with_reducible refine(sA _ _ r R' _ i3 (by omega) HR.out).mono ?_);rintro e5 w5 ⟨v5,rfl,h5,hb5⟩;obtain⟨s5,A5,k5,c5,rfl⟩:=h5.form;replace B1:=B1.below hb5;replace B2:=B2.below hb5;replace R:=R.below hb5;replace S:=S.below hb5;replace cM:=aa B1.k2 (aa B2.k2 (aa R.g2 S.g2));replace hk:=Keep.below hb5;replace hx:=hx.keep hk;replace hy:=hy.keep hk;replace h3:=h3.keep hk;replace i3:=i3.keep hk;(try replace h4:=h4.keep hk);replace hb:=aB hb hb5))
 go_wp2_with fail;obtain⟨U0,eU0,R,hb,hk,ff⟩:=R.put2 hb (by omega) (.bool s4) (.slice A4 k4 c4) rfl rfl;replace B1:=ff B1 (by omega);replace B2:=ff B2 (by omega);replace S:=ff S (by omega);replace h4:=h4.keep hk;replace h5:=h5.keep hk;obtain⟨W6,eW6,S,hb,hk,ff⟩:=S.put2 hb (by omega) (.bool s5) (.slice A5 k5 c5) rfl rfl;replace B1:=ff B1 (by omega);replace B2:=ff B2 (by omega);replace R:=ff R (by omega);replace h4:=h4.keep hk;replace h5:=h5.keep hk;rw[eU0,eW6];clear eU0 eW6;replace cM:=aa B1.k2 (aa B2.k2 (aa R.k2 S.k2));exact bodyPost_ret (v:= .tuple #[.agg #[.bool s4,.slice A4 k4 c4],.agg #[.bool s5,.slice A5 k5 c5]]) (by simp[results,Tryz.results164,go_sem,R.k2,S.k2]) rfl ⟨_,_,rfl,h4,h5,hb⟩
theorem iC (x y:Int) (vx vy:Value) (w:World) (hx:IntAt w vx x) (hy:IntAt w vy y) (hy0:y≠0) (hl:nl x.natAbs+4*nl y.natAbs+4≤17592186044416):
  Calls Tryz.prog 120 #[vx,vy] w (bW w (x.tdiv y)):=by
 obtain⟨sx,Ax,kx,cx,rfl⟩:=hx.form;obtain⟨sy,Ay,ky,cy,rfl⟩:=hy.form;have hq1:y=1→x.tdiv y=x:=fun h=>by rw[h,Int.tdiv_one]
 have HQ:=Lib.hid hq1;clear hq1;obtain⟨W,eW,hb,B1,B2,R⟩:=dK w [.bool sx,.slice Ax kx cx] 50 [.bool sy,.slice Ay ky cy] 50 [.bool false,.slice none 0 0] 50;have cM:=aa B1.g2 (aa B2.g2 R.g2);go_enter Tryz.func120,Tryz.ntmps120;go_wp2_with fail;(try rw[eW]);clear eW;have hx:=hx.below hb;have hy:=hy.below hb;refine(jL y _ _ hy (by omega)).mono ?_;rintro e3 w3 ⟨rfl,hb3⟩;replace B1:=B1.below hb3;replace B2:=B2.below hb3;replace R:=R.below hb3;replace cM:=aa B1.k2 (aa B2.k2 R.g2);replace hk:=Keep.below hb3;replace hx:=hx.keep hk;replace hy:=hy.keep hk;replace hb:=aB hb hb3;by_cases h1:y=1
 ·have hd:decide (y=1)=true:=by simpa using h1
  rw[hd];have hq:=HQ.out h1;clear hd h1 HQ hy0;go_wp2_with fail;rw[hq];obtain⟨W6,eW6,R,hb,hk,ff⟩:=R.put2 hb (by omega) (.bool sx) (.slice Ax kx cx) rfl rfl;replace B1:=ff B1 (by omega);replace B2:=ff B2 (by omega);replace hx:=hx.keep hk;rw[eW6];clear eW6;replace cM:=aa B1.k2 (aa B2.k2 R.k2);exact bodyPost_ret (v:= .agg #[.bool sx,.slice Ax kx cx]) (by simp[results,Tryz.results120,go_sem,R.k2]) rfl ⟨_,rfl,hx,hb⟩
 ·have hd:decide (y=1)=false:=by simpa using h1
  rw[hd];clear hd HQ;go_wp2_with fail;have hqr:=JM x y _ _ _ hx hy hy0 hl;unfold BI at hqr;generalize x.tdiv y=Q at *;generalize x.tmod y=M at *;refine hqr.mono ?_;rintro e4 w4 ⟨v4,v5,rfl,h4,h5,hb4⟩;obtain⟨s4,A4,k4,c4,rfl⟩:=h4.form;obtain⟨s5,A5,k5,c5,rfl⟩:=h5.form;replace B1:=B1.below hb4;replace B2:=B2.below hb4;replace R:=R.below hb4;replace cM:=aa B1.k2 (aa B2.k2 R.g2);replace hk:=Keep.below hb4;replace hx:=hx.keep hk;replace hy:=hy.keep hk;replace hb:=aB hb hb4;have R_c20:∀o0 o1:Obj,((w4.alloc o0).alloc o1).cell? ⟨w.heap.size+1+1,0,none⟩=some (.bool false):=fun o0 o1=>((R.alloc o0).alloc o1).cell 0 rfl;have R_g20:∀o0 o1:Obj,((w4.alloc o0).alloc o1).frozen? ⟨w.heap.size+1+1,0,none⟩=false:=fun o0 o1=>((R.alloc o0).alloc o1).free 0;have R_c21:∀o0 o1:Obj,((w4.alloc o0).alloc o1).cell? ⟨w.heap.size+1+1,1,none⟩=some (.slice none 0 0):=fun o0 o1=>((R.alloc o0).alloc o1).cell 1 rfl;have R_g21:∀o0 o1:Obj,((w4.alloc o0).alloc o1).frozen? ⟨w.heap.size+1+1,1,none⟩=false:=fun o0 o1=>((R.alloc o0).alloc o1).free 1;go_wp2_with fail;have B1_l:=B1.lt;have B2_l:=B2.lt;have R_l:=R.lt;have hsz_:=hb.size;obtain⟨U0,eU0,hA,B5,B6⟩:=j6 w4 [.bool s4,.slice A4 k4 c4] 50 [.bool s5,.slice A5 k5 c5] 50;replace B1:=B1.below hA;replace B2:=B2.below hA;replace R:=R.below hA;replace hk:=Keep.below hA;replace hb:=aB hb hA;replace h4:=h4.keep hk;obtain⟨W6,eW6,R,hb,hk,ff⟩:=R.put2 hb (by omega) (.bool s4) (.slice A4 k4 c4) rfl rfl;replace B1:=ff B1 (by omega);replace B2:=ff B2 (by omega);replace B5:=ff B5 (by omega);replace B6:=ff B6 (by omega);replace h4:=h4.keep hk;rw[eU0,eW6];clear eU0 eW6;replace cM:=aa B1.k2 (aa B2.k2 (aa R.k2 (aa B5.k2 B6.k2)));exact bodyPost_ret (v:= .agg #[.bool s4,.slice A4 k4 c4]) (by simp[results,Tryz.results120,go_sem,R.k2]) rfl ⟨_,rfl,h4,hb⟩
theorem Glob.drew {w:World} (h:Glob w):Glob w.drew:=h.below (Below.refl _ _).drew
theorem JI (x y:Int) (vx vy:Value) (w:World) (hx:IntAt w vx x) (hy:IntAt w vy y) (bx:nl x.natAbs≤17592186044414) (bY:nl y.natAbs≤17592186044414):
  Calls Tryz.prog 193 #[vx,vy] w fun e w'=>e= .returned (.bool (decide (x=y)))∧Below w.heap.size w w':=by
 obtain⟨sx,Ax,kx,cx,rfl⟩:=hx.form;obtain⟨sy,Ay,ky,cy,rfl⟩:=hy.form;have hsx:=hx.neg;have hsy:=hy.neg;by_cases hs:(sx==sy)=true
 ·have hcc:=iY (x.natAbs:Int) (y.natAbs:Int);have hd:decide (x=y)=(bM (x.natAbs:Int) (y.natAbs:Int)==0):=by
   have e:sx=sy:=by simpa using hs
   rw[hsx,hsy] at e;rw[Bool.eq_iff_iff,decide_eq_true_iff,beq_iff_eq];by_cases h1:x<0<;>by_cases h2:y<0<;>simp[h1,h2] at e<;>omega
  rw[hd];have hcmp:=fun W (h1:NatAt W (.slice Ax kx cx) x.natAbs) (h2:NatAt W (.slice Ay ky cy) y.natAbs)=>mA x.natAbs y.natAbs _ _ W h1 h2 (by omega) (by omega);generalize bM (x.natAbs:Int) (y.natAbs:Int)=cc at *;clear hcc hd hsx hsy;obtain⟨W,eW,hb,B1,B2⟩:=j6 w [.bool sx,.slice Ax kx cx] 50 [.bool sy,.slice Ay ky cy] 50;have cM:=aa B1.g2 B2.g2;go_enter Tryz.func193,Tryz.ntmps193;go_wp2_with fail;(try rw[eW]);clear eW;have hx:=hx.below hb;have hy:=hy.below hb;refine(hcmp _ hx.words hy.words).mono ?_;rintro e3 w3 ⟨rfl,hb3⟩;clear hcmp;go_wp2;go_ret;exact⟨rfl,aB hb hb3⟩
 ·have hs2:(sx==sy)=false:=by simpa using hs
  have hd:decide (x=y)=false:=by
   have e:sx≠sy:=by simpa using hs
   rw[decide_eq_false_iff_not];intro h;subst h;exact e (hsx.trans hsy.symm)
  rw[hd];clear hd hsx hsy hs;go_enter Tryz.func193,Tryz.ntmps193;go_wp2;go_ret;exact⟨rfl,((Below.refl _ _).alloc (Nat.le_refl _) _).alloc (by simp) _⟩
theorem JK (x y:Int) (vx vy:Value) (w:World) (hG:Glob w) (hx:IntAt w vx x) (hy:IntAt w vy y) (hx0:x≠0) (hy0:y≠0) (K:Nat) (bx:nl x.natAbs≤K) (bY:nl y.natAbs≤K) (hK:5*K+4≤aF):
  Calls Tryz.prog 194 #[vx,vy] w (bW w ((Nat.lcm x.natAbs y.natAbs:Nat):Int)):=by
 obtain⟨sx,Ax,kx,cx,rfl⟩:=hx.form;obtain⟨sy,Ay,ky,cy,rfl⟩:=hy.form;have hky:ky=nl y.natAbs:=by
  obtain⟨A',c',e, -⟩:=hy.words;simp only[Value.slice.injEq] at e;exact e.2.1
 have hkx:kx=nl x.natAbs:=by
  obtain⟨A',c',e, -⟩:=hx.words;simp only[Value.slice.injEq] at e;exact e.2.1
 have hk1:((ky:Int)==0)=false:=by
  have:=eQ (show y.natAbs≠0 by omega);simp;omega
 have hk2:((kx:Int)==0)=false:=by
  have:=eQ (show x.natAbs≠0 by omega);simp;omega
 have hgl:nl (Nat.gcd x.natAbs y.natAbs)≤nl y.natAbs:=aX (Nat.le_of_dvd (by omega) (Nat.gcd_dvd_right _ _));have hg0:Nat.gcd x.natAbs y.natAbs≠0:=fun h=>by have:=Nat.eq_zero_of_gcd_eq_zero_left h;omega
 have hql:nl (y.natAbs/Nat.gcd x.natAbs y.natAbs)≤nl y.natAbs:=aX (Nat.div_le_self _ _);have hres:x.natAbs*(y.natAbs/Nat.gcd x.natAbs y.natAbs)=Nat.lcm x.natAbs y.natAbs:=by
  rw[Nat.lcm,Nat.mul_div_assoc _ (Nat.gcd_dvd_right _ _)]
 have hgc:=fun W (hG:Glob W) h1 h2=>BQ x.natAbs y.natAbs K (.slice Ax kx cx) (.slice Ay ky cy) W hG h1 h2 bx bY hK;have hdv:=fun W v (h1:NatAt W (.slice Ay ky cy) y.natAbs) (h2:NatAt W v (Nat.gcd x.natAbs y.natAbs))=>qC y.natAbs _ _ _ W h1 h2 hg0 (by omega);have hml:=fun W v (h1:NatAt W (.slice Ax kx cx) x.natAbs) (h2:NatAt W v (y.natAbs/Nat.gcd x.natAbs y.natAbs))=>mB x.natAbs _ _ _ W h1 h2 (by omega);rw[hres] at hml;unfold mV at hdv;unfold fY at hgc hml;generalize y.natAbs%Nat.gcd x.natAbs y.natAbs=r at *;generalize y.natAbs/Nat.gcd x.natAbs y.natAbs=q at *;generalize Nat.gcd x.natAbs y.natAbs=d at *;generalize Nat.lcm x.natAbs y.natAbs=l at *;clear hres hkx hky hg0;obtain⟨W,eW,hb,B1,B2,R⟩:=dK w [.bool sx,.slice Ax kx cx] 50 [.bool sy,.slice Ay ky cy] 50 [.bool false,.slice none 0 0] 50;have cM:=aa B1.g2 (aa B2.g2 R.g2);go_enter Tryz.func194,Tryz.ntmps194;go_wp2_with fail;(try rw[eW]);clear eW;have hx:=hx.below hb;have hy:=hy.below hb;have hG:=(hG.below hb).drew;replace hx:=hx.drew;replace hy:=hy.drew;replace B1:=B1.drew;replace B2:=B2.drew;replace R:=R.drew;replace hb:=hb.drew;replace cM:=aa B1.k2 (aa B2.k2 R.g2)
 go_region_held3 (fun w'=>C2 w' w.heap.size (.bool sx) (.slice Ax kx cx)∧C2 w' (w.heap.size+1) (.bool sy) (.slice Ay ky cy))
  (with_reducible exact⟨B1.k2,B2.k2⟩)
  (first
   |(go_at_call 107;(with_reducible refine(hgc _ hG hx.words hy.words).mono ?_);rintro e4 w4 ⟨v4,rfl,h4, -,hb4⟩;obtain⟨A4,c4,rfl, -, -, -⟩:=id h4;replace B1:=B1.below hb4;replace B2:=B2.below hb4;replace R:=R.below hb4;replace cM:=aa B1.k2 (aa B2.k2 R.g2);replace hk:=Keep.below hb4;replace hx:=hx.keep hk;replace hy:=hy.keep hk;(try replace h5:=h5.keep hk);replace hb:=aB hb hb4)
   |(go_at_call 154;(with_reducible refine(hdv _ _ hy.words h4).mono ?_);rintro e5 w5 ⟨v5,u5,rfl,h5, -, -, -,hb5⟩;obtain⟨A5,c5,rfl, -, -, -⟩:=id h5;replace B1:=B1.below hb5;replace B2:=B2.below hb5;replace R:=R.below hb5;replace cM:=aa B1.k2 (aa B2.k2 R.g2);replace hk:=Keep.below hb5;replace hx:=hx.keep hk;replace hy:=hy.keep hk;(try replace h4:=h4.keep hk);replace hb:=aB hb hb5))
 go_wp2_with fail;refine(hml _ _ hx.words h5).mono ?_;rintro e6 w6 ⟨v6,rfl,h6, -,hb6⟩;obtain⟨A6,c6,rfl, -, -, -⟩:=id h6;replace B1:=B1.below hb6;replace B2:=B2.below hb6;replace R:=R.below hb6;replace cM:=aa B1.k2 (aa B2.k2 R.g2);replace hb:=aB hb hb6;clear hgc hdv hml;go_wp2_with fail;have h6:IntAt w6 (.agg #[.bool false,.slice A6 (nl l) c6]) (l:Int):=IntAt.of h6 (by simp);obtain⟨W6,eW6,R,hb,hk,ff⟩:=R.put2 hb (by omega) (.bool false) (.slice A6 (nl l) c6) rfl rfl;replace B1:=ff B1 (by omega);replace B2:=ff B2 (by omega);replace h6:=h6.keep hk;rw[eW6];clear eW6;replace cM:=aa B1.k2 (aa B2.k2 R.k2);exact bodyPost_ret (v:= .agg #[.bool false,.slice A6 (nl l) c6]) (by simp[results,Tryz.results194,go_sem,R.k2]) rfl ⟨_,rfl,h6,hb⟩
def gL (x:Int):Bool:=decide (-9223372036854775808≤x∧x≤9223372036854775807)
theorem IntAt.len {w:World} {s:Bool} {A:Option Addr} {k c:Nat} {x:Int} (h:IntAt w (.agg #[.bool s,.slice A k c]) x):k=nl x.natAbs:=by
 obtain⟨A',c',e, -⟩:=h.words;simp only[Value.slice.injEq] at e;exact e.2.1
theorem JH (x:Int) (vx:Value) (w:World) (hx:IntAt w vx x) (bx:nl x.natAbs≤17592186044414):
  Calls Tryz.prog 94 #[vx] w fun e w'=>e= .returned (.tuple #[.int .i64 (if gL x then x else 0),.bool (gL x)])∧Below w.heap.size w w':=by
 obtain⟨sx,Ax,kx,cx,rfl⟩:=hx.form;have hk:=hx.len;by_cases h0:x=0
 ·have q0:((kx:Int)==0)=true:=by rw[hk,h0,show(0:Int).natAbs=0 from rfl,cC];rfl
  have hf:gL x=true:=by rw[h0];decide
  rw[hf,h0];clear hk h0 hf hx bx;go_enter Tryz.func94,Tryz.ntmps94;go_wp2;go_ret2;exact⟨rfl,(Below.refl _ _).alloc (Nat.le_refl _) _⟩
 ·have hp:=eQ (show x.natAbs≠0 by omega);have q0:((kx:Int)==0)=false:=by simp;omega
  have hu:=hx.words;obtain⟨A',c',e,hcc,hr, -⟩:=id hu;simp only[Value.slice.injEq] at e;obtain⟨rfl, -,rfl⟩:=e;obtain⟨b,off,rfl,hbl,hcs⟩:=hr.at_ (by rw[aJ];exact hp);have g0:=hcs 0 (by rw[aJ];exact hp);have i0:(0:Int)<(kx:Int):=by omega
  by_cases h1:kx=1
  ·have q1:¬(1:Int)<(kx:Int):=by omega
   have hxB:x.natAbs<BN:=by have:=bX x.natAbs;rw[←hk,h1,Nat.pow_one] at this;exact this
   rw[m5 (by omega) hxB] at g0;simp only[Nat.add_zero,List.getD_cons_zero] at g0;have hg1:(w.alloc (.cells #[.bool sx,.slice (some ⟨b,off,none⟩) kx cx] 50)).cell? ⟨b,off,none⟩=some (.int .u64 (x.natAbs:Int)):=(((Below.refl _ _).alloc (Nat.le_refl _) _).cell (p:=⟨b,off,none⟩) hbl).trans g0;have hs:=hx.neg;unfold BN at hxB;by_cases hneg:x<0
   ·have hsx:sx=true:=by rw[hs];simpa using hneg
    by_cases hle:x.natAbs≤9223372036854775808
    ·have hf:gL x=true:=by unfold gL;rw[decide_eq_true_iff];omega
     have hle':(x.natAbs:Int)≤9223372036854775808:=by omega
     have hw1:IntKind.u64.wrap (-(x.natAbs:Int))=18446744073709551616+x:=by rw[IntKind.wrap_u64];omega
     have hw2:IntKind.i64.wrap (18446744073709551616+x)=x:=by rw[IntKind.wrap_i64];omega
     rw[hf,if_pos rfl];clear hcs hf hs hxB hk hu hr;generalize (x.natAbs:Int)=xv at *;subst hsx;go_enter Tryz.func94,Tryz.ntmps94;go_wp2;go_ret2;exact⟨rfl,(Below.refl _ _).alloc (Nat.le_refl _) _⟩
    ·have hf:gL x=false:=by unfold gL;rw[decide_eq_false_iff_not];omega
     have hle':¬(x.natAbs:Int)≤9223372036854775808:=by omega
     rw[hf];clear hcs hf hs hxB hk hu hr;generalize (x.natAbs:Int)=xv at *;subst hsx;go_enter Tryz.func94,Tryz.ntmps94;go_wp2;go_ret2;exact⟨rfl,(Below.refl _ _).alloc (Nat.le_refl _) _⟩
   ·have hsx:sx=false:=by rw[hs];simpa using hneg
    by_cases hle:x.natAbs≤9223372036854775807
    ·have hf:gL x=true:=by unfold gL;rw[decide_eq_true_iff];omega
     have hle':(x.natAbs:Int)≤9223372036854775807:=by omega
     have hw2:IntKind.i64.wrap (x.natAbs:Int)=x:=by rw[IntKind.wrap_i64];omega
     rw[hf,if_pos rfl];clear hcs hf hs hxB hk hu hr;generalize (x.natAbs:Int)=xv at *;subst hsx;go_enter Tryz.func94,Tryz.ntmps94;go_wp2;go_ret2;exact⟨rfl,(Below.refl _ _).alloc (Nat.le_refl _) _⟩
    ·have hf:gL x=false:=by unfold gL;rw[decide_eq_false_iff_not];omega
     have hle':¬(x.natAbs:Int)≤9223372036854775807:=by omega
     rw[hf];clear hcs hf hs hxB hk hu hr;generalize (x.natAbs:Int)=xv at *;subst hsx;go_enter Tryz.func94,Tryz.ntmps94;go_wp2;go_ret2;exact⟨rfl,(Below.refl _ _).alloc (Nat.le_refl _) _⟩
  ·have q1:(1:Int)<(kx:Int):=by omega
   have hf:gL x=false:=by
    unfold gL;rw[decide_eq_false_iff_not];intro h;have:=gM (n:=x.natAbs) (by omega) (by unfold BN;omega);omega
   have hg1:=fun o=>(((Below.refl w.heap.size w).alloc (Nat.le_refl _) o).cell (p:=⟨b,off+0,none⟩) hbl).trans g0;simp only[Nat.add_zero] at hg1;rw[hf];generalize List.getD (dg x.natAbs) 0 0=xv at *;clear hcs hf hk hu hr h1 h0 hp;go_enter Tryz.func94,Tryz.ntmps94;go_wp2;go_ret2;exact⟨rfl,(Below.refl _ _).alloc (Nat.le_refl _) _⟩
theorem Bx.txt {w w':World} {b:Nat} {cs:List Value} {t:TypeId} {a v:Value} (h:Bx w b cs t) (ht:TxtTo w a w' v) (hne:a.ownBlock≠some b):Bx w' b cs t:=(ht.1.block b h.lt (fun e=>hne e.symm)).trans h
def SumAt (w:World) (p Z L M:Nat) (s:Int):Prop:=
 ∃pv nv zs ys,(p<Z∧(∀g,pv.ownBlock=some g→g<Z)∧∀g,nv.ownBlock=some g→g<Z)∧Bx w p [pv,nv] 118∧OwnN w (p+1) pv zs∧OwnN w (p+1) nv ys∧InR aA zs∧InR aA ys∧Apart pv nv∧zs.length≤L∧ys.length≤L∧s=aD aA zs-aD aA ys∧aD aA zs+aD aA ys≤M
theorem SumAt.below {w w':World} {p Z L M:Nat} {s:Int} (h:SumAt w p Z L M s) (hb:Below w.heap.size w w'):SumAt w' p Z L M s:=by
 obtain⟨pv,nv,zs,ys,h0,h1,h2,h3,h⟩:=h;exact⟨pv,nv,zs,ys,h0,h1.below hb,h2.below hb,h3.below hb,h⟩
theorem SumAt.lt {w:World} {p Z L M:Nat} {s:Int} (h:SumAt w p Z L M s):p<w.heap.size:=by
 obtain⟨pv,nv,zs,ys,h0,h1,h⟩:=h;exact h1.lt
theorem SumAt.now {w:World} {p Z L M:Nat} {s:Int} (h:SumAt w p Z L M s):SumAt w p w.heap.size L M s:=by
 obtain⟨pv,nv,zs,ys,h0,h1,h2,h3,h⟩:=h;exact⟨pv,nv,zs,ys,⟨h1.lt,fun g e=>(h2.lt g e).2,fun g e=>(h3.lt g e).2⟩,h1,h2,h3,h⟩
theorem SumAt.new (w:World) (L:Nat):SumAt (w.alloc (.cells #[.slice none 0 0,.slice none 0 0] 118)) w.heap.size (w.heap.size+1) L 0 0:=
 ⟨_,_,[],[],⟨Nat.lt_succ_self _,(fun g e=>by simp[Value.ownBlock] at e),(fun g e=>by simp[Value.ownBlock] at e)⟩,Bx.new w _ _,OwnN.nil _ _,OwnN.nil _ _,InR.nil,InR.nil,fun g e=>by simp[Value.ownBlock] at e,Nat.zero_le _,Nat.zero_le _,by simp[aD],by simp[aD]⟩
theorem rW {w:World} {B p:Nat} {v:Value} {zs:List Int} (h:OwnN w B v zs) (hp:p<B):v.ownBlock≠some p:=fun e=>by
 have:=(h.lt p e).1;omega
theorem rX {w:World} {B p:Nat} {v:Value} {zs:List Int} (h:OwnN w B v zs) (hp:w.heap.size≤p):v.ownBlock≠some p:=fun e=>by
 have:=(h.lt p e).2;omega
theorem rY {w:World} {B:Nat} {v u:Value} {zs:List Int} (h:OwnN w B v zs) (hu:∀g,u.ownBlock=some g→g<B):Apart v u:=fun g e e'=>by
 have h1:=(h.lt g e).1;have h2:=hu g e';omega
def rZ (Z:Nat) (w w':World):Prop:=∀g,Z≤g→g<w.heap.size→w'.heap[g]? =w.heap[g]?
theorem vG (p Z L M:Nat) (s x y:Int) (sx:Bool) (Ax:Option Addr) (kx cx:Nat) (sy:Bool) (Ay:Option Addr) (ky cy:Nat) (w:World) (h:SumAt w p Z L M s)
  (hx:IntAt w (.agg #[.bool sx,.slice Ax kx cx]) x) (hy:IntAt w (.agg #[.bool sy,.slice Ay ky cy]) y) (hxp:∀g,(Value.slice Ax kx cx).ownBlock=some g→g<p) (hyp:∀g,(Value.slice Ay ky cy).ownBlock=some g→g<p)
  (hL:nl x.natAbs+nl y.natAbs+1≤L) (hL2:L+2≤aF) (hM:M+x.natAbs*y.natAbs<BN^L):
  Calls Tryz.prog 64 #[.pointer (some ⟨p,0,none⟩),.agg #[.bool sx,.slice Ax kx cx],.agg #[.bool sy,.slice Ay ky cy]] w
   fun e w'=>e= .returned (.tuple #[])∧SumAt w' p w'.heap.size L (M+x.natAbs*y.natAbs) (s+x*y)∧Below p w w'∧rZ Z w w':=by
 have hkx:=hx.len;have hky:=hy.len;have hsx:=hx.neg;have hsy:=hy.neg;have hxw:=hx.words;have hyw:=hy.words;have B1:Bx ((w.alloc (.cells #[.bool sx,.slice Ax kx cx] 50)).alloc (.cells #[.bool sy,.slice Ay ky cy] 50)) (w.heap.size) [.bool sx,.slice Ax kx cx] 50:=(Bx.newAt w [.bool sx,.slice Ax kx cx] 50 (w.heap.size) (by simp)).alloc (.cells #[.bool sy,.slice Ay ky cy] 50);have B2:Bx ((w.alloc (.cells #[.bool sx,.slice Ax kx cx] 50)).alloc (.cells #[.bool sy,.slice Ay ky cy] 50)) (w.heap.size+1) [.bool sy,.slice Ay ky cy] 50:=Bx.newAt (w.alloc (.cells #[.bool sx,.slice Ax kx cx] 50)) [.bool sy,.slice Ay ky cy] 50 (w.heap.size+1) (by simp);have hb:Below w.heap.size w ((w.alloc (.cells #[.bool sx,.slice Ax kx cx] 50)).alloc (.cells #[.bool sy,.slice Ay ky cy] 50)):=((Below.refl _ _).alloc (by simp) _).alloc (by simp<;>omega) _;by_cases hx0:x=0
 ·have hk:((kx:Int)==0)=true:=by rw[hkx,hx0,show(0:Int).natAbs=0 from rfl,cC];rfl
  have h':=(h.below hb).now;have hbp:=hb.mono (show p≤w.heap.size from Nat.le_of_lt h.lt);have e1:x.natAbs*y.natAbs=0:=by rw[hx0];simp
  have e2:s+x*y=s:=by rw[hx0];simp
  rw[e1,e2,Nat.add_zero];clear hkx hky hsx hsy hM hx0 e1 e2 B1 B2;go_enter Tryz.func64,Tryz.ntmps64;go_wp2;exact bodyPost_ret (v:= .tuple #[]) (by simp[results,Tryz.results64,go_sem]) rfl ⟨rfl,h',hbp,fun g _ hg=>hb.block g hg⟩
 ·have hk:((kx:Int)==0)=false:=by
   have:=eQ (show x.natAbs≠0 by omega);simp;omega
  by_cases hy0:y=0
  ·have hk2:((ky:Int)==0)=true:=by rw[hky,hy0,show(0:Int).natAbs=0 from rfl,cC];rfl
   have h':=(h.below hb).now;have hbp:=hb.mono (show p≤w.heap.size from Nat.le_of_lt h.lt);have e1:x.natAbs*y.natAbs=0:=by rw[hy0];simp
   have e2:s+x*y=s:=by rw[hy0];simp
   rw[e1,e2,Nat.add_zero];clear hkx hky hsx hsy hM hx0 hy0 e1 e2 B1 B2;go_enter Tryz.func64,Tryz.ntmps64;go_wp2;exact bodyPost_ret (v:= .tuple #[]) (by simp[results,Tryz.results64,go_sem]) rfl ⟨rfl,h',hbp,fun g _ hg=>hb.block g hg⟩
  ·have hk2:((ky:Int)==0)=false:=by
    have:=eQ (show y.natAbs≠0 by omega);simp;omega
   have hmul:=vH x y;rw[←hsx,←hsy] at hmul;have HM:=Lib.hid hmul;obtain⟨pv,nv,zs,ys,⟨hZ0,hZ1,hZ2⟩,P,hO1,hO2,hI1,hI2,hA,hl1,hl2,hs,hM1⟩:=h;have hz0:=dM aM hI1;have hy0':=dM aM hI2;have hpl:=P.lt;have hsz:(((w.alloc (.cells #[.bool sx,.slice Ax kx cx] 50)).alloc (.cells #[.bool sy,.slice Ay ky cy] 50))).heap.size=w.heap.size+2:=by simp
   have hpb:p+1≤w.heap.size:=hpl;have hMi:(M:Int)+(x.natAbs*y.natAbs:Nat)<aA^L:=by rw[←fO];exact_mod_cast hM
   have P1:=P.below hb;have hxw1:=hxw.below hb;have hyw1:=hyw.below hb;have hO1':=hO1.below hb;have hO2':=hO2.below hb;have hax1:=rY hO1 (fun g e=>Nat.lt_succ_of_lt (hxp g e));have hay1:=rY hO1 (fun g e=>Nat.lt_succ_of_lt (hyp g e));have hax2:=rY hO2 (fun g e=>Nat.lt_succ_of_lt (hxp g e));have hay2:=rY hO2 (fun g e=>Nat.lt_succ_of_lt (hyp g e));have n11:=rX hO1 (Nat.le_refl _);have n12:=rX hO1 (show w.heap.size≤w.heap.size+1 by omega);have n1p:=rW hO1 (show p<p+1 by omega);have n21:=rX hO2 (Nat.le_refl _);have n22:=rX hO2 (show w.heap.size≤w.heap.size+1 by omega);have n2p:=rW hO2 (show p<p+1 by omega);obtain⟨a1,c1,rfl⟩:=hO1.slice;obtain⟨a2,c2,rfl⟩:=hO2.slice;have hbp:=hb.mono (show p≤w.heap.size by omega);have HLV:=Lib.hid hs;by_cases hs2:(!(sx==sy))=true
   ·have hac:=fun W (h1:OwnN W (p+1) (.slice a2 ys.length c2) ys) (h2:NatAt W (.slice Ax kx cx) x.natAbs) (h3:NatAt W (.slice Ay ky cy) y.natAbs) (h4:p+1≤W.heap.size)=>DH (p+1) (.slice a2 ys.length c2) ys x.natAbs y.natAbs L (.slice Ax kx cx) (.slice Ay ky cy) W h4 h1 hI2 h2 h3 (by omega) (by omega) hax2 hay2 hl2 hL hL2 (by omega);have hres:s+x*y=aD aA zs-(aD aA ys+(x.natAbs*y.natAbs:Nat)):=by
     have:=HM.out;rw[if_pos hs2] at this;rw[this,HLV.out];omega
    have HR:=Lib.hid hres;have hMv:aD aA zs+(aD aA ys+(x.natAbs*y.natAbs:Nat))≤((M+x.natAbs*y.natAbs:Nat):Int):=by omega
    have HMV:=Lib.hid hMv;generalize x.natAbs*y.natAbs=m at *;clear hres hkx hky hmul hs hMi hM hsx hsy HM HLV hMv hz0 hy0' hM1;go_enter Tryz.func64,Tryz.ntmps64;go_wp2_with fail;generalize (w.alloc (.cells #[.bool sx,.slice Ax kx cx] 50)).alloc (.cells #[.bool sy,.slice Ay ky cy] 50)=W at *;have B1:=B1.drew;have B2:=B2.drew;have P1:=P1.drew;have b1:=B1.cell 1 rfl;have b2:=B2.cell 1 rfl;have p1:=P1.cell 1 rfl;have hbp:=hbp.drew;have hO2':OwnN W.drew (p+1) (.slice a2 ys.length c2) ys:=hO2'.below (Below.refl _ _).drew;have hO1':OwnN W.drew (p+1) (.slice a1 zs.length c1) zs:=hO1'.below (Below.refl _ _).drew;have hWs:p+1≤W.drew.heap.size:=by show p+1≤W.heap.size;omega
    have HB:=Lib.hid hb;clear hb;go_region_with (first|(go_at_call 126;(with_reducible refine(hac _ hO2' hxw1.drew hyw1.drew hWs).mono ?_);rintro e4 w4 ⟨v4,ws,rfl,hO4,hI4,hV4,hL4,t4⟩;obtain⟨a4,c4,rfl⟩:=hO4.slice;have B1:=B1.txt t4 n21;have B2:=B2.txt t4 n22;have P1:=P1.txt t4 n2p;have b1:=B1.cell 1 rfl;have b2:=B2.cell 1 rfl;have p1:=P1.cell 1 rfl;have f1:=P1.free 1));all_goals (go_wp2_with fail)
    all_goals have hA':Apart (.slice a1 zs.length c1) (.slice a4 ws.length c4):=fun g e e'=>t4.apart (fun g e1 e2=>hA g e2 e1) (fun g e=>(hO1'.lt g e).2) g e' e
    all_goals have hz1:=(hO1'.grown t4.1 (fun g e e1=>hA g e1 e)).grown (kK (w:=w4) ⟨p,1,none⟩ (.slice a4 ws.length c4)) (fun g e=>by injection e with e;subst e;exact n1p)
    all_goals have hz2:=hO4.grown (kK (w:=w4) ⟨p,1,none⟩ (.slice a4 ws.length c4)) (fun g e=>by injection e with e;subst e;exact rW hO4 (Nat.lt_succ_self _))
    all_goals have hkf:rZ Z w (w4.setCell ⟨p,1,none⟩ (.slice a4 ws.length c4)):=fun g h1 h2=>(Below.heap_setCell w4 ⟨p,1,none⟩ _ g (by show g≠p;omega)).trans ((t4.1.block g (Nat.lt_of_lt_of_le h2 HB.out.size) (fun e=>by have:=hZ2 g e.symm;omega)).trans (HB.out.block g h2))
    all_goals have P2:=P1.set 1 (.slice a4 ws.length c4)
    all_goals have hbz:=(hbp.trans ((t4.belowB hWs (fun g e=>(hO2'.lt g e).1)).mono (Nat.le_succ p))).setCell (p:=⟨p,1,none⟩) (Nat.le_refl p) (.slice a4 ws.length c4)
    all_goals exact bodyPost_end (v:= .tuple #[]) (by simp[results,Tryz.results64,go_sem]) rfl ⟨rfl,SumAt.now (Z:=w4.heap.size+p+1) ⟨_,_,zs,ws,⟨by omega,fun g e=>by have:=(hz1.lt g e).2;simp at this;omega,fun g e=>by have:=(hO4.lt g e).2;omega⟩,P2,hz1,hz2,hI1,hI4,hA',hl1,hL4,by rw[hV4];exact HR.out,by rw[hV4];exact HMV.out⟩,hbz,hkf⟩
   ·have hac:=fun W (h1:OwnN W (p+1) (.slice a1 zs.length c1) zs) (h2:NatAt W (.slice Ax kx cx) x.natAbs) (h3:NatAt W (.slice Ay ky cy) y.natAbs) (h4:p+1≤W.heap.size)=>DH (p+1) (.slice a1 zs.length c1) zs x.natAbs y.natAbs L (.slice Ax kx cx) (.slice Ay ky cy) W h4 h1 hI1 h2 h3 (by omega) (by omega) hax1 hay1 hl1 hL hL2 (by omega);have hres:s+x*y=(aD aA zs+(x.natAbs*y.natAbs:Nat))-aD aA ys:=by
     have:=HM.out;rw[if_neg hs2] at this;rw[this,HLV.out];omega
    have HR:=Lib.hid hres;have hMv:(aD aA zs+(x.natAbs*y.natAbs:Nat))+aD aA ys≤((M+x.natAbs*y.natAbs:Nat):Int):=by omega
    have HMV:=Lib.hid hMv;generalize x.natAbs*y.natAbs=m at *;have hs3:(!(sx==sy))=false:=by simpa using hs2
    clear hres hkx hky hmul hs hMi hM hsx hsy HM HLV hMv hz0 hy0' hM1 hs2;go_enter Tryz.func64,Tryz.ntmps64;go_wp2_with fail;generalize (w.alloc (.cells #[.bool sx,.slice Ax kx cx] 50)).alloc (.cells #[.bool sy,.slice Ay ky cy] 50)=W at *;have B1:=B1.drew;have B2:=B2.drew;have P1:=P1.drew;have b1:=B1.cell 1 rfl;have b2:=B2.cell 1 rfl;have p1:=P1.cell 0 rfl;have hbp:=hbp.drew;have hO2':OwnN W.drew (p+1) (.slice a2 ys.length c2) ys:=hO2'.below (Below.refl _ _).drew;have hO1':OwnN W.drew (p+1) (.slice a1 zs.length c1) zs:=hO1'.below (Below.refl _ _).drew;have hWs:p+1≤W.drew.heap.size:=by show p+1≤W.heap.size;omega
    have HB:=Lib.hid hb;clear hb;go_region_with (first|(go_at_call 126;(with_reducible refine(hac _ hO1' hxw1.drew hyw1.drew hWs).mono ?_);rintro e4 w4 ⟨v4,ws,rfl,hO4,hI4,hV4,hL4,t4⟩;obtain⟨a4,c4,rfl⟩:=hO4.slice;have B1:=B1.txt t4 n11;have B2:=B2.txt t4 n12;have P1:=P1.txt t4 n1p;have b1:=B1.cell 1 rfl;have b2:=B2.cell 1 rfl;have p1:=P1.cell 0 rfl;have f1:=P1.free 0));all_goals (go_wp2_with fail)
    all_goals have hA':Apart (.slice a4 ws.length c4) (.slice a2 ys.length c2):=t4.apart hA (fun g e=>(hO2'.lt g e).2)
    all_goals have hz1:=(hO2'.grown t4.1 hA).grown (kK (w:=w4) ⟨p,0,none⟩ (.slice a4 ws.length c4)) (fun g e=>by injection e with e;subst e;exact n2p)
    all_goals have hz2:=hO4.grown (kK (w:=w4) ⟨p,0,none⟩ (.slice a4 ws.length c4)) (fun g e=>by injection e with e;subst e;exact rW hO4 (Nat.lt_succ_self _))
    all_goals have hkf:rZ Z w (w4.setCell ⟨p,0,none⟩ (.slice a4 ws.length c4)):=fun g h1 h2=>(Below.heap_setCell w4 ⟨p,0,none⟩ _ g (by show g≠p;omega)).trans ((t4.1.block g (Nat.lt_of_lt_of_le h2 HB.out.size) (fun e=>by have:=hZ1 g e.symm;omega)).trans (HB.out.block g h2))
    all_goals have P2:=P1.set 0 (.slice a4 ws.length c4)
    all_goals have hbz:=(hbp.trans ((t4.belowB hWs (fun g e=>(hO1'.lt g e).1)).mono (Nat.le_succ p))).setCell (p:=⟨p,0,none⟩) (Nat.le_refl p) (.slice a4 ws.length c4)
    all_goals exact bodyPost_end (v:= .tuple #[]) (by simp[results,Tryz.results64,go_sem]) rfl ⟨rfl,SumAt.now (Z:=w4.heap.size+p+1) ⟨_,_,ws,ys,⟨by omega,fun g e=>by have:=(hO4.lt g e).2;omega,fun g e=>by have:=(hz1.lt g e).2;simp at this;omega⟩,P2,hz2,hz1,hI4,hI2,hA',hL4,hl2,by rw[hV4];exact HR.out,by rw[hV4];exact HMV.out⟩,hbz,hkf⟩
theorem Bx.from {w w':World} {b Z:Nat} {cs:List Value} {t:TypeId} (h:Bx w b cs t) (hk:rZ Z w w') (hz:Z≤b):Bx w' b cs t:=(hk b hz h.lt).trans h
theorem SumAt.drew {w:World} {p Z L M:Nat} {s:Int} (h:SumAt w p Z L M s):SumAt w.drew p Z L M s:=h.below (Below.refl _ _).drew
theorem JG (p Z L M:Nat) (s x y:Int) (sx:Bool) (Ax:Option Addr) (kx cx:Nat) (sy:Bool) (Ay:Option Addr) (ky cy:Nat) (w:World) (h:SumAt w p Z L M s) (hZ:Z≤w.heap.size)
  (hx:IntAt w (.agg #[.bool sx,.slice Ax kx cx]) x) (hy:IntAt w (.agg #[.bool sy,.slice Ay ky cy]) y) (hxp:∀g,(Value.slice Ax kx cx).ownBlock=some g→g<p) (hyp:∀g,(Value.slice Ay ky cy).ownBlock=some g→g<p)
  (hL:nl x.natAbs+nl y.natAbs+1≤L) (hL2:L+2≤aF) (hM:M+x.natAbs*y.natAbs<BN^L):
  Calls Tryz.prog 65 #[.pointer (some ⟨p,0,none⟩),.agg #[.bool sx,.slice Ax kx cx],.agg #[.bool sy,.slice Ay ky cy]] w
   fun e w'=>e= .returned (.tuple #[])∧SumAt w' p w'.heap.size L (M+x.natAbs*y.natAbs) (s-x*y)∧Below p w w':=by
 have hp:=h.lt;have hxl:nl x.natAbs≤17592186044416:=by unfold aF at hL2;omega
 have hadd:=fun W s4 (h1:SumAt W p Z L M s) (h2:IntAt W (.agg #[.bool s4,.slice Ax kx cx]) (-x)) (h3:IntAt W (.agg #[.bool sy,.slice Ay ky cy]) y)=>vG p Z L M s (-x) y s4 Ax kx cx sy Ay ky cy W h1 h2 h3 hxp hyp (by rw[Int.natAbs_neg];exact hL) hL2 (by rw[Int.natAbs_neg];exact hM);rw[Int.natAbs_neg,Int.neg_mul,←Int.sub_eq_add_neg] at hadd;generalize x.natAbs*y.natAbs=m at *;generalize s-x*y=r at *;have B1:Bx ((w.alloc (.cells #[.bool sx,.slice Ax kx cx] 50)).alloc (.cells #[.bool sy,.slice Ay ky cy] 50)) (w.heap.size) [.bool sx,.slice Ax kx cx] 50:=(Bx.newAt w [.bool sx,.slice Ax kx cx] 50 (w.heap.size) (by simp)).alloc (.cells #[.bool sy,.slice Ay ky cy] 50);have B2:Bx ((w.alloc (.cells #[.bool sx,.slice Ax kx cx] 50)).alloc (.cells #[.bool sy,.slice Ay ky cy] 50)) (w.heap.size+1) [.bool sy,.slice Ay ky cy] 50:=Bx.newAt (w.alloc (.cells #[.bool sx,.slice Ax kx cx] 50)) [.bool sy,.slice Ay ky cy] 50 (w.heap.size+1) (by simp);have hb:Below w.heap.size w ((w.alloc (.cells #[.bool sx,.slice Ax kx cx] 50)).alloc (.cells #[.bool sy,.slice Ay ky cy] 50)):=((Below.refl _ _).alloc (by simp) _).alloc (by simp<;>omega) _;go_enter Tryz.func65,Tryz.ntmps65;go_wp2_with fail;generalize (w.alloc (.cells #[.bool sx,.slice Ax kx cx] 50)).alloc (.cells #[.bool sy,.slice Ay ky cy] 50)=W at *;have hx:=(hx.below hb).drew;have hy:=(hy.below hb).drew;have h:=(h.below hb).drew;have hbp:=(hb.mono (Nat.le_of_lt hp)).drew;have hb:=hb.drew;have hpW:p≤W.drew.heap.size:=Nat.le_trans (Nat.le_of_lt hp) hb.size;have B1:=B1.drew;have B2:=B2.drew;replace B1_0:=B1.cell 0 rfl;replace B1_1:=B1.cell 1 rfl;replace B2_0:=B2.cell 0 rfl;replace B2_1:=B2.cell 1 rfl
 go_region_held3 (fun w'=>w'.cell? ⟨w.heap.size,0,none⟩=some (.bool sx)∧w'.cell? ⟨w.heap.size,1,none⟩=some (.slice Ax kx cx)∧w'.cell? ⟨w.heap.size+1,0,none⟩=some (.bool sy)∧w'.cell? ⟨w.heap.size+1,1,none⟩=some (.slice Ay ky cy))
  (first|(with_reducible exact⟨B1_0,B1_1,B2_0,B2_1⟩))
  (first
   |(go_at_call 26;(with_reducible refine(JO x sx Ax kx cx _ hx hxl).mono ?_);rintro e4 w4 ⟨s4,rfl,h4,hb4⟩;have B1:=B1.below hb4;have B2:=B2.below hb4;have B1_0:=B1.cell 0 rfl;have B1_1:=B1.cell 1 rfl;have B2_0:=B2.cell 0 rfl;have B2_1:=B2.cell 1 rfl;have h:=h.below hb4;have hy:=hy.below hb4;have hbp:=hbp.trans (hb4.mono hpW))
   |(go_at_call 64;(with_reducible refine(hadd _ _ h h4 hy).mono ?_);rintro e5 w5 ⟨rfl,h5,hb5,hk5⟩;have B1:=B1.from hk5 hZ;have B2:=B2.from hk5 (Nat.le_succ_of_le hZ);have B1_0:=B1.cell 0 rfl;have B1_1:=B1.cell 1 rfl;have B2_0:=B2.cell 0 rfl;have B2_1:=B2.cell 1 rfl;have hbp:=hbp.trans hb5))
 go_wp2_with fail;exact bodyPost_end (v:= .tuple #[]) (by simp[results,Tryz.results65,go_sem]) rfl ⟨rfl,h5,hbp⟩
theorem OwnN.rd {w:World} {B n c:Nat} {A:Option Addr} {zs:List Int} (h:OwnN w B (.slice A n c) zs):Rd .u64 w A zs∧Old w A∧n=zs.length∧zs.length≤c:=by
 rcases id h.2 with ⟨e,e'⟩|⟨g,cap,cur,e,_⟩
 ·have h0:zs=[]:=List.eq_nil_of_length_eq_zero e';subst h0;simp only[Value.slice.injEq] at e;obtain⟨rfl,rfl,rfl⟩:=e;exact⟨Rd.nil,Old.none,rfl,Nat.le_refl _⟩
 ·simp only[Value.slice.injEq] at e;obtain⟨rfl,rfl,rfl⟩:=e;by_cases h0:0<zs.length
  ·obtain⟨g',e,h1,h2,h3,h4,h5⟩:=h.parts h0;simp only[Option.some.injEq,Addr.mk.injEq] at e;obtain⟨rfl, -, -⟩:=e;exact⟨Rd.mk h4.lt h5,Old.mk h4.lt,rfl,h2⟩
  ·have h0':zs=[]:=List.eq_nil_of_length_eq_zero (by omega);subst h0';exact⟨Rd.nil,Old.mk (h.lt g (by simp[Value.ownBlock])).2,rfl,Nat.zero_le _⟩
theorem vF (p Z L M:Nat) (s:Int) (w:World) (h:SumAt w p Z L M s) (hL2:L+2≤aF):
  Calls Tryz.prog 66 #[.pointer (some ⟨p,0,none⟩)] w (bW w s):=by
 unfold aF at hL2;obtain⟨pv,nv,zs,ys, -,P,hO1,hO2,hI1,hI2, -,hl1,hl2,hs, -⟩:=h;obtain⟨a1,c1,rfl⟩:=hO1.slice;obtain⟨a2,c2,rfl⟩:=hO2.slice;have hz0:=dM aM hI1;have hy0:=dM aM hI2;obtain⟨m,hm⟩:∃m:Nat,aD aA zs=m:=⟨(aD aA zs).toNat,by omega⟩;obtain⟨n,hn⟩:∃n:Nat,aD aA ys=n:=⟨(aD aA ys).toNat,by omega⟩;have hlm:nl m≤zs.length:=by
  rw[←aJ,←lZ hI1 hm];exact m6 zs
 have hln:nl n≤ys.length:=by
  rw[←aJ,←lZ hI2 hn];exact m6 ys
 have hsv:s=(m:Int)-n:=by rw[hs,hm,hn]
 have HS:=Lib.hid hsv;have R:Bx (w.alloc (.cells #[.bool false,.slice none 0 0] 50)) (w.heap.size) [.bool false,.slice none 0 0] 50:=Bx.newAt w [.bool false,.slice none 0 0] 50 (w.heap.size) (by simp);have hb:Below w.heap.size w (w.alloc (.cells #[.bool false,.slice none 0 0] 50)):=(Below.refl _ _).alloc (by simp) _;obtain⟨r1,o1, -,e1⟩:=(hO1.below hb).rd;obtain⟨r2,o2, -,e2⟩:=(hO2.below hb).rd;have P:=P.below hb;have p0:=P.cell 0 rfl;have p1:=P.cell 1 rfl;have N1:=NatAt.trim r1 hI1 hm e1 o1;have N2:=NatAt.trim r2 hI2 hn e2 o2;have t1:=fun k=>dI a1 zs zs.length c1 _ rfl (r1.drewN k) e1 (by omega);have t2:=fun k=>dI a2 ys ys.length c2 _ rfl (r2.drewN k) e2 (by omega);obtain⟨A1,C1,e, -⟩:=id N1;simp only[Value.slice.injEq] at e;obtain⟨-,hk1, -⟩:=e;obtain⟨A2,C2,e, -⟩:=id N2;simp only[Value.slice.injEq] at e;obtain⟨-,hk2, -⟩:=e;rw[hk1] at N1 t1;rw[hk2] at N2 t2;clear hs hm hn hsv hz0 hy0 hk1 hk2;go_enter Tryz.func66,Tryz.ntmps66;go_wp2_with fail;generalize w.alloc (.cells #[.bool false,.slice none 0 0] 50)=W at *;go_quiet (first|(go_at_call_of 127 (Value.slice a1 zs.length c1);exact sI (t1 _))|(go_at_call_of 127 (Value.slice a2 ys.length c2);exact sI (t2 _)));go_wp2_with fail;have hb:=cH hb nq;have N1:=N1.drewN nq;have N2:=N2.drewN nq;have R:Bx (W.drewN nq) w.heap.size [.bool false,.slice none 0 0] 50:=R;clear t1 t2 P p0 p1 r1 r2 o1 o2 hO1 hO2;have hcc:=iY (m:Int) (n:Int);generalize W.drewN nq=W1 at *;refine(mA m n _ _ _ N1 N2 (by omega) (by omega)).mono ?_;rintro e2 w2 ⟨rfl,hb2⟩;replace R:=R.below hb2;replace R_0:=R.cell 0 rfl;replace R_f0:=R.free 0;replace R_1:=R.cell 1 rfl;replace R_f1:=R.free 1;replace hk:=Keep.below hb2;replace N1:=N1.keep hk;replace N2:=N2.keep hk;replace hb:=aB hb hb2;by_cases hle:n≤m
 ·have hc0:0≤bM (m:Int) (n:Int):=by omega
  have hna:s.natAbs=m-n:=by have:=HS.out;omega
  have hl:nl (m-n)≤nl m:=aX (Nat.sub_le _ _);have HN:=Lib.hid hna;have hsg:s=if false=true then -((m-n:Nat):Int) else ((m-n:Nat):Int):=by have:=HS.out;simp;omega
  have HSG:=Lib.hid hsg;generalize bM (m:Int) (n:Int)=cc at *;clear hcc hna hsg;go_wp2_with fail;refine(BK m n _ _ _ N1 N2 (by omega) hle).mono ?_;rintro e3 w3 ⟨v3,rfl,N3, -,hb3⟩;obtain⟨A3,c3,rfl, -, -, -⟩:=id N3;replace R:=R.below hb3;replace R_0:=R.cell 0 rfl;replace R_f0:=R.free 0;replace R_1:=R.cell 1 rfl;replace R_f1:=R.free 1;replace hk:=Keep.below hb3;replace hb:=aB hb hb3;generalize m-n=d at *;go_wp2_with fail;refine(sA false _ d s _ N3 (by omega) HSG.out).mono ?_;rintro e4 w4 ⟨v4,rfl,h4,hb4⟩;obtain⟨s4,A4,k4,c4,rfl⟩:=h4.form;replace R:=R.below hb4;replace R_0:=R.cell 0 rfl;replace R_f0:=R.free 0;replace R_1:=R.cell 1 rfl;replace R_f1:=R.free 1;replace hk:=Keep.below hb4;replace hb:=aB hb hb4;go_wp2_with fail;obtain⟨z0,z1, -,hbz,hk⟩:=gE (s:=s4) (u:= .slice A4 k4 c4) hb (by omega) R;have hz:=h4.keep hk;generalize (w4.setCell ⟨w.heap.size,0,none⟩ (.bool s4)).setCell ⟨w.heap.size,1,none⟩ (.slice A4 k4 c4)=W6 at *;exact bodyPost_ret (v:= .agg #[.bool s4,.slice A4 k4 c4]) (by simp[results,Tryz.results66,go_sem,z0,z1]) rfl ⟨_,rfl,hz,hbz⟩
 ·have hc0:¬0≤bM (m:Int) (n:Int):=by omega
  have hna:s.natAbs=n-m:=by have:=HS.out;omega
  have hl:nl (n-m)≤nl n:=aX (Nat.sub_le _ _);have HN:=Lib.hid hna;have hsg:s=if true=true then -((n-m:Nat):Int) else ((n-m:Nat):Int):=by have:=HS.out;simp;omega
  have HSG:=Lib.hid hsg;generalize bM (m:Int) (n:Int)=cc at *;clear hcc hna hsg;go_wp2_with fail;refine(BK n m _ _ _ N2 N1 (by omega) (by omega)).mono ?_;rintro e3 w3 ⟨v3,rfl,N3, -,hb3⟩;obtain⟨A3,c3,rfl, -, -, -⟩:=id N3;replace R:=R.below hb3;replace R_0:=R.cell 0 rfl;replace R_f0:=R.free 0;replace R_1:=R.cell 1 rfl;replace R_f1:=R.free 1;replace hk:=Keep.below hb3;replace hb:=aB hb hb3;generalize n-m=d at *;go_wp2_with fail;refine(sA true _ d s _ N3 (by omega) (HSG.out.trans (by simp))).mono ?_;rintro e4 w4 ⟨v4,rfl,h4,hb4⟩;obtain⟨s4,A4,k4,c4,rfl⟩:=h4.form;replace R:=R.below hb4;replace R_0:=R.cell 0 rfl;replace R_f0:=R.free 0;replace R_1:=R.cell 1 rfl;replace R_f1:=R.free 1;replace hk:=Keep.below hb4;replace hb:=aB hb hb4;go_wp2_with fail;obtain⟨z0,z1, -,hbz,hk⟩:=gE (s:=s4) (u:= .slice A4 k4 c4) hb (by omega) R;have hz:=h4.keep hk;generalize (w4.setCell ⟨w.heap.size,0,none⟩ (.bool s4)).setCell ⟨w.heap.size,1,none⟩ (.slice A4 k4 c4)=W6 at *;exact bodyPost_ret (v:= .agg #[.bool s4,.slice A4 k4 c4]) (by simp[results,Tryz.results66,go_sem,z0,z1]) rfl ⟨_,rfl,hz,hbz⟩
def aS (q:Rat):Int:=if q.den=1 then 0 else q.den
def RatAt (w:World) (v:Value) (q:Rat):Prop:=∃s u s' u',v= .agg #[.bool s,u,.bool s',u']∧IntAt w (.agg #[.bool s,u]) q.num∧IntAt w (.agg #[.bool s',u']) (aS q)
def eV (w:World) (q:Rat) (e:Ending) (w':World):Prop:=∃v,e= .returned v∧RatAt w' v q∧Below w.heap.size w w'
def RL (K:Nat) (q:Rat):Prop:=nl q.num.natAbs≤K∧nl q.den≤K
theorem RatAt.below {w w':World} {v:Value} {q:Rat} (h:RatAt w v q) (hb:Below w.heap.size w w'):RatAt w' v q:=by
 obtain⟨s,u,s',u',e,h1,h2⟩:=h;exact⟨s,u,s',u',e,h1.below hb,h2.below hb⟩
theorem RatAt.keep {w w':World} {v:Value} {q:Rat} (h:RatAt w v q) (hk:Keep w w'):RatAt w' v q:=by
 obtain⟨s,u,s',u',e,h1,h2⟩:=h;exact⟨s,u,s',u',e,h1.keep hk,h2.keep hk⟩
theorem RatAt.drew {w:World} {v:Value} {q:Rat} (h:RatAt w v q):RatAt w.drew v q:=h
theorem RatAt.form {w:World} {v:Value} {q:Rat} (h:RatAt w v q):∃s A k c s' A' k' c',v= .agg #[.bool s,.slice A k c,.bool s',.slice A' k' c']:=by
 obtain⟨s,u,s',u',rfl,h1,h2⟩:=h;obtain⟨_,A,k,c,e⟩:=h1.form;obtain⟨_,A',k',c',e'⟩:=h2.form;simp at e e';rw[e.2,e'.2];exact⟨_,_,_,_,_,_,_,_,rfl⟩
theorem RatAt.num {w:World} {s s':Bool} {u u':Value} {q:Rat} (h:RatAt w (.agg #[.bool s,u,.bool s',u']) q):IntAt w (.agg #[.bool s,u]) q.num:=by
 obtain⟨_,_,_,_,e,h1,h2⟩:=h;simp at e;rw[e.1,e.2.1];exact h1
theorem RatAt.den {w:World} {s s':Bool} {u u':Value} {q:Rat} (h:RatAt w (.agg #[.bool s,u,.bool s',u']) q):IntAt w (.agg #[.bool s',u']) (aS q):=by
 obtain⟨_,_,_,_,e,h1,h2⟩:=h;simp at e;rw[e.2.2.1,e.2.2.2];exact h2
theorem RatAt.of {w:World} {s s':Bool} {u u':Value} {q:Rat} {n d:Int} (h1:IntAt w (.agg #[.bool s,u]) n) (h2:IntAt w (.agg #[.bool s',u']) d) (e1:q.num=n) (e2:aS q=d):RatAt w (.agg #[.bool s,u,.bool s',u']) q:=
 ⟨s,u,s',u',rfl,by rw[e1];exact h1,by rw[e2];exact h2⟩
theorem lO (q:Rat):nl (aS q).natAbs≤nl q.den:=by
 refine aX ?_;unfold aS;split<;>omega
theorem dH {q:Rat}:aS q=0↔q.den=1:=by
 have:=q.den_nz;unfold aS;split<;>omega
theorem iS {q:Rat} (h:q.den≠1):aS q=q.den:=by unfold aS;rw[if_neg h]
theorem rV (q:Rat) (n d:Int) (vn vd:Value) (w:World) (hn:IntAt w vn n) (hd:IntAt w vd d) (hqn:q.num=n) (hqd:(q.den:Int)=d) (bx:nl d.natAbs≤17592186044416):
  Calls Tryz.prog 71 #[vn,vd] w (eV w q):=by
 obtain⟨sn,An,kn,cn,rfl⟩:=hn.form;obtain⟨sd,Ad,kd,cd,rfl⟩:=hd.form;obtain⟨W,eW,hb,B1,B2,R⟩:=dK w [.bool sn,.slice An kn cn] 50 [.bool sd,.slice Ad kd cd] 50 [.bool false,.slice none 0 0,.bool false,.slice none 0 0] 54;have cM:=aa B1.g2 (aa B2.g2 R.g4);go_enter Tryz.func71,Tryz.ntmps71;go_wp2_with fail;(try rw[eW]);clear eW;have hn:=hn.below hb;have hd:=hd.below hb;refine(jL d _ _ hd (by omega)).mono ?_;rintro e3 w3 ⟨rfl,hb3⟩;replace B1:=B1.below hb3;replace B2:=B2.below hb3;replace R:=R.below hb3;replace cM:=aa B1.k2 (aa B2.k2 R.g4);replace hk:=Keep.below hb3;replace hn:=hn.keep hk;replace hd:=hd.keep hk;replace hb:=aB hb hb3;by_cases h1:d=1
 ·have hdd:decide (d=1)=true:=by simpa using h1
  rw[hdd];go_wp2_with fail;obtain⟨W6,eW6,R,hb,hk,ff⟩:=R.put4 hb (by omega) (.bool sn) (.slice An kn cn) (.bool false) (.slice none 0 0) rfl rfl;replace B1:=ff B1 (by omega);replace B2:=ff B2 (by omega);replace hn:=hn.keep hk;rw[eW6];clear eW6;replace cM:=aa B1.k2 (aa B2.k2 R.k4);exact bodyPost_ret (v:= .agg #[.bool sn,.slice An kn cn,.bool false,.slice none 0 0]) (by simp[results,Tryz.results71,go_sem,R.k4]) rfl ⟨_,rfl,RatAt.of hn (IntAt.zero _) hqn (dH.2 (by omega)),hb⟩
 ·have hdd:decide (d=1)=false:=by simpa using h1
  rw[hdd];go_wp2_with fail;obtain⟨W6,eW6,R,hb,hk,ff⟩:=R.put4 hb (by omega) (.bool sn) (.slice An kn cn) (.bool sd) (.slice Ad kd cd) rfl rfl;replace B1:=ff B1 (by omega);replace B2:=ff B2 (by omega);replace hn:=hn.keep hk;replace hd:=hd.keep hk;rw[eW6];clear eW6;replace cM:=aa B1.k2 (aa B2.k2 R.k4);exact bodyPost_ret (v:= .agg #[.bool sn,.slice An kn cn,.bool sd,.slice Ad kd cd]) (by simp[results,Tryz.results71,go_sem,R.k4]) rfl ⟨_,rfl,RatAt.of hn hd hqn ((iS (by omega)).trans hqd),hb⟩
theorem BC {n d:Int} (hd:0<d):((n:Rat)/d).num=n.tdiv (Nat.gcd n.natAbs d.natAbs:Nat)∧((((n:Rat)/d).den:Nat):Int)=d.tdiv (Nat.gcd n.natAbs d.natAbs:Nat):=by
 have hg:d.gcd n=Nat.gcd n.natAbs d.natAbs:=by rw[Int.gcd_comm];rfl
 have h1:((Nat.gcd n.natAbs d.natAbs:Nat):Int)∣n:=Int.ofNat_dvd_left.2 (Nat.gcd_dvd_left _ _);have h2:((Nat.gcd n.natAbs d.natAbs:Nat):Int)∣d:=Int.ofNat_dvd_left.2 (Nat.gcd_dvd_right _ _);rw[←Rat.divInt_eq_div,Rat.num_divInt,Rat.den_divInt,if_neg (by omega),hg,Int.sign_eq_one_of_pos hd,Int.one_mul,Int.tdiv_eq_ediv_of_dvd h1,Int.tdiv_eq_ediv_of_dvd h2];refine⟨rfl,?_⟩;rw[Int.natCast_ediv];congr 1;omega
theorem BD (n d:Int):((-n:Int):Rat)/((-d:Int):Rat)=(n:Rat)/d:=by
 rw[Rat.intCast_neg,Rat.intCast_neg];grind
theorem BE (d:Int):((0:Int):Rat)/(d:Rat)=0:=by
 rw[Rat.intCast_zero];grind
section
variable {α:Type} {k:Nat}
theorem mS {rows:List (List α)} (hk:∀r∈rows,r.length=k) {i j:Nat} {r:List α} (hi:rows[i]? =some r) (hj:j<k):rows.flatten[i*k+j]? =r[j]? :=by
 induction rows generalizing i with
 |nil=>simp at hi
 |cons a rows ih=>
  have ha:a.length=k:=hk a (List.mem_cons_self ..);cases i with
  |zero=>
   simp at hi;subst hi;rw[List.flatten_cons,Nat.zero_mul,Nat.zero_add,List.getElem?_append_left (by omega)]
  |succ i=>
   rw[List.flatten_cons,List.getElem?_append_right (by rw[ha,Nat.succ_mul];omega),ha,show(i+1)*k+j-k=i*k+j by rw[Nat.succ_mul];omega];exact ih (fun r h=>hk r (List.mem_cons_of_mem _ h)) (by simpa using hi)
theorem JF {rows:List (List α)} (hk:∀r∈rows,r.length=k) {i j:Nat} {r:List α} (hi:rows[i]? =some r) (hj:j<k) (v:α):rows.flatten.set (i*k+j) v=(rows.set i (r.set j v)).flatten:=by
 induction rows generalizing i with
 |nil=>simp at hi
 |cons a rows ih=>
  have ha:a.length=k:=hk a (List.mem_cons_self ..);cases i with
  |zero=>
   simp at hi;subst hi;rw[List.flatten_cons,Nat.zero_mul,Nat.zero_add,List.set_append_left _ _ (by omega),List.set_cons_zero,List.flatten_cons]
  |succ i=>
   rw[List.flatten_cons,List.set_append_right _ _ (by rw[ha,Nat.succ_mul];omega),ha,show(i+1)*k+j-k=i*k+j by rw[Nat.succ_mul];omega,ih (fun r h=>hk r (List.mem_cons_of_mem _ h)) (by simpa using hi),List.set_cons_succ,List.flatten_cons]
theorem gK {rows:List (List α)} (hk:∀r∈rows,r.length=k):rows.flatten.length=rows.length*k:=by
 induction rows with
 |nil=>simp
 |cons a rows ih=>rw[List.flatten_cons,List.length_append,ih (fun r h=>hk r (List.mem_cons_of_mem _ h)),hk a (List.mem_cons_self ..),List.length_cons,Nat.succ_mul];omega
end
def Rw (w:World) (b k:Nat) (rows:List (List Value)) (t:TypeId):Prop:=Bx w b rows.flatten t∧∀r∈rows,r.length=k
section
variable {w w':World} {b k:Nat} {rows:List (List Value)} {t:TypeId}
theorem Rw.lt (h:Rw w b k rows t):b<w.heap.size:=h.1.lt
theorem Rw.cell (h:Rw w b k rows t) {i:Nat} (j:Nat) {r:List Value} {v:Value} (hi:rows[i]? =some r) (hv:r[j]? =some v):w.cell? ⟨b,i*k+j,none⟩=some v:=by
 have hl:=h.2 r (List.mem_of_getElem? hi);have hj:j<k:=by rw[←hl];exact(List.getElem?_eq_some_iff.1 hv).1
 exact h.1.cell _ ((mS h.2 hi hj).trans hv)
theorem Rw.free (h:Rw w b k rows t) (j:Nat):w.frozen? ⟨b,j,none⟩=false:=h.1.free j
theorem Rw.below (h:Rw w b k rows t) (hb:Below w.heap.size w w'):Rw w' b k rows t:=⟨h.1.below hb,h.2⟩
theorem Rw.alloc (h:Rw w b k rows t) (o:Obj):Rw (w.alloc o) b k rows t:=⟨h.1.alloc o,h.2⟩
theorem Rw.drew (h:Rw w b k rows t):Rw w.drew b k rows t:=h
theorem Rw.far (h:Rw w b k rows t) {g:Nat} (o:Nat) (v:Value) (hne:g≠b):Rw (w.setCell ⟨g,o,none⟩ v) b k rows t:=⟨h.1.far o v hne,h.2⟩
theorem Rw.set (h:Rw w b k rows t) {i:Nat} (j:Nat) {r:List Value} (hi:rows[i]? =some r) (hj:j<k) (v:Value):Rw (w.setCell ⟨b,i*k+j,none⟩ v) b k (rows.set i (r.set j v)) t:=by
 refine⟨?_,fun r' hr'=> ?_⟩
 ·rw[←JF h.2 hi hj];exact h.1.set _ _
 ·rcases List.mem_or_eq_of_mem_set hr' with h'|rfl
  ·exact h.2 _ h'
  ·rw[List.length_set];exact h.2 _ (List.mem_of_getElem? hi)
end
def IRow (w:World) (rows:List (List Value)) (ns:List Int):Prop:=∀(i:Nat) (n:Int),ns[i]? =some n→∃s A l c,rows[i]? =some [Value.bool s,Value.slice A l c]∧IntAt w (.agg #[.bool s,.slice A l c]) n
theorem IRow.keep {w w':World} {rows:List (List Value)} {ns:List Int} (h:IRow w rows ns) (hk:Keep w w'):IRow w' rows ns:=fun i n hi=>by
 obtain⟨s,A,l,c,h1,h2⟩:=h i n hi;exact⟨s,A,l,c,h1,h2.keep hk⟩
theorem IRow.take {w:World} {rows:List (List Value)} {ns:List Int} (h:IRow w rows ns) (m:Nat):IRow w rows (ns.take m):=fun i n hi=>by
 rw[List.getElem?_take] at hi;split at hi
 ·exact h i n hi
 ·cases hi
theorem IRow.set {w:World} {rows:List (List Value)} {ns:List Int} (h:IRow w rows ns) (hl:ns.length≤rows.length) {i:Nat} {s:Bool} {A:Option Addr} {l c:Nat} {n:Int} (hn:IntAt w (.agg #[.bool s,.slice A l c]) n):IRow w (rows.set i [.bool s,.slice A l c]) (ns.set i n):=fun j m hj=>by
 by_cases e:i=j
 ·subst e;have hlt:i<ns.length:=by
   have:=(List.getElem?_eq_some_iff.1 hj).1;rw[List.length_set] at this;exact this
  rw[List.getElem?_set_self hlt] at hj;injection hj with hj;subst hj;exact⟨s,A,l,c,by rw[List.getElem?_set_self (by omega)],hn⟩
 ·rw[List.getElem?_set_ne e] at hj;obtain⟨s',A',l',c',h1,h2⟩:=h j m hj;exact⟨s',A',l',c',by rw[List.getElem?_set_ne e];exact h1,h2⟩
def WholeAt (w:World) (v:Value) (ns:List Int):Prop:=∃A c,v= .slice A ns.length c∧ns.length≤c∧(ns=[]∨∃b rows,A=some ⟨b,0,none⟩∧Rw w b 2 rows 50∧IRow w rows ns)
theorem WholeAt.below {w w':World} {v:Value} {ns:List Int} (h:WholeAt w v ns) (hb:Below w.heap.size w w'):WholeAt w' v ns:=by
 obtain⟨A,c,hv,hc,h⟩:=h;refine⟨A,c,hv,hc,?_⟩;rcases h with h|⟨b,rows,e,hr,hi⟩
 ·exact .inl h
 ·exact .inr ⟨b,rows,e,hr.below hb,hi.keep (Keep.below hb)⟩
theorem WholeAt.drew {w:World} {v:Value} {ns:List Int} (h:WholeAt w v ns):WholeAt w.drew v ns:=h.below (Below.refl _ _).drew
theorem WholeAt.nil (w:World) (A:Option Addr) (c:Nat):WholeAt w (.slice A 0 c) []:=⟨A,c,rfl,Nat.zero_le _,.inl rfl⟩
theorem WholeAt.cut {w:World} {A:Option Addr} {c l:Nat} {ns:List Int} (h:WholeAt w (.slice A l c) ns) (m:Nat) (hm:m≤ns.length):WholeAt w (.slice A m c) (ns.take m):=by
 obtain⟨A',c',e,hc,h⟩:=h;simp only[Value.slice.injEq] at e;obtain⟨rfl,rfl,rfl⟩:=e;refine⟨A,c,by rw[List.length_take,Nat.min_eq_left hm],by rw[List.length_take];omega,?_⟩;rcases h with h|⟨b,rows,e,hr,hi⟩
 ·exact .inl (by rw[h];simp)
 ·exact .inr ⟨b,rows,e,hr,hi.take m⟩
theorem WholeAt.at_ {w:World} {A:Option Addr} {c l:Nat} {ns:List Int} (h:WholeAt w (.slice A l c) ns) {i:Nat} {n:Int} (hi:ns[i]? =some n):
  ∃b s B m d,A=some ⟨b,0,none⟩∧b<w.heap.size∧w.cell? ⟨b,i*2,none⟩=some (.bool s)∧w.cell? ⟨b,i*2+1,none⟩=some (.slice B m d)∧IntAt w (.agg #[.bool s,.slice B m d]) n:=by
 obtain⟨A',c',e,hc,h⟩:=h;simp only[Value.slice.injEq] at e;obtain⟨rfl,rfl,rfl⟩:=e;rcases h with h|⟨b,rows,e,hr,hir⟩
 ·rw[h] at hi;simp at hi
 ·obtain⟨s,B,m,d,h1,h2⟩:=hir i n hi;exact⟨b,s,B,m,d,e,hr.lt,hr.cell 0 h1 rfl,hr.cell 1 h1 rfl,h2⟩
theorem WholeAt.form {w:World} {v:Value} {ns:List Int} (h:WholeAt w v ns):∃A c,v= .slice A ns.length c∧ns.length≤c:=by
 obtain⟨A,c,hv,hc,_⟩:=h;exact⟨A,c,hv,hc⟩
def OwnW (w:World) (b:Nat) (ns:List Int):Prop:=∃rows,Rw w b 2 rows 50∧ns.length≤rows.length∧IRow w rows ns
section
variable {w w':World} {b:Nat} {ns:List Int}
theorem OwnW.lt (h:OwnW w b ns):b<w.heap.size:=by
 obtain⟨rows,hr,_⟩:=h;exact hr.lt
theorem OwnW.below (h:OwnW w b ns) (hb:Below w.heap.size w w'):OwnW w' b ns:=by
 obtain⟨rows,hr,hl,hi⟩:=h;exact⟨rows,hr.below hb,hl,hi.keep (Keep.below hb)⟩
theorem OwnW.alloc (h:OwnW w b ns) (o:Obj):OwnW (w.alloc o) b ns:=h.below ((Below.refl _ _).alloc (Nat.le_refl _) _)
theorem OwnW.drew (h:OwnW w b ns):OwnW w.drew b ns:=h.below (Below.refl _ _).drew
theorem OwnW.far (h:OwnW w b ns) {g o:Nat} {c:Value} (hp:w.cell? ⟨g,o,none⟩=some c) (hc:NoInt c) (v:Value) (hne:g≠b):OwnW (w.setCell ⟨g,o,none⟩ v) b ns:=by
 obtain⟨rows,hr,hl,hi⟩:=h;exact⟨rows,hr.far o v hne,hl,hi.keep (Keep.put hp hc v)⟩
theorem OwnW.whole (h:OwnW w b ns) (c:Nat) (hc:ns.length≤c):WholeAt w (.slice (some ⟨b,0,none⟩) ns.length c) ns:=by
 obtain⟨rows,hr,hl,hi⟩:=h;exact⟨_,c,rfl,hc,.inr ⟨b,rows,rfl,hr,hi⟩⟩
theorem OwnW.take (h:OwnW w b ns) (m:Nat):OwnW w b (ns.take m):=by
 obtain⟨rows,hr,hl,hi⟩:=h;exact⟨rows,hr,by rw[List.length_take];omega,hi.take m⟩
theorem OwnW.at_ (h:OwnW w b ns) {i:Nat} {n:Int} (hi:ns[i]? =some n):∃s B m d,w.cell? ⟨b,i*2,none⟩=some (.bool s)∧w.cell? ⟨b,i*2+1,none⟩=some (.slice B m d)∧IntAt w (.agg #[.bool s,.slice B m d]) n:=by
 obtain⟨rows,hr,hl,hir⟩:=h;obtain⟨s,B,m,d,h1,h2⟩:=hir i n hi;exact⟨s,B,m,d,hr.cell 0 h1 rfl,hr.cell 1 h1 rfl,h2⟩
theorem OwnW.free (h:OwnW w b ns) (j:Nat):w.frozen? ⟨b,j,none⟩=false:=by
 obtain⟨rows,hr,_⟩:=h;exact hr.free j
theorem OwnW.put (h:OwnW w b ns) {i:Nat} (hi:i<ns.length) {s:Bool} {A:Option Addr} {l c:Nat} {n:Int} (hn:IntAt w (.agg #[.bool s,.slice A l c]) n):
  let W:=(w.setCell ⟨b,i*2,none⟩ (.bool s)).setCell ⟨b,i*2+1,none⟩ (.slice A l c)
  OwnW W b (ns.set i n)∧Keep w W∧W.heap.size=w.heap.size:=by
 obtain⟨rows,hr,hl,hir⟩:=h;obtain⟨s',A',l',c',h1,h2⟩:=hir i ns[i] (List.getElem?_eq_getElem hi);have r1:=hr.set 0 h1 (by omega) (.bool s);have hlt:i<rows.length:=by omega
 have g1:(rows.set i ([Value.bool s',.slice A' l' c'].set 0 (.bool s)))[i]? =some [.bool s,.slice A' l' c']:=by rw[List.getElem?_set_self hlt];rfl
 have r2:=r1.set 1 g1 (by omega) (.slice A l c)
 have hk:Keep w ((w.setCell ⟨b,i*2,none⟩ (.bool s)).setCell ⟨b,i*2+1,none⟩ (.slice A l c)):=
  (Keep.put (hr.cell 0 h1 rfl) (NoInt.bool _) _).trans (Keep.put (r1.cell 1 g1 rfl) (NoInt.slice _ _ _) _)
 refine⟨⟨_,r2,by simpa using hl,?_⟩,hk,by simp⟩;have:=(hir.keep hk).set hl (i:=i) (hn.keep hk);simpa using this
end
theorem BB (z:Array Value) (n:Nat) (hz:0<z.size):(madeCells z (n*z.size)).toList=(List.replicate n z.toList).flatten:=by
 have hk:∀r∈List.replicate n z.toList,r.length=z.size:=fun r h=>by rw[List.eq_of_mem_replicate h];simp
 have hl:(List.replicate n z.toList).flatten.length=n*z.size:=by rw[gK hk,List.length_replicate]
 refine List.ext_getElem? (fun j=> ?_);by_cases hj:j<n*z.size
 ·have hd:j/z.size<n:=by rw[Nat.div_lt_iff_lt_mul hz];exact hj
  have hm:j%z.size<z.size:=Nat.mod_lt _ hz;have e:j=j/z.size*z.size+j%z.size:=by rw[Nat.mul_comm];exact(Nat.div_add_mod j z.size).symm
  have h1:=mS (rows:=List.replicate n z.toList) hk (i:=j/z.size) (j:=j%z.size) (r:=z.toList) (by rw[List.getElem?_replicate,if_pos hd]) hm;rw[←e] at h1;rw[h1];unfold madeCells;rw[Array.getElem?_toList];simp[hj,hm]
 ·rw[List.getElem?_eq_none (by simp[size_madeCells];omega),List.getElem?_eq_none (by omega)]
section
variable {P:Program} {w:World} {ops:Array Oper} {rest:List Oper} {o:Oper} {a:Act} {Q:Exit→Act→World→Prop}
theorem eZ (hg:o.guard=none) {l c:Operand} {t:TypeId} (hop:o.op=Op.makeSlice t l c) (e:TypeId) (z:Value) (size bytes:Nat)
  (h1:P.underlying t=some (.slice e)) (hi:(P.info? e).map (fun i=>(i.zero,i.size,i.bytes))=some (some z,size,bytes)) (hzs:z.cells.size=size) (hz0:0<size) (n:Nat) {kl kc:IntKind} {L C:Int}
  (hl:a.eval l= .int kl L) (hc:a.eval c= .int kc C) (hL:L=(n:Int)) (hC:C=(n:Int)) (hb:bytes*n≤281474976710656) (hm:n≤9223372036854775807)
  (hK:∀w',w.heap.size<w'.heap.size→Rw w' w.heap.size size (List.replicate n z.cells.toList) e→Below w.heap.size w w'→
   wpList P ops Q rest (a.put o.dst (.slice (some ⟨w.heap.size,0,none⟩) n n)) w'):wpList P ops Q (o :: rest) a w:=by
 obtain⟨i,hi0,hz,hs,hby⟩:=info_parts hi;subst hL hC hby;have hbb:(i.bytes:Int)*(n:Int)≤281474976710656:=by
  have h:((i.bytes*n:Nat):Int)≤281474976710656:=by omega
  rwa [Int.natCast_mul] at h
 have hr:=run_make (P:=P) w t e i z h1 hi0 hz kl kc n n (by omega) (by omega) hbb (by omega);simp only[Int.toNat_natCast] at hr;refine wpList_plain hg fun K hK'=> ?_;unfold Oper.wp;simp[execOp,hop,hl,hc,hr,Result.andThen];refine hK' _ _ (hK _ ?_ ?_ ?_)
 ·simp
 ·refine⟨?_,fun r hr=>by rw[List.eq_of_mem_replicate hr];simpa using hzs⟩;have:=heap_alloc_new w (.cells (madeCells z.cells (n*i.size)) e);unfold Bx;rw[this,hs,←hzs,←BB z.cells n (by omega)]
 ·exact(Below.refl _ _).alloc (Nat.le_refl _) _
end
theorem jZ:(Tryz.prog.info? 50).map (fun i=>(i.zero,i.size,i.bytes))=some (some (.agg #[.bool false,.slice none 0 0]),2,32):=by kernel_rfl
theorem rU:(Tryz.prog.info? 54).map (fun i=>(i.zero,i.size,i.bytes))=some (some (.agg #[.bool false,.slice none 0 0,.bool false,.slice none 0 0]),4,64):=by kernel_rfl
theorem OwnW.made {w:World} {b n:Nat} (h:Rw w b 2 (List.replicate n [.bool false,.slice none 0 0]) 50):OwnW w b (List.replicate n 0):=
 ⟨_,h,by simp,fun i m hi=>⟨false,none,0,0,by
  have:=(List.getElem?_eq_some_iff.1 hi).1;rw[List.length_replicate] at this;rw[List.getElem?_replicate,if_pos this],by
  have:=List.getElem?_replicate (n:=n) (a:=(0:Int)) (i:=i);rw[hi] at this;split at this
  ·injection this with this;subst this;exact IntAt.zero w
  ·cases this⟩⟩
theorem oJ (ns:List Int) (A:Option Addr) (c:Nat) (w:World) (hv:WholeAt w (.slice A ns.length c) ns) (K:Nat) (hK:∀n∈ns,nl n.natAbs≤K) (hK2:K≤17592186044416) (hl:ns.length≤1099511627776):
  Calls Tryz.prog 67 #[.slice A ns.length c] w fun e w'=>e= .returned (.slice A (aH aG ns).length c)∧WholeAt w' (.slice A (aH aG ns).length c) (aH aG ns)∧Below w.heap.size w w':=by
 have hc:ns.length≤c:=by
  obtain⟨A',c',e,h,_⟩:=hv;simp only[Value.slice.injEq] at e;omega
 go_enter Tryz.func67,Tryz.ntmps67;go_wp2_with fail;go_loopg [3] ns.length (fun k i wr=>∃m,Hid (m=k)∧i= .int .i64 m∧m≤ns.length∧Hid (aH aG (ns.take m)=aH aG ns)∧Below w.heap.size w wr)
 case atStart=>exact⟨ns.length,rfl,rfl,Nat.le_refl _,by unfold Hid;rw[List.take_length],Below.refl _ _⟩
 case round=>
  obtain⟨m,HM,rfl,hm,HT,hb⟩:=hrel;have hm0:(0:Int)≤(m:Int):=by omega
  cases gk with
  |zero=>
   obtain rfl:m=0:=HM.out;have HTT:Hid (aH aG ns=[]):=HT.out.symm;go_wp2_with fail;go_ret;rw[HTT.out];exact⟨rfl,WholeAt.nil _ _ _,hb⟩
  |succ k=>
   have hmk:m=k+1:=HM.out;subst hmk;obtain⟨n,hn⟩:∃n,ns[k]? =some n:=⟨_,List.getElem?_eq_getElem (by omega)⟩;obtain⟨b,s,B,l,d,rfl,hbl,g0,g1,hi⟩:=(hv.below hb).at_ hn;have hkn:=hK n (List.mem_of_getElem? hn);have hw:=(hv.below hb).cut (k+1) hm;have hdn:=tH aG ns hn;have hst:=tI aG ns hn;have HDN:=Lib.hid hdn;have HST:=Lib.hid hst;clear hdn hst;have hm1:((k:Int)+1)≤(ns.length:Int):=by omega
   have hm2:k+1≤c:=by omega
   go_wp2_with fail;refine(cU n _ _ hi (by omega)).mono ?_;rintro e1 w1 ⟨rfl,hb1⟩;have hb':=aB hb hb1;by_cases h0:n=0
   ·have hd:decide (n=0)=true:=by simpa using h0
    have hz:aG n=true:=hd;rw[hd];clear hd h0;go_wp2_with fail;go_roundg k
    case rel=>exact⟨k,rfl,by go_num,by omega,by unfold Hid;rw[←HDN.out hz];exact HT.out,hb'⟩
    case measure=>omega
   ·have hd:decide (n=0)=false:=by simpa using h0
    have hz:aG n=false:=hd;rw[hd];have ht:aH aG ns=ns.take (k+1):=by rw[←HT.out];exact HST.out hz
    have HTT:=Lib.hid ht;clear hd h0 ht;go_wp2_with fail;go_ret;rw[HTT.out,List.length_take,Nat.min_eq_left hm];exact⟨rfl,hw.below hb1,hb'⟩
theorem kC {α:Type} {ys:List α} {z y:α} {j k:Nat} (hy:ys[j]? =some y):(ys.take j++List.replicate (k+1) z).set j y=ys.take (j+1)++List.replicate k z:=by
 have hj:j<ys.length:=(List.getElem?_eq_some_iff.1 hy).1;have hl:(ys.take j).length=j:=by rw[List.length_take];omega
 rw[List.set_append_right _ _ (by omega),hl,Nat.sub_self,List.replicate_succ,List.set_cons_zero,List.take_add_one,hy,Option.toList_some,List.append_assoc];rfl
theorem kF {α:Type} {ys:List α} {z:α} {j k:Nat} (h:j+k=ys.length):(ys.take j++List.replicate k z).length=ys.length:=by
 rw[List.length_append,List.length_take,List.length_replicate];omega
theorem pR (ns:List Int) (x:Int) (v vx:Value) (w:World) (hv:WholeAt w v ns) (hx:IntAt w vx x) (K:Nat) (hK:∀n∈ns,nl n.natAbs≤K) (hKx:nl x.natAbs≤K) (hK2:2*K≤17592186044416) (hl:ns.length≤1099511627776):
  Calls Tryz.prog 133 #[v,vx] w fun e w'=>∃v',e= .returned v'∧WholeAt w' v' (aH aG (ns.map (·*x)))∧Below w.heap.size w w':=by
 obtain⟨A,c,rfl,hc⟩:=hv.form;obtain⟨sx,Ax,kx,cx,rfl⟩:=hx.form;have B1:Bx (w.alloc (.cells #[.bool sx,.slice Ax kx cx] 50)) (w.heap.size) [.bool sx,.slice Ax kx cx] 50:=Bx.newAt w [.bool sx,.slice Ax kx cx] 50 (w.heap.size) (by simp);have hb:Below w.heap.size w (w.alloc (.cells #[.bool sx,.slice Ax kx cx] 50)):=(Below.refl _ _).alloc (by simp) _;go_enter Tryz.func133,Tryz.ntmps133;go_wp2_with (at_make;refine eZ rfl rfl 50 _ 2 32 Tryz.underlying47 jZ rfl (by decide) ns.length rfl rfl rfl rfl (by omega) (by omega) ?_;intro w1 hz1 hr1 hb1);have R0:OwnW w1 (w.heap.size+1) (List.replicate ns.length 0):=by
  have:=OwnW.made hr1;rw[World.size_alloc] at this;exact this
 replace B1:=B1.below hb1;replace hb:=aB hb hb1;clear hr1 hz1 hb1;have hzl:(ns.map (·*x)).length=ns.length:=List.length_map _;have HZL:=Lib.hid hzl;clear hzl;go_loopg [13] ns.length (fun k i wr=>∃j,Hid (j+k=ns.length)∧i= .int .i64 j∧OwnW wr (w.heap.size+1) ((ns.map (·*x)).take j++List.replicate k 0)∧Bx wr w.heap.size [.bool sx,.slice Ax kx cx] 50∧Below w.heap.size w wr)
 case atStart=>exact⟨0,by unfold Hid;omega,rfl,by simpa using R0,B1,hb⟩
 case round=>
  clear R0 B1 hb;obtain⟨j,HJ,rfl,R,B1,hb⟩:=hrel;have hj0:(0:Int)≤(j:Int):=by omega
  cases gk with
  |zero=>
   have hj:j=ns.length:=HJ.out;subst hj;rw[List.replicate_zero,List.append_nil,List.take_of_length_le (by rw[HZL.out];exact Nat.le_refl _)] at R;have hw:=R.whole ns.length (by rw[HZL.out];exact Nat.le_refl _);rw[HZL.out] at hw;have hw2:WholeAt wr (.slice (some ⟨w.heap.size+1,0,none⟩) (ns.map (·*x)).length ns.length) (ns.map (·*x)):=by rw[HZL.out];exact hw
   have htr:=oJ (ns.map (·*x)) _ _ wr hw2 (2*K) (fun n hn=>by
    obtain⟨m,hm,rfl⟩:=List.mem_map.1 hn;rw[Int.natAbs_mul];have:=cJ m.natAbs x.natAbs;have:=hK m hm;omega) hK2 (by rw[HZL.out];exact hl)
   rw[HZL.out] at htr;clear HZL hK hw hw2;go_wp2_with fail;refine htr.mono ?_;rintro e2 w2 ⟨rfl,h2,hb2⟩;go_wp2;go_ret;exact⟨_,rfl,h2,aB hb hb2⟩
  |succ k=>
   obtain⟨n,hn⟩:∃n,ns[j]? =some n:=⟨_,List.getElem?_eq_getElem (by have:=HJ.out;omega)⟩;obtain⟨b,s,B,l,d,rfl,hbl,g0,g1,hi⟩:=(hv.below hb).at_ hn;have hkn:=hK n (List.mem_of_getElem? hn);have hj1:(j:Int)<(ns.length:Int):=by have:=HJ.out;omega
   have hym:(ns.map (·*x))[j]? =some (n*x):=by rw[List.getElem?_map,hn];rfl
   have hfl:=kF (ys:=ns.map (·*x)) (z:=(0:Int)) (j:=j) (k:=k+1) (by rw[HZL.out];exact HJ.out);have hfs:=kC (z:=(0:Int)) (k:=k) hym;have HFL:=Lib.hid hfl;have HFS:=Lib.hid hfs;have HN:=Lib.hid hn;clear hym hfl hfs hn;replace hx:=hx.below hb;have B1_c10:∀o0:Obj,(wr.alloc o0).cell? ⟨w.heap.size,0,none⟩=some (.bool sx):=fun o0=>(B1.alloc o0).cell 0 rfl;have B1_g10:∀o0:Obj,(wr.alloc o0).frozen? ⟨w.heap.size,0,none⟩=false:=fun o0=>(B1.alloc o0).free 0;have B1_c11:∀o0:Obj,(wr.alloc o0).cell? ⟨w.heap.size,1,none⟩=some (.slice Ax kx cx):=fun o0=>(B1.alloc o0).cell 1 rfl;have B1_g11:∀o0:Obj,(wr.alloc o0).frozen? ⟨w.heap.size,1,none⟩=false:=fun o0=>(B1.alloc o0).free 1;go_wp2_with fail;replace R:=R.alloc (.cells #[.bool s,.slice B l d] 50);replace hi:=hi.keep (Keep.alloc wr (.cells #[.bool s,.slice B l d] 50));replace hx:=hx.keep (Keep.alloc wr (.cells #[.bool s,.slice B l d] 50));have B1_ltwr:=B1.lt;have hszwr:=hb.size;replace B1:=B1.alloc (.cells #[.bool s,.slice B l d] 50);have X:=Bx.newAt wr [.bool s,.slice B l d] 50 (wr.heap.size) (by simp);replace hb:=hb.alloc hb.size (.cells #[.bool s,.slice B l d] 50);replace hk:=Keep.alloc wr (.cells #[.bool s,.slice B l d] 50);generalize wr.alloc (.cells #[.bool s,.slice B l d] 50)=W1 at *;replace B1_0:=B1.cell 0 rfl;replace B1_1:=B1.cell 1 rfl;replace X_0:=X.cell 0 rfl;replace X_1:=X.cell 1 rfl;clear B1_c10 B1_c11 B1_g10 B1_g11 g0 g1 B1_ltwr hszwr;refine(f8 n x _ _ _ hi hx (by omega)).mono ?_;rintro e2 w2 ⟨v2,rfl,h2,hb2⟩;obtain⟨s2,A2,k2,c2,rfl⟩:=h2.form;replace R:=R.below hb2;replace B1:=B1.below hb2;replace hb:=aB hb hb2;obtain⟨s',B',l',d',q0,q1, -⟩:=R.at_ (i:=j) (List.getElem?_eq_getElem (by rw[HFL.out,HZL.out];have:=HJ.out;omega));have f0:=R.free (j*2);have f1:=R.free (j*2+1);go_wp2_with fail;have hp:=R.put (i:=j) (by rw[HFL.out,HZL.out];have:=HJ.out;omega) h2;rw[HFS.out] at hp;have B1':=(B1.far (j*2) (.bool s2) (show w.heap.size+1≠w.heap.size by omega)).far (j*2+1) (.slice A2 k2 c2) (show w.heap.size+1≠w.heap.size by omega);have hb':=(hb.setCell (p:=⟨w.heap.size+1,j*2,none⟩) (by simp) (.bool s2)).setCell (p:=⟨w.heap.size+1,j*2+1,none⟩) (by simp) (.slice A2 k2 c2);go_roundg k
   case rel=>exact⟨j+1,by have:=HJ.out;unfold Hid;omega,by go_num,hp.1,B1',hb'⟩
   case measure=>omega
theorem IntAt.blk {w:World} {s:Bool} {A:Option Addr} {k c:Nat} {n:Int} (h:IntAt w (.agg #[.bool s,.slice A k c]) n):∀g,(Value.slice A k c).ownBlock=some g→g<w.heap.size:=fun _ e=>h.words.block e
theorem SumAt.mono {w:World} {p Z L M M':Nat} {s:Int} (h:SumAt w p Z L M s) (hM:M≤M'):SumAt w p Z L M' s:=by
 obtain⟨pv,nv,zs,ys,h0,h1,h2,h3,h4,h5,h6,h7,h8,h9,h10⟩:=h;exact⟨pv,nv,zs,ys,h0,h1,h2,h3,h4,h5,h6,h7,h8,h9,by omega⟩
theorem WholeAt.get {w:World} {A:Option Addr} {c l:Nat} {ns:List Int} (h:WholeAt w (.slice A l c) ns) {i:Nat} (hi:i<ns.length):
  ∃b s B m d,A=some ⟨b,0,none⟩∧b<w.heap.size∧w.cell? ⟨b,i*2,none⟩=some (.bool s)∧w.cell? ⟨b,i*2+1,none⟩=some (.slice B m d)∧IntAt w (.agg #[.bool s,.slice B m d]) (cf ns i)∧cf ns i∈ns:=by
 obtain⟨b,s,B,m,d,h1,h2,h3,h4,h5⟩:=h.at_ (List.getElem?_eq_getElem hi);exact⟨b,s,B,m,d,h1,h2,h3,h4,by rw[dO hi];exact h5,by rw[dO hi];exact List.getElem_mem hi⟩
theorem mR (ns:List Int) (v:Value) (w:World) (hv:WholeAt w v ns) (hne:ns≠[]) (hl:ns.length≤1099511627776):
  Calls Tryz.prog 61 #[v] w (bW w (cf ns (ns.length-1))):=by
 obtain⟨A,c,rfl,hc⟩:=hv.form;have h0:ns.length≠0:=fun e=>hne (List.eq_nil_of_length_eq_zero e);obtain⟨m,hm⟩:∃m,ns.length=m+1:=⟨ns.length-1,by omega⟩;have q0:((ns.length:Int)==0)=false:=by simp;omega
 obtain⟨b,s,B,l,d,rfl,hbl,g0,g1,hi, -⟩:=hv.get (i:=ns.length-1) (by omega);have e1:(ns.length:Int)-1=(m:Int):=by omega
 have e2:ns.length-1=m:=by omega
 rw[e2] at g0 g1 hi⊢;have i0:(0:Int)≤(m:Int):=by omega
 have i1:(m:Int)<(ns.length:Int):=by omega
 have k0:=fun o=>(((Below.refl w.heap.size w).alloc (Nat.le_refl _) o).cell (p:=⟨b,m*2,none⟩) hbl).trans g0;have k1:=fun o=>(((Below.refl w.heap.size w).alloc (Nat.le_refl _) o).cell (p:=⟨b,m*2+1,none⟩) hbl).trans g1;clear h0 hne e2 hm;go_enter Tryz.func61,Tryz.ntmps61;go_wp2_with fail;have R:=Bx.new w [.bool s,.slice B l d] 50;have R_0:=R.cell 0 rfl;have R_1:=R.cell 1 rfl;exact bodyPost_ret (v:= .agg #[.bool s,.slice B l d]) (by simp[results,Tryz.results61,go_sem]) rfl ⟨_,rfl,hi.keep (Keep.alloc _ _),(Below.refl _ _).alloc (Nat.le_refl _) _⟩
theorem uY {α:Type} (k:Nat):∀(n:Nat) (l:List α),l.length=n*k→∃rows:List (List α),rows.length=n∧rows.flatten=l∧∀r∈rows,r.length=k
 |0,l,h=>⟨[],rfl,by rw[Nat.zero_mul] at h;exact(List.eq_nil_of_length_eq_zero h).symm,fun _ h=>by cases h⟩
 |n+1,l,h=>by
  rw[Nat.succ_mul] at h;obtain⟨rows,h1,h2,h3⟩:=uY k n (l.drop k) (by rw[List.length_drop];omega);refine⟨l.take k :: rows,by rw[List.length_cons,h1],by rw[List.flatten_cons,h2,List.take_append_drop],fun r hr=> ?_⟩;rcases List.mem_cons.1 hr with rfl|hr
  ·rw[List.length_take];omega
  ·exact h3 r hr
theorem BA {w:World} {base n:Nat} {v:Value} {rows:List (List Value)} {ns:List Int} (h:w.ownsRow base 50 2 v n rows.flatten) (hk:∀r∈rows,r.length=2) (hn:rows.length=n) (hns:ns.length=n) (h0:0<n) (hi:IRow w rows ns):
  ∃g cap,v= .slice (some ⟨g,0,none⟩) n cap∧base≤g∧g<w.heap.size∧n≤cap∧cap≤maxLen∧OwnW w g ns:=by
 rcases h.2 with ⟨_,h'⟩|⟨g,cap,cur,rfl,hb,hg,hc,hm,hs,ht⟩
 ·omega
 ·obtain⟨rows',h1,h2,h3⟩:=uY 2 cap cur.toList (by simpa using hs);refine⟨g,cap,rfl,hb,(Array.getElem?_eq_some_iff.1 hg).1,hc,hm,rows',⟨?_,h3⟩,by omega,fun i m hm'=> ?_⟩
  ·unfold Bx;rw[hg,h2]
  ·obtain⟨s,A,l,c,e1,e2⟩:=hi i m hm';refine⟨s,A,l,c,?_,e2⟩;have hin:i<n:=by rw[←hns];exact(List.getElem?_eq_some_iff.1 hm').1
   obtain⟨r',hr'⟩:∃r',rows'[i]? =some r':=⟨_,List.getElem?_eq_getElem (by omega)⟩;rw[hr'];congr 1;have hl':=h3 r' (List.mem_of_getElem? hr');refine List.ext_getElem? (fun j=> ?_);by_cases hj:j<2
   ·rw[←mS h3 hr' hj,←mS hk e1 hj,h2,←ht,List.getElem?_take,if_pos (by omega)]
   ·rw[List.getElem?_eq_none (by omega),List.getElem?_eq_none (by simp;omega)]
theorem WholeAt.rows {w:World} {A:Option Addr} {c l:Nat} {ns:List Int} (h:WholeAt w (.slice A l c) ns) (h0:ns≠[]):
  ∃rows:List (List Value),rows.length=l∧l=ns.length∧(∀r∈rows,r.length=2)∧Src w A rows.flatten∧IRow w rows ns∧∀u∈rows.flatten,u.oneCell'=true:=by
 obtain⟨A',c',e,hc,h⟩:=h;simp only[Value.slice.injEq] at e;obtain⟨rfl,rfl,rfl⟩:=e;obtain⟨b,rows,rfl,hr,hi⟩:=h.resolve_left h0;have hlen:ns.length≤rows.length:=by
  rcases Nat.lt_or_ge rows.length ns.length with h1|h1
  ·obtain⟨s,A,l,c,e1,_⟩:=hi rows.length _ (List.getElem?_eq_getElem h1);simp at e1
  ·exact h1
 have hk:∀r∈rows.take ns.length,r.length=2:=fun r h=>hr.2 r (List.mem_of_mem_take h);have hget:∀i r,(rows.take ns.length)[i]? =some r→i<ns.length∧rows[i]? =some r:=fun i r h=>by
  rw[List.getElem?_take] at h;split at h
  ·exact⟨by assumption,h⟩
  ·cases h
 refine⟨rows.take ns.length,by rw[List.length_take];omega,rfl,hk,.inr ⟨b,0,rfl,fun j u hu=> ?_⟩,fun i n hn=> ?_,fun u hu=> ?_⟩
 ·have hj:j<ns.length*2:=by
   have:=(List.getElem?_eq_some_iff.1 hu).1;rw[gK hk,List.length_take] at this;omega
  obtain⟨r,hri⟩:∃r,(rows.take ns.length)[j/2]? =some r:=⟨_,List.getElem?_eq_getElem (by rw[List.length_take];omega)⟩;have h1:=mS hk hri (show j%2<2 by omega);have e:j/2*2+j%2=j:=by omega
  rw[e,hu] at h1;have:=hr.cell (j%2) (hget _ _ hri).2 h1.symm;rw[e] at this;rw[Nat.zero_add];exact this
 ·obtain⟨s,A,l,c,e1,e2⟩:=hi i n hn;exact⟨s,A,l,c,by rw[List.getElem?_take,if_pos (List.getElem?_eq_some_iff.1 hn).1];exact e1,e2⟩
 ·obtain⟨r,hr1,hr2⟩:=List.mem_flatten.1 hu;obtain⟨i,hi1⟩:=List.mem_iff_getElem?.1 hr1;obtain⟨h1,h2⟩:=hget i r hi1;obtain⟨s,A,l,c,e1,_⟩:=hi i _ (List.getElem?_eq_getElem h1);rw[h2] at e1;injection e1 with e1;subst e1;simp at hr2;rcases hr2 with rfl|rfl<;>rfl
theorem rR {α:Type} {ys xs:List α} {y:α} {j:Nat} (hy:ys[j]? =some y) (hl:xs.length=ys.length):(ys.take j++xs.drop j).set j y=ys.take (j+1)++xs.drop (j+1):=by
 have hj:j<ys.length:=(List.getElem?_eq_some_iff.1 hy).1;have hjl:(ys.take j).length=j:=by rw[List.length_take];omega
 rw[List.set_append_right _ _ (by omega),hjl,Nat.sub_self,List.take_add_one,hy,Option.toList_some,List.append_assoc,List.drop_eq_getElem_cons (show j<xs.length by omega),List.set_cons_zero];rfl
theorem rS {α:Type} {ys xs:List α} {j:Nat} (h:j<xs.length) (hl:xs.length=ys.length):(ys.take j++xs.drop j)[j]? =xs[j]? :=by
 have hjl:(ys.take j).length=j:=by rw[List.length_take];omega
 rw[List.getElem?_append_right (by omega),hjl,Nat.sub_self,List.getElem?_drop,Nat.add_zero]
theorem rT {α:Type} {ys xs:List α} {j:Nat} (hl:xs.length=ys.length):(ys.take j++xs.drop j).length=xs.length:=by
 rw[List.length_append,List.length_take,List.length_drop];omega
def gT (r v:List Int) (top lead:Int) (k m:Nat):List Int:=(List.range m).map (fun i=>cf r i*lead-(if k≤i then top*cf v (i-k) else 0))
def jY (q:List Int) (top lead:Int) (k:Nat):List Int:=(q.map (·*lead)).set k (cf q k*lead+top)
theorem J8 (q:List Int) (top lead:Int) {k:Nat} (hk:k<q.length) (j:Nat):cf (jY q top lead k) j=cf q j*lead+(if j=k then top else 0):=by
 unfold jY cf;rw[List.getD_eq_getElem?_getD,List.getD_eq_getElem?_getD];by_cases e:j=k
 ·subst e;rw[if_pos rfl,List.getElem?_set_self (by simpa using hk)];simp
 ·rw[if_neg e,List.getElem?_set_ne (fun h=>e h.symm),List.getElem?_map,Int.add_zero];cases hh:q[j]? <;>simp[hh]
theorem J9 (r v:List Int) (top lead:Int) (k m i:Nat):cf (gT r v top lead k m) i=if i<m then cf r i*lead-(if k≤i then top*cf v (i-k) else 0) else 0:=oX _ m i
theorem JA {m lead:Int} {w q v r:List Int} {k:Nat} (hv:v≠[]) (hr:r.length=v.length+k) (hq:k<q.length) (hl:lead=cf v (v.length-1))
  (hid:∀i,m*cf w i=conv (cf q) (cf v) i+cf r i) (i:Nat):
  (m*lead)*cf w i=conv (cf (jY q (cf r (v.length-1+k)) lead k)) (cf v) i+cf (gT r v (cf r (v.length-1+k)) lead k (v.length-1+k)) i:=by
 have h0:0<v.length:=by
  cases v with
  |nil=>exact absurd rfl hv
  |cons a l=>simp
 have h:=NY m (cf w) (cf q) (cf v) (cf r) v.length k h0 (fun i hi=>aP hi) (fun i hi=>aP (by omega)) hid i;rw[J9,hl,h];congr 1;exact cO (fun j=>(J8 q _ _ hq j).symm) (fun _=>rfl) i
theorem JB {m:Int} {w q v r:List Int} {n:Nat} (h0:cf r n=0) (hr:r.length=n+1) (hid:∀i,m*cf w i=conv (cf q) (cf v) i+cf r i) (i:Nat):
  m*cf w i=conv (cf q) (cf v) i+cf (r.take n) i:=by
 rw[hid i];congr 1;unfold cf at *;rw[List.getD_eq_getElem?_getD,List.getD_eq_getElem?_getD,List.getElem?_take];by_cases h:i<n
 ·rw[if_pos h]
 ·rw[if_neg h];by_cases e:i=n
  ·subst e;rw[List.getD_eq_getElem?_getD] at h0;exact h0
  ·rw[List.getElem?_eq_none (by omega)]
def IntBx (w:World) (b:Nat) (n:Int):Prop:=∃s A k c,Bx w b [.bool s,.slice A k c] 50∧IntAt w (.agg #[.bool s,.slice A k c]) n
def jJ (g:Nat) (w W:World):Prop:=Keep w W∧(∀b,b≠g→W.heap[b]? =w.heap[b]?)∧W.heap.size=w.heap.size∧W.os=w.os∧W.tape=w.tape∧W.output=w.output
theorem IntBx.below {w W:World} {b:Nat} {n:Int} (h:IntBx w b n) (hb:Below w.heap.size w W):IntBx W b n:=by
 obtain⟨s,A,k,c,h1,h2⟩:=h;exact⟨s,A,k,c,h1.below hb,h2.below hb⟩
theorem IntBx.step {w W:World} {b g:Nat} {n:Int} (h:IntBx w b n) (hs:jJ g w W) (hne:b≠g):IntBx W b n:=by
 obtain⟨s,A,k,c,h1,h2⟩:=h;exact⟨s,A,k,c,(hs.2.1 b hne).trans h1,h2.keep hs.1⟩
theorem IntBx.lt {w:World} {b:Nat} {n:Int} (h:IntBx w b n):b<w.heap.size:=by
 obtain⟨s,A,k,c,h1,h2⟩:=h;exact h1.lt
theorem OwnW.step {w W:World} {b g:Nat} {ns:List Int} (h:OwnW w b ns) (hs:jJ g w W) (hne:b≠g):OwnW W b ns:=by
 obtain⟨rows,hr,hl,hi⟩:=h;exact⟨rows,⟨(hs.2.1 b hne).trans hr.1,hr.2⟩,hl,hi.keep hs.1⟩
theorem dE {B g:Nat} {a w W:World} (h:Below B a w) (hs:jJ g w W) (hg:B≤g):Below B a W:=
 ⟨hs.2.2.2.1.trans h.os,hs.2.2.2.2.1.trans h.tape,hs.2.2.2.2.2.trans h.output,by rw[hs.2.2.1];exact h.size,fun k hk=>(hs.2.1 k (by omega)).trans (h.block k hk)⟩
theorem OwnW.stored {w:World} {b:Nat} {ns:List Int} (h:OwnW w b ns) {i:Nat} (hi:i<ns.length) {s:Bool} {A:Option Addr} {l c:Nat} {n:Int} (hn:IntAt w (.agg #[.bool s,.slice A l c]) n):
  let W:=(w.setCell ⟨b,i*2,none⟩ (.bool s)).setCell ⟨b,i*2+1,none⟩ (.slice A l c)
  OwnW W b (ns.set i n)∧jJ b w W:=by
 obtain⟨h1,h2,h3⟩:=h.put hi hn;refine⟨h1,h2,fun g hg=> ?_,h3,rfl,rfl,rfl⟩;rw[Below.heap_setCell _ ⟨b,i*2+1,none⟩ _ g hg,Below.heap_setCell _ ⟨b,i*2,none⟩ _ g hg]
theorem IntBx.stored {w:World} {b:Nat} {m n:Int} (h:IntBx w b m) {s:Bool} {A:Option Addr} {l c:Nat} (hn:IntAt w (.agg #[.bool s,.slice A l c]) n):
  let W:=(w.setCell ⟨b,0,none⟩ (.bool s)).setCell ⟨b,1,none⟩ (.slice A l c)
  IntBx W b n∧jJ b w W:=by
 obtain⟨s',A',k',c',h1,h2⟩:=h;obtain⟨-, -,k1, -,k2⟩:=gE (w:=w) (B:=0) (s:=s) (u:= .slice A l c) ⟨rfl,rfl,rfl,Nat.le_refl _,fun k hk=>rfl⟩ (Nat.zero_le _) h1;refine⟨⟨s,A,l,c,k1,hn.keep k2⟩,k2,fun g hg=> ?_,by simp,rfl,rfl,rfl⟩;rw[Below.heap_setCell _ ⟨b,1,none⟩ _ g hg,Below.heap_setCell _ ⟨b,0,none⟩ _ g hg]
theorem WholeAt.step {w W:World} {g l c:Nat} {A:Option Addr} {ns:List Int} (h:WholeAt w (.slice A l c) ns) (hs:jJ g w W) (hne:∀b,A=some ⟨b,0,none⟩→b≠g):WholeAt W (.slice A l c) ns:=by
 obtain⟨A',c',e,hc,h⟩:=h;refine⟨A',c',e,hc,?_⟩;rcases h with h|⟨b,rows,e',hr,hi⟩
 ·exact .inl h
 ·simp only[Value.slice.injEq] at e;exact .inr ⟨b,rows,e',⟨(hs.2.1 b (hne b (e.1.trans e'))).trans hr.1,hr.2⟩,hi.keep hs.1⟩
structure PQ (w wr:World) (b7 b8 b9 g:Nat) (m lead:Int) (q r:List Int):Prop where
 R:Bx wr w.heap.size [.bool false,.slice none 0 0] 50
 M:IntBx wr b7 m
 L:IntBx wr b8 lead
 Q:OwnW wr b9 q
 S:OwnW wr g r
 hb:Below w.heap.size w wr
 o1:w.heap.size<b7
 o2:b7<b8
 o3:b8<b9
 o4:b9<g
section
variable {w wr W:World} {b7 b8 b9 g:Nat} {m lead:Int} {q r:List Int}
theorem PQ.below (h:PQ w wr b7 b8 b9 g m lead q r) (hb:Below wr.heap.size wr W):PQ w W b7 b8 b9 g m lead q r:=
 ⟨h.R.below hb,h.M.below hb,h.L.below hb,h.Q.below hb,h.S.below hb,h.hb.trans (hb.mono h.hb.size),h.o1,h.o2,h.o3,h.o4⟩
theorem PQ.alloc (h:PQ w wr b7 b8 b9 g m lead q r) (o:Obj):PQ w (wr.alloc o) b7 b8 b9 g m lead q r:=h.below ((Below.refl _ _).alloc (Nat.le_refl _) o)
theorem PQ.drew (h:PQ w wr b7 b8 b9 g m lead q r):PQ w wr.drew b7 b8 b9 g m lead q r:=h.below (Below.refl _ _).drew
theorem PQ.cut (h:PQ w wr b7 b8 b9 g m lead q r) (n:Nat):PQ w wr b7 b8 b9 g m lead q (r.take n):=⟨h.R,h.M,h.L,h.Q,h.S.take n,h.hb,h.o1,h.o2,h.o3,h.o4⟩
theorem PQ.setQ (h:PQ w wr b7 b8 b9 g m lead q r) {i:Nat} (hi:i<q.length) {s:Bool} {A:Option Addr} {l c:Nat} {n:Int} (hn:IntAt wr (.agg #[.bool s,.slice A l c]) n):
  PQ w ((wr.setCell ⟨b9,i*2,none⟩ (.bool s)).setCell ⟨b9,i*2+1,none⟩ (.slice A l c)) b7 b8 b9 g m lead (q.set i n) r:=by
 obtain⟨h1,hs⟩:=h.Q.stored hi hn;have:=h.o1;have:=h.o2;have:=h.o3;have:=h.o4
 exact⟨(hs.2.1 _ (by omega)).trans h.R,h.M.step hs (by omega),h.L.step hs (by omega),h1,h.S.step hs (by omega),dE h.hb hs (by omega),h.o1,h.o2,h.o3,h.o4⟩
theorem PQ.setS (h:PQ w wr b7 b8 b9 g m lead q r) {i:Nat} (hi:i<r.length) {s:Bool} {A:Option Addr} {l c:Nat} {n:Int} (hn:IntAt wr (.agg #[.bool s,.slice A l c]) n):
  PQ w ((wr.setCell ⟨g,i*2,none⟩ (.bool s)).setCell ⟨g,i*2+1,none⟩ (.slice A l c)) b7 b8 b9 g m lead q (r.set i n):=by
 obtain⟨h1,hs⟩:=h.S.stored hi hn;have:=h.o1;have:=h.o2;have:=h.o3;have:=h.o4
 exact⟨(hs.2.1 _ (by omega)).trans h.R,h.M.step hs (by omega),h.L.step hs (by omega),h.Q.step hs (by omega),h1,dE h.hb hs (by omega),h.o1,h.o2,h.o3,h.o4⟩
theorem PQ.setM (h:PQ w wr b7 b8 b9 g m lead q r) {s:Bool} {A:Option Addr} {l c:Nat} {n:Int} (hn:IntAt wr (.agg #[.bool s,.slice A l c]) n):
  PQ w ((wr.setCell ⟨b7,0,none⟩ (.bool s)).setCell ⟨b7,1,none⟩ (.slice A l c)) b7 b8 b9 g n lead q r:=by
 obtain⟨h1,hs⟩:=h.M.stored hn;have:=h.o1;have:=h.o2;have:=h.o3;have:=h.o4
 exact⟨(hs.2.1 _ (by omega)).trans h.R,h1,h.L.step hs (by omega),h.Q.step hs (by omega),h.S.step hs (by omega),dE h.hb hs (by omega),h.o1,h.o2,h.o3,h.o4⟩
end
theorem tZ {α:Type} {p:α→Bool} {l:List α} {k:Nat} (h:∀c∈l.take k,p c=true) (hk:l.length≤k∨∃c,l[k]? =some c∧p c=false):l.takeWhile p=l.take k∧l.dropWhile p=l.drop k:=by
 induction l generalizing k with
 |nil=>simp
 |cons a l ih=>
  cases k with
  |zero=>
   rcases hk with hk|⟨c,hc,hp⟩
   ·simp at hk
   ·simp at hc;subst hc;simp[hp]
  |succ k=>
   have ha:p a=true:=h a (by simp)
   obtain⟨h1,h2⟩:=ih (k:=k) (fun c hc=>h c (by simp[hc])) (by
    rcases hk with hk|⟨c,hc,hp⟩
    ·left;simpa using hk
    ·right;exact⟨c,by simpa using hc,hp⟩)
   simp[ha,h1,h2]
theorem pC {t:ByteArray} {l:List UInt8} (h:t.data.toList=l):t=⟨l.toArray⟩:=by
 subst h;cases t;rfl
theorem PW (s:ByteArray) (w:World) (hl:s.size≤1099511627776):
  Calls Tryz.prog 105 #[.string s] w fun e w'=>∃t u m,e= .returned (.tuple #[.string t,.string u])∧t.data.toList=s.data.toList.takeWhile aQ∧u.data.toList=s.data.toList.dropWhile aQ∧w'=w.drewN m:=by
 have hls:s.data.toList.length=s.size:=by simp
 go_enter Tryz.func105,Tryz.ntmps105;go_wp2_with fail;go_loop [4] (fun i=>∃k:Nat,k≤s.size∧i= .int .i64 k∧∀c∈s.data.toList.take k,aQ c=true) (fun i=>s.size-(intOf i).toNat)
 case atStart=>exact⟨0,by omega,rfl,by simp⟩
 case round=>
  obtain⟨k,hk,rfl,hall⟩:=hrel;have hk0:(k:Int)≤(s.size:Int):=by omega
  have h0:(0:Int)≤(k:Int):=by omega
  by_cases hlt:k<s.size
  ·have hlt':(k:Int)<(s.size:Int):=by omega
   have hg:s.data.toList[k]? =some s[k]:=by rw[List.getElem?_eq_getElem (by simpa using hlt)];rfl
   have HG:=Lib.hid hg;clear hg;by_cases hd:aQ s[k]=true
   ·obtain⟨d1,d2⟩:48≤s[k].toNat∧s[k].toNat≤57:=by simpa [aQ] using hd
    have e1:(48:Int)≤(s[k].toNat:Int):=by omega
    have e2:(s[k].toNat:Int)≤57:=by omega
    have HD:=Lib.hid hd;clear hd;go_wp2_with fail;go_round
    case rel=>
     refine⟨k+1,by omega,by simp,fun c hc=> ?_⟩;rw[List.take_add_one,HG.out] at hc;rcases List.mem_append.1 hc with hc|hc
     ·exact hall c hc
     ·simp at hc;subst hc;exact HD.out
    case measure=>simp[intOf];omega
   ·have hfin:=tZ (p:=aQ) (l:=s.data.toList) hall (.inr ⟨_,HG.out,by simpa using hd⟩);by_cases d1:48≤s[k].toNat
    ·have d2:¬s[k].toNat≤57:=fun h=>hd (by simp[aQ,d1,h]);have e1:(48:Int)≤(s[k].toNat:Int):=by omega
     have e2:¬(s[k].toNat:Int)≤57:=by omega
     clear hd;go_wp2_with fail;go_quiet (fail);go_wp2;go_ret2;exact⟨_,_,_,rfl,by rw[hfin.1,iZ,List.drop_zero],by rw[hfin.2,iZ,List.take_of_length_le (by omega)],rfl⟩
    ·have e1:¬(48:Int)≤(s[k].toNat:Int):=by omega
     clear hd;go_wp2_with fail;go_quiet (fail);go_wp2;go_ret2;exact⟨_,_,_,rfl,by rw[hfin.1,iZ,List.drop_zero],by rw[hfin.2,iZ,List.take_of_length_le (by omega)],rfl⟩
  ·obtain rfl:k=s.size:=by omega
   have hfin:=tZ (p:=aQ) (l:=s.data.toList) hall (.inl (by omega));go_wp2_with fail;go_quiet (fail);go_wp2;go_ret2;exact⟨_,_,_,rfl,by rw[hfin.1,List.take_of_length_le (by omega)],by rw[hfin.2,List.drop_of_length_le (by omega)];rfl,rfl⟩
theorem EW (l:List UInt8) (w:World) (hl:l.length≤1099511627776):
  Calls Tryz.prog 105 #[.string ⟨l.toArray⟩] w fun e w'=>e= .returned (.tuple #[.string ⟨(l.takeWhile aQ).toArray⟩,.string ⟨(l.dropWhile aQ).toArray⟩])∧∃m,w'=w.drewN m:=by
 refine(PW ⟨l.toArray⟩ w (by simpa [ByteArray.size] using hl)).mono ?_;rintro e w' ⟨t,u,m,rfl,h1,h2,h3⟩;rw[pC h1,pC h2];exact⟨rfl,m,h3⟩
theorem EV {w w':World} (h:∃m,w'=w.drewN m):Below w.heap.size w w':=by
 obtain⟨m,rfl⟩:=h;exact cH (Below.refl _ _) m
theorem PT (l:List UInt8):Lib.hasPrefix l [45]=(l.head?==some 45)∧Lib.trimPrefix l [45]=if (l.head?==some 45)=true then l.tail else l:=by
 have h:Lib.hasPrefix l [45]=(l.head?==some 45):=by
  unfold Lib.hasPrefix;cases l with
  |nil=>rfl
  |cons a m=>
   show([45]:List UInt8).isPrefixOf (a :: m)=(some a==some 45)
   rw[List.isPrefixOf];simp only[List.isPrefixOf,Bool.and_true];by_cases e:a=45
   ·subst e;rfl
   ·have e1:((45:UInt8)==a)=false:=by simpa using fun h=>e h.symm
    have e2:(some a==some (45:UInt8))=false:=by simpa using e
    rw[e1,e2]
 refine⟨h,?_⟩;unfold Lib.trimPrefix;rw[h];simp
def mK (neg:Bool) (n t:List UInt8):Option (Bool×List UInt8×List UInt8):=
 if n=[48] then (if neg=false∧t=[] then some (neg,n,[]) else none)
 else if n=[]∨n.head?=some 48 then none
 else if t=[] then some (neg,n,[])
 else if t.head?≠some 47 then none
 else if t.tail.dropWhile aQ=[]∧t.tail.takeWhile aQ≠[]∧(t.tail.takeWhile aQ).head?≠some 48∧t.tail.takeWhile aQ≠[49] then some (neg,n,t.tail.takeWhile aQ) else none
theorem PU (l:List UInt8):dN l=mK (l.head?==some 45) ((if (l.head?==some 45)=true then l.tail else l).takeWhile aQ) ((if (l.head?==some 45)=true then l.tail else l).dropWhile aQ):=rfl
theorem PV (l:List UInt8) (w:World) (hl:l.length≤1099511627776):
  Calls Tryz.prog 43 #[.string ⟨l.toArray⟩] w fun e w'=>∃neg n d ok,e= .returned (.tuple #[.agg #[.bool neg,.string ⟨n.toArray⟩,.string ⟨d.toArray⟩],.bool ok])∧(ok=true→dN l=some (neg,n,d))∧(ok=false→dN l=none)∧Below w.heap.size w w':=by
 have hcp:=fun W=>Tryz.strings_CutPrefix ⟨l.toArray⟩ ⟨#[45]⟩ W;obtain⟨p1,p2⟩:=PT l;have HS:=Lib.hid (PU l);have hrl:(if (l.head?==some 45)=true then l.tail else l).length≤l.length:=by split<;>simp
 simp only[p1,p2] at hcp;generalize (l.head?==some 45)=ng at *;generalize (if ng=true then l.tail else l)=r at *;have hcd:=fun W=>EW r W (by omega);obtain⟨W,eW,hb,R,F⟩:=j6 w [.bool false,.string ⟨#[]⟩,.string ⟨#[]⟩] 95 [.bool false,.string ⟨#[]⟩,.string ⟨#[]⟩] 95;have cM:=aa R.g3 F.g3;go_enter Tryz.func43,Tryz.ntmps43;go_wp2_with fail;(try rw[eW]);clear eW;refine(hcp _).mono ?_;rintro e1 w1 ⟨rfl,rfl⟩;clear hcp p1 p2;replace cM:=aa R.g3 F.g3;go_wp2_with fail;obtain⟨w2,ew2,F,hb,hk,ff⟩:=F.put1 hb (by omega) 0 (.bool ng) rfl;replace R:=ff R (by omega);rw[ew2];clear ew2;replace cM:=aa R.g3 F.g3;refine(hcd _).mono ?_;rintro e3 w3 ⟨rfl,hw3⟩;have hb3:=EV hw3;clear hw3 hcd;replace R:=R.below hb3;replace F:=F.below hb3;replace cM:=aa R.g3 F.g3;replace hb:=aB hb hb3;have htl:(r.dropWhile aQ).length≤r.length:=by
  have:=congrArg List.length (List.takeWhile_append_dropWhile (p:=aQ) (l:=r));rw[List.length_append] at this;omega
 generalize r.takeWhile aQ=n at *;generalize r.dropWhile aQ=t at *;by_cases h48:n=[48]
 ·have q1:(n==[48])=true:=by rw[h48];rfl
  cases ng with
  |true=>
   have hs:dN l=none:=by rw[HS.out,mK,if_pos h48,if_neg (by simp)]
   have HN:=Lib.hid hs;clear HS hs h48;go_wp2_with fail;obtain⟨U0,eU0,F,hb,hk,ff⟩:=F.put1 hb (by omega) 1 (.string ⟨n.toArray⟩) rfl;replace R:=ff R (by omega);obtain⟨W6,eW6,R,hb,hk,ff⟩:=R.put3 hb (by omega) (.bool true) (.string ⟨n.toArray⟩) (.string ⟨#[]⟩) rfl rfl;replace F:=ff F (by omega);rw[eU0,eW6];clear eU0 eW6;replace cM:=aa R.k3 F.k3;exact bodyPost_ret (v:= .tuple #[.agg #[.bool true,.string ⟨n.toArray⟩,.string ⟨#[]⟩],.bool false]) (by simp[results,Tryz.results43,go_sem,R.k3]) rfl ⟨_,_,_,_,rfl,(fun h=>by cases h),(fun _=>HN.out),hb⟩
  |false=>
   by_cases ht:t=[]
   ·have hs:dN l=some (false,n,[]):=by rw[HS.out,mK,if_pos h48,if_pos ⟨rfl,ht⟩]
    have HN:=Lib.hid hs;have q2:(t==[])=true:=by rw[ht];rfl
    clear HS hs h48 ht;go_wp2_with fail;obtain⟨U0,eU0,F,hb,hk,ff⟩:=F.put1 hb (by omega) 1 (.string ⟨n.toArray⟩) rfl;replace R:=ff R (by omega);obtain⟨W6,eW6,R,hb,hk,ff⟩:=R.put3 hb (by omega) (.bool false) (.string ⟨n.toArray⟩) (.string ⟨#[]⟩) rfl rfl;replace F:=ff F (by omega);rw[eU0,eW6];clear eU0 eW6;replace cM:=aa R.k3 F.k3;exact bodyPost_ret (v:= .tuple #[.agg #[.bool false,.string ⟨n.toArray⟩,.string ⟨#[]⟩],.bool true]) (by simp[results,Tryz.results43,go_sem,R.k3]) rfl ⟨_,_,_,_,rfl,(fun _=>HN.out),(fun h=>by cases h),hb⟩
   ·have hs:dN l=none:=by rw[HS.out,mK,if_pos h48,if_neg (fun h=>ht h.2)]
    have HN:=Lib.hid hs;have q2:(t==[])=false:=by simpa using ht
    clear HS hs h48 ht;go_wp2_with fail;obtain⟨U0,eU0,F,hb,hk,ff⟩:=F.put1 hb (by omega) 1 (.string ⟨n.toArray⟩) rfl;replace R:=ff R (by omega);obtain⟨W6,eW6,R,hb,hk,ff⟩:=R.put3 hb (by omega) (.bool false) (.string ⟨n.toArray⟩) (.string ⟨#[]⟩) rfl rfl;replace F:=ff F (by omega);rw[eU0,eW6];clear eU0 eW6;replace cM:=aa R.k3 F.k3;exact bodyPost_ret (v:= .tuple #[.agg #[.bool false,.string ⟨n.toArray⟩,.string ⟨#[]⟩],.bool false]) (by simp[results,Tryz.results43,go_sem,R.k3]) rfl ⟨_,_,_,_,rfl,(fun h=>by cases h),(fun _=>HN.out),hb⟩
 ·have q1:(n==[48])=false:=by simpa using h48
  cases n with
  |nil=>
   have hs:dN l=none:=by rw[HS.out,mK,if_neg h48,if_pos (.inl rfl)]
   have HN:=Lib.hid hs;clear HS hs h48;go_wp2_with fail;obtain⟨U0,eU0,F,hb,hk,ff⟩:=F.put1 hb (by omega) 1 (.string ⟨#[]⟩) rfl;replace R:=ff R (by omega);obtain⟨W6,eW6,R,hb,hk,ff⟩:=R.put3 hb (by omega) (.bool ng) (.string ⟨#[]⟩) (.string ⟨#[]⟩) rfl rfl;replace F:=ff F (by omega);rw[eU0,eW6];clear eU0 eW6;replace cM:=aa R.k3 F.k3;exact bodyPost_ret (v:= .tuple #[.agg #[.bool ng,.string ⟨#[]⟩,.string ⟨#[]⟩],.bool false]) (by simp[results,Tryz.results43,go_sem,R.k3]) rfl ⟨_,_,_,_,rfl,(fun h=>by cases h),(fun _=>HN.out),hb⟩
  |cons a n'=>
   have hix:∀h,({ data:=(a :: n').toArray }:ByteArray)[0]'h=a:=fun _=>rfl;by_cases ha:a=48
   ·have hs:dN l=none:=by rw[HS.out,mK,if_neg h48,if_pos (.inr (by rw[ha];rfl))]
    have HN:=Lib.hid hs;clear HS hs h48;subst ha;go_wp2_with fail;obtain⟨U0,eU0,F,hb,hk,ff⟩:=F.put1 hb (by omega) 1 (.string ⟨(48 :: n').toArray⟩) rfl;replace R:=ff R (by omega);obtain⟨W6,eW6,R,hb,hk,ff⟩:=R.put3 hb (by omega) (.bool ng) (.string ⟨(48 :: n').toArray⟩) (.string ⟨#[]⟩) rfl rfl;replace F:=ff F (by omega);rw[eU0,eW6];clear eU0 eW6;replace cM:=aa R.k3 F.k3;exact bodyPost_ret (v:= .tuple #[.agg #[.bool ng,.string ⟨(48 :: n').toArray⟩,.string ⟨#[]⟩],.bool false]) (by simp[results,Tryz.results43,go_sem,R.k3]) rfl ⟨_,_,_,_,rfl,(fun h=>by cases h),(fun _=>HN.out),hb⟩
   ·have qa:((a.toNat:Int)==48)=false:=by
     have:a.toNat≠48:=fun e=>ha (UInt8.toNat_inj.1 e);simp;omega
    have hng:¬((a :: n')=[]∨(a :: n').head?=some 48):=by simp[ha]
    by_cases ht:t=[]
    ·have hs:dN l=some (ng,a :: n',[]):=by rw[HS.out,mK,if_neg h48,if_neg hng,if_pos ht]
     have HN:=Lib.hid hs;have q2:(t==[])=true:=by rw[ht];rfl
     clear HS hs h48 ht;go_wp2_with fail;obtain⟨U0,eU0,F,hb,hk,ff⟩:=F.put1 hb (by omega) 1 (.string ⟨(a :: n').toArray⟩) rfl;replace R:=ff R (by omega);obtain⟨W6,eW6,R,hb,hk,ff⟩:=R.put3 hb (by omega) (.bool ng) (.string ⟨(a :: n').toArray⟩) (.string ⟨#[]⟩) rfl rfl;replace F:=ff F (by omega);rw[eU0,eW6];clear eU0 eW6;replace cM:=aa R.k3 F.k3;exact bodyPost_ret (v:= .tuple #[.agg #[.bool ng,.string ⟨(a :: n').toArray⟩,.string ⟨#[]⟩],.bool true]) (by simp[results,Tryz.results43,go_sem,R.k3]) rfl ⟨_,_,_,_,rfl,(fun _=>HN.out),(fun h=>by cases h),hb⟩
    ·obtain⟨b,t',rfl⟩:∃b t',t=b :: t':=by
      cases t with
      |nil=>exact absurd rfl ht
      |cons b t'=>exact⟨b,t',rfl⟩
     have hix2:∀h,({ data:=(b :: t').toArray }:ByteArray)[0]'h=b:=fun _=>rfl;by_cases hb47:b=47
     ·subst hb47;rw[mK,if_neg h48,if_neg hng,if_neg ht,if_neg (by simp),List.tail_cons] at HS;clear h48 hng ht;have hex:({ data:=(47 :: t').toArray }:ByteArray).extract 1 (t'.length+1)=⟨t'.toArray⟩:=pC (by rw[iZ];simp);have hcd2:=fun W=>EW t' W (by simp at htl;omega);generalize t'.takeWhile aQ=d at *;generalize t'.dropWhile aQ=u at *;go_wp2_with fail;obtain⟨w4,ew4,F,hb,hk,ff⟩:=F.put1 hb (by omega) 1 (.string ⟨(a :: n').toArray⟩) rfl;replace R:=ff R (by omega);rw[ew4];clear ew4;replace cM:=aa R.g3 F.g3;refine(hcd2 _).mono ?_;rintro e5 w5 ⟨rfl,hw5⟩;have hb5:=EV hw5;clear hw5 hcd2 hex hix2;replace R:=R.below hb5;replace F:=F.below hb5;replace cM:=aa R.g3 F.g3;replace hb:=aB hb hb5;by_cases hu:u=[]
      ·have q3:(u==[])=true:=by rw[hu];rfl
       cases d with
       |nil=>
        have hs:dN l=none:=by rw[HS.out,if_neg (by simp)]
        have HN:=Lib.hid hs;clear HS hs hu;go_wp2_with fail;obtain⟨w6,ew6,F,hb,hk,ff⟩:=F.put1 hb (by omega) 2 (.string ⟨#[]⟩) rfl;replace R:=ff R (by omega);rw[ew6];clear ew6;replace cM:=aa R.g3 F.g3;go_region;all_goals (go_wp2_with fail)
        obtain⟨W6,eW6,R,hb,hk,ff⟩:=R.put3 hb (by omega) (.bool ng) (.string ⟨(a :: n').toArray⟩) (.string ⟨#[]⟩) rfl rfl;replace F:=ff F (by omega);rw[eW6];clear eW6;replace cM:=aa R.k3 F.k3;exact bodyPost_ret (v:= .tuple #[.agg #[.bool ng,.string ⟨(a :: n').toArray⟩,.string ⟨#[]⟩],.bool false]) (by simp[results,Tryz.results43,go_sem,R.k3]) rfl ⟨_,_,_,_,rfl,(fun h=>by cases h),(fun _=>HN.out),hb.drew⟩
       |cons e d'=>
        have hix3:∀h,({ data:=(e :: d').toArray }:ByteArray)[0]'h=e:=fun _=>rfl;by_cases he:e=48
        ·have hs:dN l=none:=by rw[HS.out,if_neg (by rw[he];simp)]
         have HN:=Lib.hid hs;have qe:((e.toNat:Int) != 48)=false:=by rw[he];rfl
         clear HS hs hu he;go_wp2_with fail;obtain⟨w6,ew6,F,hb,hk,ff⟩:=F.put1 hb (by omega) 2 (.string ⟨(e :: d').toArray⟩) rfl;replace R:=ff R (by omega);rw[ew6];clear ew6;replace cM:=aa R.g3 F.g3;go_region;all_goals (go_wp2_with fail)
         obtain⟨W6,eW6,R,hb,hk,ff⟩:=R.put3 hb (by omega) (.bool ng) (.string ⟨(a :: n').toArray⟩) (.string ⟨(e :: d').toArray⟩) rfl rfl;replace F:=ff F (by omega);rw[eW6];clear eW6;replace cM:=aa R.k3 F.k3;exact bodyPost_ret (v:= .tuple #[.agg #[.bool ng,.string ⟨(a :: n').toArray⟩,.string ⟨(e :: d').toArray⟩],.bool false]) (by simp[results,Tryz.results43,go_sem,R.k3]) rfl ⟨_,_,_,_,rfl,(fun h=>by cases h),(fun _=>HN.out),hb.drew⟩
        ·have qe:((e.toNat:Int) != 48)=true:=by
          have:e.toNat≠48:=fun h=>he (UInt8.toNat_inj.1 h);simp;omega
         by_cases h49:e :: d'=[49]
         ·have hs:dN l=none:=by rw[HS.out,if_neg (fun h=>h.2.2.2 h49)]
          have HN:=Lib.hid hs;have q4:(e :: d' != [49])=false:=by rw[h49];rfl
          have q5:e=49∧d'=[]:=by simpa using h49
          clear HS hs hu he h49;obtain⟨rfl,rfl⟩:=q5;clear qe q4 hix3;have hix4:∀h,({ data:= #[49] }:ByteArray)[0]'h=49:=fun _=>rfl;have q49:(((49:UInt8).toNat:Int) != 48)=true:=by decide
          go_wp2_with fail;obtain⟨w6,ew6,F,hb,hk,ff⟩:=F.put1 hb (by omega) 2 (.string ⟨#[49]⟩) rfl;replace R:=ff R (by omega);rw[ew6];clear ew6;replace cM:=aa R.g3 F.g3;go_region;all_goals (go_wp2_with fail)
          obtain⟨W6,eW6,R,hb,hk,ff⟩:=R.put3 hb (by omega) (.bool ng) (.string ⟨(a :: n').toArray⟩) (.string ⟨#[49]⟩) rfl rfl;replace F:=ff F (by omega);rw[eW6];clear eW6;replace cM:=aa R.k3 F.k3;exact bodyPost_ret (v:= .tuple #[.agg #[.bool ng,.string ⟨(a :: n').toArray⟩,.string ⟨#[49]⟩],.bool false]) (by simp[results,Tryz.results43,go_sem,R.k3]) rfl ⟨_,_,[49],_,rfl,(fun h=>by cases h),(fun _=>HN.out),hb.drew⟩
         ·have hs:dN l=some (ng,a :: n',e :: d'):=by rw[HS.out,if_pos ⟨hu,by simp,by simpa using he,h49⟩]
          have HN:=Lib.hid hs;have q4:(e :: d' != [49])=true:=by simpa using h49
          have q5:e=49→¬d'=[]:=by simpa using h49
          have q6:¬e=49∨¬d'=[]:=by
           by_cases h:e=49
           ·exact .inr (q5 h)
           ·exact .inl h
          clear HS hs hu he h49 q5;go_wp2_with fail;obtain⟨w6,ew6,F,hb,hk,ff⟩:=F.put1 hb (by omega) 2 (.string ⟨(e :: d').toArray⟩) rfl;replace R:=ff R (by omega);rw[ew6];clear ew6;replace cM:=aa R.g3 F.g3;go_region;all_goals (go_wp2_with fail)
          obtain⟨W6,eW6,R,hb,hk,ff⟩:=R.put3 hb (by omega) (.bool ng) (.string ⟨(a :: n').toArray⟩) (.string ⟨(e :: d').toArray⟩) rfl rfl;replace F:=ff F (by omega);rw[eW6];clear eW6;replace cM:=aa R.k3 F.k3;exact bodyPost_ret (v:= .tuple #[.agg #[.bool ng,.string ⟨(a :: n').toArray⟩,.string ⟨(e :: d').toArray⟩],.bool true]) (by simp[results,Tryz.results43,go_sem,R.k3,q6]) rfl ⟨_,_,_,_,rfl,(fun _=>HN.out),(fun h=>by cases h),hb.drew⟩
      ·have q3:(u==[])=false:=by simpa using hu
       have hs:dN l=none:=by rw[HS.out,if_neg (fun h=>hu h.1)]
       have HN:=Lib.hid hs;clear HS hs hu;go_wp2_with fail;obtain⟨w6,ew6,F,hb,hk,ff⟩:=F.put1 hb (by omega) 2 (.string ⟨d.toArray⟩) rfl;replace R:=ff R (by omega);rw[ew6];clear ew6;replace cM:=aa R.g3 F.g3;go_region;all_goals (go_wp2_with fail)
       obtain⟨W6,eW6,R,hb,hk,ff⟩:=R.put3 hb (by omega) (.bool ng) (.string ⟨(a :: n').toArray⟩) (.string ⟨d.toArray⟩) rfl rfl;replace F:=ff F (by omega);rw[eW6];clear eW6;replace cM:=aa R.k3 F.k3;exact bodyPost_ret (v:= .tuple #[.agg #[.bool ng,.string ⟨(a :: n').toArray⟩,.string ⟨d.toArray⟩],.bool false]) (by simp[results,Tryz.results43,go_sem,R.k3]) rfl ⟨_,_,_,_,rfl,(fun h=>by cases h),(fun _=>HN.out),hb.drew⟩
     ·have hs:dN l=none:=by rw[HS.out,mK,if_neg h48,if_neg hng,if_neg ht,if_pos (by simpa using hb47)]
      have HN:=Lib.hid hs;have qb:((b.toNat:Int) != 47)=true:=by
       have:b.toNat≠47:=fun e=>hb47 (UInt8.toNat_inj.1 e);simp;omega
      clear HS hs h48 ht hng;go_wp2_with fail;obtain⟨U0,eU0,F,hb,hk,ff⟩:=F.put1 hb (by omega) 1 (.string ⟨(a :: n').toArray⟩) rfl;replace R:=ff R (by omega);obtain⟨W6,eW6,R,hb,hk,ff⟩:=R.put3 hb (by omega) (.bool ng) (.string ⟨(a :: n').toArray⟩) (.string ⟨#[]⟩) rfl rfl;replace F:=ff F (by omega);rw[eU0,eW6];clear eU0 eW6;replace cM:=aa R.k3 F.k3;exact bodyPost_ret (v:= .tuple #[.agg #[.bool ng,.string ⟨(a :: n').toArray⟩,.string ⟨#[]⟩],.bool false]) (by simp[results,Tryz.results43,go_sem,R.k3]) rfl ⟨_,_,_,_,rfl,(fun h=>by cases h),(fun _=>HN.out),hb⟩
end Go.Proofs.YtbhplgdbfmifkaaGreatDoor
