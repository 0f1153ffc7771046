/-
  Contracts of functions that the statement reaches, and plain laws: AppB.
-/
import Derived.Test.YtbhplgdbfmifkaaGreatDoorI20
set_option linter.unusedVariables false
set_option linter.unusedSimpArgs false
set_option maxHeartbeats 8000000
set_option maxRecDepth 100000
namespace Go.Proofs.YtbhplgdbfmifkaaGreatDoor
open Go.RowKit Sos
def TxtAt (w:World) (B:Nat) (v:Value) (bs:List UInt8):Prop:=w.ownsRow B 5 1 v bs.length (Lib.byteCells bs)
def GlobB (B:Nat) (w:World):Prop:=∀w',Below B w w'→Glob w'
theorem GlobB.on {B:Nat} {w w':World} (h:GlobB B w) (hb:Below B w w'):GlobB B w':=fun w2 h2=>h w2 (hb.trans h2)
theorem GlobB.here {B:Nat} {w:World} (h:GlobB B w):Glob w:=h w (Below.refl _ _)
theorem Glob.globB {w:World} (h:Glob w):GlobB w.heap.size w:=fun _ hb=>h.below hb
theorem TxtAt.lt {w:World} {B:Nat} {v:Value} {bs:List UInt8} (h:TxtAt w B v bs):∀g,v.ownBlock=some g→B≤g∧g<w.heap.size:=World.ownsRow.lt h
theorem TxtAt.below {w w':World} {B:Nat} {v:Value} {bs:List UInt8} (h:TxtAt w B v bs) (hb:Below w.heap.size w w'):TxtAt w' B v bs:=by
 refine World.ownsRow.kept h (oM hb none) ?_;cases v.ownBlock with
 |none=>exact .inl rfl
 |some g=>exact .inr (by simp)
theorem TxtAt.slice {w:World} {B:Nat} {v:Value} {bs:List UInt8} (h:TxtAt w B v bs):∃A c,v= .slice A bs.length c:=by
 rcases h.2 with ⟨rfl,e⟩|⟨g,cap,cur,rfl,_⟩
 ·exact⟨none,0,by rw[e]⟩
 ·exact⟨_,cap,rfl⟩
theorem EJ (a b:List UInt8):Lib.byteCells (a++b)=Lib.byteCells a++Lib.byteCells b:=by simp[Lib.byteCells]
theorem EK (l:List UInt8):∀u∈Lib.byteCells l,u.oneCell'=true:=by
 intro u hu;simp only[Lib.byteCells,List.mem_map] at hu;obtain⟨b,_,rfl⟩:=hu;rfl
theorem jU:(Tryz.prog.info? 5).map (fun i=>(i.zero,i.size,i.bytes))=some (some (.int .u8 0),1,1):=by kernel_rfl
def bU:Nat:=10000000000000000000
theorem qM:bU=10^19:=by decide
theorem P3:bU<BN:=by decide
def dC (cs:List Nat):Nat:=cs.foldr (fun c a=>c+bU*a) 0
theorem P4 (cs:List Nat) (c:Nat):dC (cs++[c])=dC cs+bU^cs.length*c:=by
 induction cs with
 |nil=>simp[dC]
 |cons d cs ih=>
  have h1:dC (d :: (cs++[c]))=d+bU*dC (cs++[c]):=rfl;have h2:dC (d :: cs)=d+bU*dC cs:=rfl;rw[List.cons_append,h1,h2,ih,List.length_cons,Nat.pow_succ];grind
theorem TT (cs:List Nat) (i:Nat) (h:i<cs.length):dC (cs.drop i)=cs.getD i 0+bU*dC (cs.drop (i+1)):=by
 rw[List.drop_eq_getElem_cons h];show cs[i]+bU*dC (cs.drop (i+1))=_
 simp[List.getElem?_eq_getElem h]
def jA (cs:List Nat):List Int:=cs.map (fun (c:Nat)=>(c:Int))
theorem p8 (cs:List Nat):(jA cs).length=cs.length:=by simp[jA]
theorem PA (cs:List Nat) (c:Nat):jA (cs++[c])=jA cs++[(c:Int)]:=by simp[jA]
theorem PB (cs:List Nat) (i:Nat):(jA cs).getD i 0=((cs.getD i 0:Nat):Int):=by
 simp only[jA,List.getD_eq_getElem?_getD,List.getElem?_map];cases cs[i]? <;>rfl
theorem EL {k x:Nat} (h:bU^k≤x):k≤2*nl x:=by
 rcases Nat.lt_or_ge (2*nl x) k with hk|hk
 ·exfalso;have h1:=bX x;have h2:BN^nl x≤(bU^2)^nl x:=Nat.pow_le_pow_left (by decide) _;rw[←Nat.pow_mul] at h2;have h3:bU^(2*nl x)≤bU^k:=Nat.pow_le_pow_right (by decide) (by omega);omega
 ·exact hk
theorem EM (g:Nat):∀(vs:List Value) (o:Nat) (w:World),w.grownBy (w.setCells g o vs) (some g)
 |[],_,w=>World.grownBy.refl w _
 |v :: r,o,w=>vQ (kK (w:=w) ⟨g,o,none⟩ v) (EM g r (o+1) _)
theorem Shape.setCells {g n:Nat} {t:TypeId} (b:Nat):∀(vs:List Value) (o:Nat) (w:World),Shape w g t n→Shape (w.setCells b o vs) g t n
 |[],_,_,h=>h
 |v :: r,o,w,h=>Shape.setCells b r (o+1) _ (h.set ⟨b,o,none⟩ v)
theorem Shape.isSome {w:World} {g n:Nat} {t:TypeId} (h:Shape w g t n) {j:Nat} (hj:j<n):(w.cell? ⟨g,j,none⟩).isSome=true:=by
 obtain⟨cur,hh,hn⟩:=h;rw[cell_of_row w g j cur _ (0,0) hh];simp;omega
theorem Shape.below {w w':World} {B g n:Nat} {t:TypeId} (h:Shape w g t n) (hb:Below B w w') (hg:g<B):Shape w' g t n:=h.keep (hb.block g hg)
theorem PC (bb:Nat) (w:World) (t:TypeId) (hs:Shape w bb t 20) (l:List UInt8) (hl:l.length≤20):
  p9 w (.slice (some ⟨bb,0,none⟩) 0 20) l (fun v' w'=>v'= .slice (some ⟨bb,0,none⟩) l.length 20∧VC w' bb 0 (Lib.byteCells l)∧w.grownBy w' (some bb)∧Shape w' bb t 20):=by
 refine PK _ _ _ _ ?_;intro w1 tx x hb hsrc;obtain⟨i,hi0,hz,hs1,hby⟩:=info_parts jU;have hsh:=hs.below hb hs.lt
 have hrun:=run_append_room_src (P:=Tryz.prog) w1 149 tx 149 5 i Tryz.underlying149 hi0 bb 0 0 20 x l.length (Lib.byteCells l) (by rw[hs1];exact hsrc) (by omega)
  (fun j hj=>by rw[Lib.byteCells_length] at hj;rw[show 0+0*i.size+j=j by omega];exact hsh.isSome (by omega)) (fun j _=>hsh.soft.free _)
 rw[show 0+0*i.size=0 by omega,Nat.zero_add] at hrun;refine⟨_,_,hrun,rfl,?_,vQ (oM hb _) (EM bb _ 0 w1),Shape.setCells bb _ 0 w1 hsh⟩;intro j v hv;have hj:j<(Lib.byteCells l).length:=(List.getElem?_eq_some_iff.1 hv).1;have:=World.cell?_setCells_in bb (Lib.byteCells l) 0 w1 (fun j hj=>by rw[Lib.byteCells_length] at hj;rw[Nat.zero_add];exact hsh.isSome (by omega)) j hj;rw[this,←hv,List.getElem?_eq_getElem hj]
theorem PD {wd c:Nat} (hc:c≠0):List.replicate (max (Lib.decDigits c).length wd-(Lib.decDigits c).length) 48++Lib.decDigits c=bO wd c:=by
 unfold bO;rw[if_neg hc,if_neg hc,Lib.decDigits_length];congr 2<;>omega
theorem PE {c:Nat} (hc:c<bU):List.replicate (19-(Lib.decDigits c).length) 48++Lib.decDigits c=bO 19 c:=by
 refine DA ((Digs.zeros _).append (mG c)) (by rw[mW,D5,j0];omega) ?_;have h1:Lib.nDigits c≤19:=oT (by rw[←qM];exact hc) (by decide);rw[List.length_append,List.length_replicate,Lib.decDigits_length];split<;>omega
theorem PF {width k H c:Nat} (hH:H≠0) (hc:c<bU):bO (width-19*(k+1)) H++bO 19 c=bO (width-19*k) (c+bU*H):=by
 have:=DB (w:=width-19*k) (hi:=H) (lo:=c) (d:=19) (by rw[←qM];exact hc) (.inl hH);rw[show c+bU*H=H*10^19+c by rw[qM];grind,this];congr 2<;>omega
theorem PG (n:Nat):Lib.nDigits n≤20*nl n+1:=by
 refine oT ?_ (by omega);have h1:=bX n;have h2:BN^nl n≤(10^20)^nl n:=Nat.pow_le_pow_left (by decide) _;rw[←Nat.pow_mul] at h2;have h3:10^(20*nl n)≤10^(20*nl n+1):=Nat.pow_le_pow_right (by decide) (by omega);omega
theorem EN (w n:Nat):(bO w n).length≤w+20*nl n+1:=by
 rw[oU];have:=PG n;split<;>omega
theorem PH {cs:List Nat} (i:Nat):dC (cs.drop i)≤dC cs:=by
 induction i generalizing cs with
 |zero=>exact Nat.le_refl _
 |succ i ih=>
  cases cs with
  |nil=>simp
  |cons c cs=>
   rw[List.drop_succ_cons];have h1:dC (c :: cs)=c+bU*dC cs:=rfl;have h2:1*dC cs≤bU*dC cs:=Nat.mul_le_mul_right _ (by decide);have:=ih (cs:=cs);omega
theorem PI {cs:List Nat} (h:cs.getLast?≠some 0) {i:Nat} (hi:i<cs.length):dC (cs.drop i)≠0:=by
 induction cs generalizing i with
 |nil=>simp at hi
 |cons c cs ih=>
  cases i with
  |succ i=>
   rw[List.drop_succ_cons];cases cs with
   |nil=>simp at hi
   |cons d cs=>exact ih (by simpa using h) (by simpa using hi)
  |zero=>
   have h1:dC (c :: cs)=c+bU*dC cs:=rfl;rw[List.drop_zero,h1];cases cs with
   |nil=>
    simp at h;simp[dC];exact h
   |cons d cs=>
    have:=ih (i:=0) (by simpa using h) (by simp);rw[List.drop_zero] at this;have h3:0<bU*dC (d :: cs):=Nat.mul_pos (by decide) (by omega);omega
theorem TxtAt.more {w w':World} {B:Nat} {v v':Value} {bs l:List UInt8} {o:Obj} (ho:w'.ownsRow B 5 1 v' (bs.length+l.length) (Lib.byteCells bs++Lib.byteCells l)) (hg:(w.alloc o).grownBy w' v.ownBlock) (hat:v'.ownBlock=v.ownBlock∨v'.ownBlock=some (w.alloc o).heap.size):
  TxtAt w' B v' (bs++l)∧TxtTo w v w' v':=by
 refine⟨by unfold TxtAt;rw[EJ,List.length_append];exact ho,⟨hg.os,hg.tape,hg.output,Nat.le_trans (by simp) hg.size,fun i hi hne=>(hg.block i (by simp;omega) hne).trans (Below.heap_alloc w o i hi)⟩,fun g e=> ?_⟩;rcases hat with h|h
 ·left;rw[←h];exact e
 ·right;rw[h] at e;simp at e;omega
theorem TxtAt.more' {w w':World} {B:Nat} {v v':Value} {bs l:List UInt8} (ho:w'.ownsRow B 5 1 v' (bs.length+l.length) (Lib.byteCells bs++Lib.byteCells l)) (hg:w.grownBy w' v.ownBlock) (hat:v'.ownBlock=v.ownBlock∨v'.ownBlock=some w.heap.size):
  TxtAt w' B v' (bs++l)∧TxtTo w v w' v':=by
 refine⟨by unfold TxtAt;rw[EJ,List.length_append];exact ho,hg,fun g e=> ?_⟩;rcases hat with h|h
 ·left;rw[←h];exact e
 ·right;rw[h] at e;simp at e;omega
theorem TxtTo.beside {w w':World} {a b cv:Value} {B bb n:Nat} {t:TypeId} {zs:List Int} (h:TxtTo w a w' b) (ho:OwnN w B cv zs) (hs:Shape w bb t n) (hap:Apart a cv) (hab:a.ownBlock≠some bb):
  OwnN w' B cv zs∧Shape w' bb t n∧Apart b cv∧b.ownBlock≠some bb:=by
 refine⟨ho.grown h.1 hap,hs.grown h.1 hab,h.apart hap (fun g e=>(ho.lt g e).2),fun e=> ?_⟩;rcases h.2 bb e with h'|h'
 ·exact hab h'
 ·have:=hs.lt;omega
def EO (w:World) (B bb:Nat) (tv cv:Value) (bs:List UInt8) (cs:List Nat) (width k:Nat) (p f:Value) (wr:World):Prop:=
 ∃bs',((k=cs.length∧f= .bool true∧bs'=bs)∨(k<cs.length∧f= .bool false∧bs'=bs++bO (width-19*k) (dC (cs.drop k))))∧TxtAt wr B p bs'∧TxtTo w tv wr p∧OwnN wr w.heap.size cv (jA cs)∧Shape wr bb 255 20∧
  Apart p cv∧p.ownBlock≠some bb∧k≤cs.length
theorem PJ (B:Nat) (tv:Value) (bs:List UInt8) (x width:Nat) (vx:Value) (w:World) (hG:GlobB B w) (hB:B≤w.heap.size) (ht:TxtAt w B tv bs) (hx:NatAt w vx x) (hxl:nl x≤1099511627776) (hwl:width≤17592186044416) (hbl:bs.length≤17592186044416):
  Calls Tryz.prog 204 #[tv,vx,.int .i64 width] w fun e w'=>∃v,e= .returned v∧TxtAt w' B v (bs++bO width x)∧TxtTo w tv w' v:=by
 go_enter Tryz.func204,Tryz.ntmps204;go_wp2_with fail;refine(nJ x _ _ hx (by unfold aF;omega)).mono ?_;rintro e w1 ⟨vw,rfl,hvw,hb1⟩;go_wp2_with fail;go_loopg [7,8] x (fun k p q wr=>∃(n:Nat) (cs:List Nat),Hid (n=k)∧OwnN wr w.heap.size p (dg n)∧OwnN wr w.heap.size q (jA cs)∧Apart p q∧(∀c∈cs,c<bU)∧Hid (x=dC cs+bU^cs.length*n)∧Hid (n≠0∨cs=[]∨cs.getLast?≠some 0)∧n≤x∧cs.length≤2*nl x+1∧Below w.heap.size w wr)
 case atStart=>
  exact⟨x,[],rfl,hvw,OwnN.nil _ _,(fun g _ h=>by cases h),(fun c hc=>by cases hc),(by simp[Hid,dC]),Or.inr (Or.inl rfl),Nat.le_refl _,Nat.zero_le _,hb1⟩
 case round=>
  obtain⟨n,cs,HK,hp,hq,hap,hcs,HX,HZ,hnx,hcsl,hbel⟩:=hrel;clear hvw hb1;have hnl:=aX hnx;by_cases hn0:n=0
  ·subst hn0;have hx0:=HX.out;rw[Nat.mul_zero,Nat.add_zero] at hx0;have hz0:cs=[]∨cs.getLast?≠some 0:=by rcases HZ.out with h|h;exact absurd rfl h;exact h
   have HX0:=Lib.hid hx0;have HZ0:=Lib.hid hz0;clear hx0 hz0 HX HZ HK;obtain⟨Aw,cw,hpe⟩:=hp.slice;rw[aJ,cC] at hpe;subst hpe;obtain⟨Aq,cq,hqe⟩:=hq.slice;rw[p8] at hqe;subst hqe;have hwr:=hbel.size;have hqlt:=hq.lt;obtain⟨bb,hbb⟩:∃bb,bb=wr.heap.size:=⟨_,rfl⟩;have hbbw:w.heap.size≤bb:=by omega
   have hcb:∀a,(Value.slice Aq cs.length cq).ownBlock=some a→a≠bb:=fun a ha=>by have:=(hqlt a ha).2;omega
   have htv:=ht.lt;have hrel0:EO w B bb tv (.slice Aq cs.length cq) bs cs width cs.length tv (.bool true) (wr.alloc (.cells (Array.replicate 20 (Value.int .u8 0)) 255)):=by
    have hba:=hbel.alloc hbel.size (.cells (Array.replicate 20 (Value.int .u8 0)) 255);refine⟨bs,.inl ⟨rfl,rfl,rfl⟩,ht.below hba,TxtTo.below hba,World.ownsRow.alloc hq _,⟨_,by rw[hbb];exact heap_alloc_new wr _,by simp⟩,?_,?_,Nat.le_refl _⟩
    ·intro a ha e;have:=(htv a ha).2;have:=(hqlt a e).1;omega
    ·intro e;have:=(htv _ e).2;omega
   have HTV:=Lib.hid htv;clear hp hq hap hqlt htv ht;go_wp2_with fail;rw[←hbb] at *;clear hbb;go_loopg [0,12,13] cs.length (fun k p f i wr=>i= .int .i64 ((k:Int)-1)∧EO w B bb tv (.slice Aq cs.length cq) bs cs width k p f wr)
   case atStart=>exact⟨rfl,hrel0⟩
   case round=>
    obtain⟨rfl,bs',hcase,htx,hto,hoq,hsh,hapq,hpb,hkm⟩:=hrel;clear hrel0;cases gk with
    |zero=>
     have hi0:((0:Nat):Int)-1= -1:=by omega
     simp only[hi0];clear hi0;rcases hcase with ⟨hk,rfl,hbs⟩|⟨hk,rfl,rfl⟩
     ·have hbs':=hbs.symm;subst hbs';have hcs0:cs=[]:=List.eq_nil_of_length_eq_zero hk.symm;have hx0:x=0:=by rw[HX0.out,hcs0];rfl
      subst hx0;have hB3:B≤wr.heap.size:=Nat.le_trans hB hto.1.size;clear hoq hcs0 hk;go_wp2_with fail;generalize u0=tx at *;go_loopg [0,82] width (fun k' p i wx=>∃j,Hid (j+k'=width)∧i= .int .i64 j∧TxtAt wx B p (bs++List.replicate j 48)∧TxtTo wr tx wx p)
      case atStart=>exact⟨0,by unfold Hid;omega,rfl,by simpa using htx,TxtTo.refl _ _⟩
      case round=>
       obtain⟨j,HJ,rfl,hta,htt⟩:=hrel;have hjd:j≤width:=by have:=HJ.out;omega
       have hln:(bs++List.replicate j (48:UInt8)).length=bs.length+j:=by rw[List.length_append,List.length_replicate]
       have hB2:B≤wr.heap.size:=Nat.le_trans hB3 htt.1.size;cases gk with
       |succ k'=>
        have hj:(j:Int)<width:=by have:=HJ.out;omega
        have hta':wr.ownsRow B 5 1 u0 (bs.length+j) (Lib.byteCells (bs++List.replicate j 48)):=by
         have:=hta;unfold TxtAt at this;rw[hln] at this;exact this
        have HLN:=Lib.hid hln;clear hln;go_wp2_with (at_builtin;refine eJ rfl rfl 5 _ 1 1 Tryz.underlying149 jU rfl (by decide) B u0 (bs.length+j) _ rfl (hta'.alloc _) [Value.int .u8 48] rfl (by simp) (iD _ _ _) (by simp[Value.oneCell']) (by omega) (by omega) (by simp;omega) ?_;intro q1 w6 ho1 hg1 hat1);have hm:=TxtAt.more (bs:=bs++List.replicate j 48) (l:=[48]) (by rw[HLN.out];exact ho1) hg1 hat1;go_wp2_with fail;go_roundg k'
        case measure=>omega
        case rel=>
         refine⟨j+1,by have:=HJ.out;unfold Hid;omega,by go_num,?_,htt.trans hm.2⟩;rw[List.replicate_succ',←List.append_assoc];exact hm.1
       |zero=>
        obtain rfl:j=width:=by have:=HJ.out;omega
        clear hln;go_wp2_with fail;go_ret;exact⟨_,rfl,by rw[NJ];exact hta,hto.trans htt⟩
     ·have hx1:Hid (dC (cs.drop 0)=x):=by unfold Hid;rw[HX0.out];rfl
      go_wp2_with fail;go_ret;refine⟨_,rfl,?_,hto⟩;have:=htx;rw[Nat.mul_zero,Nat.sub_zero,hx1.out] at this;exact this
    |succ k=>
     obtain⟨gc,rfl,hgcB, -, -,hshc,hclc⟩:=hoq.parts (by rw[p8];omega);have g1:=hclc k (by rw[p8];omega);rw[Nat.zero_add,PB] at g1;have hcE:cs.getD k 0<bU:=hcs _ (by rw[List.getD_eq_getElem?_getD,List.getElem?_eq_getElem (by omega)];exact List.getElem_mem _);have HCD:=Lib.hid (TT cs k (by omega));generalize hce:cs.getD k 0=ch at *;have hki:((k+1:Nat):Int)-1=(k:Int):=by omega
     simp only[hki];have hgcb:gc≠bb:=hcb gc rfl;have hchB:ch<BN:=Nat.lt_trans hcE P3;have hBel:Below B w wr:=hto.belowB hB (fun a ha=>(HTV.out a ha).1);have hGr:Glob wr.drew:=hG _ hBel.drew;have happ:=PC bb wr.drew 255 hsh (Lib.decDigits ch) (tV hchB);have hau:=ER _ ch wr.drew _ hchB hGr happ;have hgcl:gc<wr.drew.heap.size:=hshc.lt;have hk0:(0:Int)≤(k:Int):=by omega
     have hk1:(k:Int)<(cs.length:Int):=by omega
     have hsl:∀W,(Instr.sliceAt 255 (.pointer (some ⟨bb,0,none⟩)) none (some (.int .i64 0)) none).run Tryz.prog W= .ok (.slice (some ⟨bb,0,none⟩) 0 20) W:=fun W=>by kernel_rfl
     have HCE:=Lib.hid hce;have hL:=tV hchB;have HPF:=Lib.hid (fun (hc:ch≠0) (wd:Nat)=>PD (wd:=wd) hc);have HPN:=Lib.hid (PE hcE);have hL1:1≤(Lib.decDigits ch).length:=by rw[Lib.decDigits_length];exact Lib.nDigits_pos ch
     clear hki happ hce hclc hBel hGr;generalize Lib.decDigits ch=ds at *;go_wp2_with fail
     go_region_held3 (fun w'=>w'.cell? ⟨gc,k,none⟩=some (.int .u64 ch)) (first|go_keep|(exact(World.cell?_of_block (a:=⟨gc,k,none⟩) (hg5.block gc hgcl (fun e=>hgcb (by injection e)))).trans g1)) (first
      |(go_at_call 179;(with_reducible refine hau.mono ?_);rintro e5 w5 ⟨v5,rfl,rfl,hvc5,hg5,hsh5⟩))
     clear hau hsl;have htx5:TxtAt w5 B u0 bs':=World.ownsRow.kept (w:=wr.drew) htx hg5 (.inr hpb);have hoq5:OwnN w5 w.heap.size (.slice (some ⟨gc,0,none⟩) cs.length cq) (jA cs):=OwnN.grown (w:=wr.drew) hoq hg5 (fun g e=>by injection e with e;subst e;intro e2;exact hgcb (by simpa [Value.ownBlock] using e2));have hto5:TxtTo w tv w5 u0:=hto.step (w1:=wr) ⟨hg5.os,hg5.tape,hg5.output,hg5.size,hg5.block⟩ hbbw;have hB5:B≤w5.heap.size:=Nat.le_trans hB (Nat.le_trans hto.1.size hg5.size);obtain⟨L,HDS⟩:∃L,Hid (ds.length=L):=⟨_,rfl⟩;simp only[HDS.out] at hL hL1 HPF HPN⊢;clear htx hoq hto hg5 g1 hsh hshc;rcases hcase with ⟨hk,rfl,hbs⟩|⟨hk,rfl,rfl⟩
     ·have hbs':=hbs.symm;subst hbs';obtain⟨sz,hsze,HSZ⟩:∃sz:Nat,max (L:Int) ((width:Int)-19*(k:Int))=(sz:Int)∧Hid (sz=max L (width-19*k)):=⟨max L (width-19*k),by omega,rfl⟩;have hch0:ch≠0:=by
       have h1:=HZ0.out;rcases h1 with h1|h1
       ·rw[h1] at hk;simp at hk
       ·rw[←HCE.out];intro e;apply h1;rw[List.getLast?_eq_getElem?,show cs.length-1=k by omega,List.getElem?_eq_getElem (by omega)];rw[List.getD_eq_getElem?_getD,List.getElem?_eq_getElem (by omega)] at e;simpa using e
      have HFIN:Hid (dC (cs.drop k)=ch):=by
       unfold Hid;rw[HCD.out,List.drop_of_length_le (by omega)];simp[dC]
      have hL2:L≤sz:=by have:=HSZ.out;omega
      obtain⟨d,hdd,HD⟩:∃d:Nat,(sz:Int)-(L:Int)=(d:Int)∧Hid (d=sz-L):=⟨sz-L,by omega,rfl⟩;have hd1:d≤17592186044436:=by have:=HD.out;have:=HSZ.out;omega
      go_wp2_with fail;generalize u0=tx at *;go_loopg [0,71] d (fun k' p i wx=>∃j,Hid (j+k'=d)∧i= .int .i64 j∧TxtAt wx B p (bs++List.replicate j 48)∧TxtTo w5 tx wx p)
      case atStart=>exact⟨0,by unfold Hid;omega,rfl,by simpa using htx5,TxtTo.refl _ _⟩
      case round=>
       obtain⟨j,HJ,rfl,hta,htt⟩:=hrel;have hjd:j≤d:=by have:=HJ.out;omega
       have hln:(bs++List.replicate j (48:UInt8)).length=bs.length+j:=by rw[List.length_append,List.length_replicate]
       have hB2:B≤wr.heap.size:=Nat.le_trans hB5 htt.1.size;cases gk with
       |succ k'=>
        have hj:(j:Int)<d:=by have:=HJ.out;omega
        have hta':wr.ownsRow B 5 1 u0 (bs.length+j) (Lib.byteCells (bs++List.replicate j 48)):=by
         have:=hta;unfold TxtAt at this;rw[hln] at this;exact this
        have HLN:=Lib.hid hln;clear hln;go_wp2_with (at_builtin;refine eJ rfl rfl 5 _ 1 1 Tryz.underlying149 jU rfl (by decide) B u0 (bs.length+j) _ rfl (hta'.alloc _) [Value.int .u8 48] rfl (by simp) (iD _ _ _) (by simp[Value.oneCell']) (by omega) (by omega) (by simp;omega) ?_;intro q1 w6 ho1 hg1 hat1);have hm:=TxtAt.more (bs:=bs++List.replicate j 48) (l:=[48]) (by rw[HLN.out];exact ho1) hg1 hat1;go_wp2_with fail;go_roundg k'
        case measure=>omega
        case rel=>
         refine⟨j+1,by have:=HJ.out;unfold Hid;omega,by go_num,?_,htt.trans hm.2⟩;rw[List.replicate_succ',←List.append_assoc];exact hm.1
       |zero=>
        obtain rfl:j=d:=by have:=HJ.out;omega
        have hbes:=htt.beside hoq5 hsh5 hapq hpb;have hvcx:=hvc5.grown htt.1 hsh5.lt hpb;have hta':wr.ownsRow B 5 1 u0 (bs.length+j) (Lib.byteCells (bs++List.replicate j 48)):=by
         have:=hta;unfold TxtAt at this;rw[hln] at this;exact this
        have HLN:=Lib.hid hln;clear hln;have hsrc:Src wr (some ⟨bb,0,none⟩) (Lib.byteCells ds):= .inr ⟨bb,0,rfl,hvcx⟩;go_wp2_with (at_builtin;refine eJ rfl rfl 5 _ 1 1 Tryz.underlying149 jU rfl (by decide) B u0 (bs.length+j) _ rfl hta' (Lib.byteCells ds) rfl (by rw[Lib.byteCells_length,HDS.out,Nat.mul_one]) hsrc (EK ds) (by omega) (by omega) hB2 ?_;intro q1 w6 ho1 hg1 hat1);have hm:=TxtAt.more' (bs:=bs++List.replicate j 48) (l:=ds) (by rw[HLN.out,HDS.out];exact ho1) hg1 hat1;have hbes2:=hm.2.beside hbes.1 hbes.2.1 hbes.2.2.1 hbes.2.2.2;have hto6:=(hto5.trans htt).trans hm.2;go_wp2_with fail;go_roundg k
        case measure=>omega
        case rel=>
         refine⟨rfl,_,.inr ⟨by omega,rfl,rfl⟩,?_,hto6,hbes2.1,hbes2.2.1,hbes2.2.2.1,hbes2.2.2.2,by omega⟩;have:=hm.1;rw[HD.out] at this;rw[HSZ.out,List.append_assoc,HPF.out hch0] at this;rw[HFIN.out];exact this
     ·obtain⟨sz,hsze,HSZ⟩:∃sz:Nat,(19:Int)=(sz:Int)∧Hid (sz=19):=⟨19,rfl,rfl⟩;have hH:dC (cs.drop (k+1))≠0:=by
       rcases HZ0.out with h1|h1
       ·rw[h1] at hk;simp at hk
       ·exact PI h1 hk
      have hHx:dC (cs.drop (k+1))≤x:=by rw[HX0.out];exact PH _
      have hL19:L≤19:=by
       have h1:=congrArg List.length HPN.out;have h2:Lib.nDigits ch≤19:=oT (by rw[←qM];exact hcE) (by decide);rw[oU,List.length_append,List.length_replicate,HDS.out] at h1;split at h1<;>omega
      generalize dC (cs.drop (k+1))=H at *;obtain⟨bl,HBL,hbl2⟩:∃bl,Hid ((bs++bO (width-19*(k+1)) H).length=bl)∧bl≤57174604644353:=by
       refine⟨_,rfl,?_⟩;have h1:=EN (width-19*(k+1)) H;have h2:=aX hHx;rw[List.length_append];omega
      clear hsze HSZ;clear sz;have HSZ:Hid ((19:Nat)=19):=rfl;have hL2:L≤19:=by have:=HSZ.out;omega
      obtain⟨d,hdd,HD⟩:∃d:Nat,(19:Int)-(L:Int)=(d:Int)∧Hid (d=19-L):=⟨19-L,by omega,rfl⟩;have hd1:d≤17592186044436:=by have:=HD.out;have:=HSZ.out;omega
      go_wp2_with fail;generalize u0=tx at *;go_loopg [0,71] d (fun k' p i wx=>∃j,Hid (j+k'=d)∧i= .int .i64 j∧TxtAt wx B p ((bs++bO (width-19*(k+1)) H)++List.replicate j 48)∧TxtTo w5 tx wx p)
      case atStart=>exact⟨0,by unfold Hid;omega,rfl,by simpa using htx5,TxtTo.refl _ _⟩
      case round=>
       obtain⟨j,HJ,rfl,hta,htt⟩:=hrel;have hjd:j≤d:=by have:=HJ.out;omega
       have hln:((bs++bO (width-19*(k+1)) H)++List.replicate j (48:UInt8)).length=bl+j:=by rw[List.length_append,List.length_replicate,HBL.out]
       have hB2:B≤wr.heap.size:=Nat.le_trans hB5 htt.1.size;cases gk with
       |succ k'=>
        have hj:(j:Int)<d:=by have:=HJ.out;omega
        have hta':wr.ownsRow B 5 1 u0 (bl+j) (Lib.byteCells ((bs++bO (width-19*(k+1)) H)++List.replicate j 48)):=by
         have:=hta;unfold TxtAt at this;rw[hln] at this;exact this
        have HLN:=Lib.hid hln;clear hln;go_wp2_with (at_builtin;refine eJ rfl rfl 5 _ 1 1 Tryz.underlying149 jU rfl (by decide) B u0 (bl+j) _ rfl (hta'.alloc _) [Value.int .u8 48] rfl (by simp) (iD _ _ _) (by simp[Value.oneCell']) (by omega) (by omega) (by simp;omega) ?_;intro q1 w6 ho1 hg1 hat1);have hm:=TxtAt.more (bs:=(bs++bO (width-19*(k+1)) H)++List.replicate j 48) (l:=[48]) (by rw[HLN.out];exact ho1) hg1 hat1;go_wp2_with fail;go_roundg k'
        case measure=>omega
        case rel=>
         refine⟨j+1,by have:=HJ.out;unfold Hid;omega,by go_num,?_,htt.trans hm.2⟩;rw[List.replicate_succ',←List.append_assoc];exact hm.1
       |zero=>
        obtain rfl:j=d:=by have:=HJ.out;omega
        have hbes:=htt.beside hoq5 hsh5 hapq hpb;have hvcx:=hvc5.grown htt.1 hsh5.lt hpb;have hta':wr.ownsRow B 5 1 u0 (bl+j) (Lib.byteCells ((bs++bO (width-19*(k+1)) H)++List.replicate j 48)):=by
         have:=hta;unfold TxtAt at this;rw[hln] at this;exact this
        have HLN:=Lib.hid hln;clear hln;have hsrc:Src wr (some ⟨bb,0,none⟩) (Lib.byteCells ds):= .inr ⟨bb,0,rfl,hvcx⟩;go_wp2_with (at_builtin;refine eJ rfl rfl 5 _ 1 1 Tryz.underlying149 jU rfl (by decide) B u0 (bl+j) _ rfl hta' (Lib.byteCells ds) rfl (by rw[Lib.byteCells_length,HDS.out,Nat.mul_one]) hsrc (EK ds) (by omega) (by omega) hB2 ?_;intro q1 w6 ho1 hg1 hat1);have hm:=TxtAt.more' (bs:=(bs++bO (width-19*(k+1)) H)++List.replicate j 48) (l:=ds) (by rw[HLN.out,HDS.out];exact ho1) hg1 hat1;have hbes2:=hm.2.beside hbes.1 hbes.2.1 hbes.2.2.1 hbes.2.2.2;have hto6:=(hto5.trans htt).trans hm.2;go_wp2_with fail;go_roundg k
        case measure=>omega
        case rel=>
         refine⟨rfl,_,.inr ⟨by omega,rfl,rfl⟩,?_,hto6,hbes2.1,hbes2.2.1,hbes2.2.2.1,hbes2.2.2.2,by omega⟩;have:=hm.1;rw[HD.out] at this;rw[List.append_assoc,HPN.out,List.append_assoc,PF hH hcE] at this;rw[HCD.out];exact this
  ·have hn1:=eQ hn0;obtain⟨g,cap,rfl,hgB,hnc,hcm,hsh,hcl⟩:=hp.at_ (by rw[aJ];exact hn1);simp only[aJ] at hp hnc hap⊢;have i1:(0:Int)<(nl n:Int):=by omega
   have hcl2:cs.length≤2*nl x:=by
    refine EL ?_;have h1:=HX.out;have h2:bU^cs.length*1≤bU^cs.length*n:=Nat.mul_le_mul_left _ (by omega);omega
   obtain⟨Aq,cq,hqe⟩:=hq.slice;rw[p8] at hqe;subst hqe;have dt:decide (0<nl n)=true:=by simpa using hn1
   go_wp2_with fail
   go_loopg [9,10] (nl n) (fun k t i wx=>∃(r:Int) (zs:List Int),i= .int .i64 ((k:Int)-1)∧t= .int .u64 r∧k≤nl n∧0≤r∧r<10000000000000000000∧Hid (zs.length=nl n)∧InR aA zs∧Hid (zs.take k=(dg n).take k)∧Hid (aD aA (zs.drop k)*10000000000000000000+r=aD aA ((dg n).drop k))∧
    OwnN wx w.heap.size (.slice (some ⟨g,0,none⟩) (nl n) cap) zs∧OwnN wx w.heap.size (.slice Aq cs.length cq) (jA cs)∧Below w.heap.size w wx)
   case atStart=>
    refine⟨0,dg n,rfl,rfl,Nat.le_refl _,by decide,by decide,aJ n,aW n,rfl,?_,hp,hq,hbel⟩;unfold Hid;rw[List.drop_of_length_le (by rw[aJ];exact Nat.le_refl _)];simp
   case round=>
    obtain⟨r,zs,rfl,rfl,hkn,hr0,hr1,HZL,hz,HTK,HV,ho,hoq,hbx⟩:=hrel;clear hp hq hcl hsh;cases gk with
    |succ k=>
     have HO:=Lib.hid ho;obtain⟨g',eg, -, -, -,hsh,hcl⟩:=ho.parts (by rw[HZL.out];omega);simp only[Option.some.injEq,Addr.mk.injEq] at eg;obtain⟨rfl, -, -⟩:=eg;have g1:=hcl k (by rw[HZL.out];omega);have hzk:zs.getD k 0=(dg n).getD k 0:=by
      have h1:=congrArg (fun l=>l.getD k (0:Int)) HTK.out;simp only[List.getD_eq_getElem?_getD,List.getElem?_take,if_pos (Nat.lt_succ_self k)] at h1;simpa [List.getD_eq_getElem?_getD] using h1
     rw[Nat.zero_add,hzk] at g1;have hxb:=(aW n).getD aM k;have hst:=fun q r' h=>CO (zs:=zs) (xs:=dg n) (j:=k) (q:=q) (r':=r') (y:=10000000000000000000) (by rw[aJ];omega) (by rw[HZL.out];omega) h HV.out;have hgl:g<wr.heap.size:=hsh.lt;generalize (dg n).getD k 0=xd at *;have HST:=Lib.hid hst;have hki:((k+1:Nat):Int)-1=(k:Int):=by omega
     simp only[hki];have HQ:=Lib.hid hoq;clear hst hcl hzk hki ho hoq;go_wp2_with fail;refine(sY r xd 10000000000000000000 hr0 hr1 hxb.1 hxb.2 (by decide) _).mono ?_;rintro e w2 ⟨q,r',rfl,hd0,hd1,hr0',hr1',heq,nd,rfl⟩;have hb2:Below wr.heap.size wr (wr.drewN nd):=cH (Below.refl _ _) _;have hbx2:Below w.heap.size w (wr.drewN nd):=cH hbx _;generalize wr.drewN nd=w2 at *;have HEQ:=Lib.hid heq;clear heq;have g3:w2.cell? ⟨g,k,none⟩=_:=(hb2.cell (p:=⟨g,k,none⟩) hgl).trans g1;have hs2:=hsh.soft.below hb2 hgl;have hf2:=fun j=>hs2.free j;clear g1;have hqne:∀a,(Value.slice Aq cs.length cq).ownBlock=some a→a≠g:=fun a ha e=>hap g rfl (by rw[←e];exact ha);go_wp2_with fail;go_roundg k
     case measure=>omega
     case rel=>
      refine⟨r',zs.set k q,rfl,rfl,by omega,hr0',hr1',?_,hz.set hd0 hd1 k,?_,HST.out q r' HEQ.out,(HO.out.below hb2).set (by rw[HZL.out];omega) q,?_,hbx2.setCell (by simpa using hgB) _⟩
      ·unfold Hid;rw[List.length_set];exact HZL.out
      ·unfold Hid;rw[List.take_set_of_le (Nat.le_refl _)];have h1:=congrArg (List.take k) HTK.out;rw[List.take_take,List.take_take,Nat.min_eq_left (by omega)] at h1;exact h1
      ·refine World.ownsRow.kept (HQ.out.below hb2) (kK (w:=w2) ⟨g,k,none⟩ _) (.inr (fun e=>hqne g e rfl))
    |zero=>
     have hv:=HV.out;simp only[List.drop_zero,bC] at hv;have hde:=sX hv hr0 hr1;obtain⟨rn,rfl⟩:=Int.eq_ofNat_of_zero_le hr0;have hrn:rn=n%bU:=by
      have:=hde.2;have e:((n%bU:Nat):Int)=(n:Int)%10000000000000000000:=by push_cast;rfl
      omega
     have hzv:aD aA zs=((n/bU:Nat):Int):=by rw[hde.1];push_cast;rfl
     have hrE:rn<bU:=by unfold bU;omega
     obtain⟨g',eg, -, -, -,hsh,hcl⟩:=ho.parts (by rw[HZL.out];omega);simp only[Option.some.injEq,Addr.mk.injEq] at eg;obtain⟨rfl, -, -⟩:=eg;have HZV:=Lib.hid hzv;have HRN:=Lib.hid hrn;clear hv hde hzv hrn HV HTK;go_wp2_with fail;refine(dI _ zs (nl n) cap _ HZL.out (Rd.mk hsh.lt hcl) hnc (by omega)).mono ?_;rintro e w3 ⟨rfl,rfl⟩;have k1:=lZ hz HZV.out;have r1:Cells .u64 wr g 0 (dg (n/bU)):=by rw[←k1,(nK zs).1];exact hcl.take _
     have l1:(dg (n/bU)).length≤cap:=by rw[←k1];have:=m6 zs;have:=HZL.out;omega
     have o1:OwnN wr w.heap.size (.slice (some ⟨g,0,none⟩) (trimL zs).length cap) (dg (n/bU)):=by rw[k1];exact OwnN.of hsh r1 hgB l1 hcm
     clear k1 r1 l1;have hq':wr.ownsRow w.heap.size 161 1 (.slice Aq cs.length cq) cs.length ((jA cs).map (Value.int .u64)):=by
      have:=hoq;unfold OwnN at this;rw[p8] at this;exact this
     have hws:=hbx.size;have hgl:=hsh.lt;generalize (trimL zs).length=tl at *;go_wp2_with (at_builtin;refine eJ rfl rfl 161 _ 1 8 Tryz.underlying48 eY rfl (by decide) w.heap.size (.slice Aq cs.length cq) cs.length _ rfl (hq'.alloc _) [Value.int .u64 rn] rfl (by simp) (iD _ _ _) (by simp[Value.oneCell']) (by omega) (by omega) (by simp;omega) ?_;intro q1 w4 ho1 hg1 hat1);have hb4:Below w.heap.size w w4:=(hbx.alloc (by omega) _).grown hg1 (by simp;omega) (fun a ha=>(hoq.lt a ha).1);go_wp2_with fail;go_roundg (n/bU)
     case measure=>
      have:=HK.out;have:=Nat.div_lt_self (show 0<n by omega) (show 1<bU by decide);omega
     case rel=>
      refine⟨n/bU,cs++[rn],rfl,?_,?_,?_,?_,?_,?_,Nat.le_trans (Nat.div_le_self _ _) hnx,by rw[List.length_append,List.length_singleton];omega,hb4⟩
      ·exact World.ownsRow.kept (World.ownsRow.alloc o1 _) hg1 (.inr (fun e=>hap g rfl e.symm))
      ·unfold OwnN;rw[PA,List.map_append,List.length_append,p8];exact ho1
      ·intro a ha e;have:g=a:=by simpa [Value.ownBlock] using ha
       subst this;rcases hat1 with h|h
       ·rw[h] at e;exact hap g rfl e
       ·rw[h] at e;simp at e;omega
      ·intro c hc;rcases List.mem_append.1 hc with h|h
       ·exact hcs c h
       ·rw[List.mem_singleton] at h;subst h;exact hrE
      ·unfold Hid;rw[P4,List.length_append,List.length_singleton,Nat.pow_succ,HRN.out];have h1:=Nat.div_add_mod n bU;have h2:=HX.out;generalize bU^cs.length=Q at *;have h3:Q*n=Q*(bU*(n/bU)+n%bU):=by rw[h1]
       rw[h2,h3];grind
      ·unfold Hid;by_cases h0:n/bU=0
       ·right;right;rw[List.getLast?_append];simp;have h1:=Nat.div_add_mod n bU;have h2:=HRN.out;rw[h0] at h1;omega
       ·exact .inl h0
end Go.Proofs.YtbhplgdbfmifkaaGreatDoor
