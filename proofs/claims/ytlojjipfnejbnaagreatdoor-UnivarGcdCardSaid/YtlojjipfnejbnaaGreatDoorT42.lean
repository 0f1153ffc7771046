/-
  Contracts of functions that the statement reaches, and plain laws: TraP, GcA, GcR, RefD, GcB, PlusB, CmpP, ExtA, BezP, BezQ, TraQ, ExtB, TraS, TraU, NumV, GcE, GcF, LawH.
-/
import Derived.Test.YtlojjipfnejbnaaGreatDoorS19
import Derived.Test.YtlojjipfnejbnaaGreatDoorS25
import Derived.Test.YtlojjipfnejbnaaGreatDoorS29
import Derived.Test.YtlojjipfnejbnaaGreatDoorS32
import Derived.Test.YtlojjipfnejbnaaGreatDoorS33
import Derived.Test.YtlojjipfnejbnaaGreatDoorS36
import Derived.Test.YtlojjipfnejbnaaGreatDoorS38
import Derived.Test.YtlojjipfnejbnaaGreatDoorS39
import Derived.Test.YtlojjipfnejbnaaGreatDoorS40
set_option linter.unusedVariables false
set_option linter.unusedSimpArgs false
set_option maxHeartbeats 8000000
set_option maxRecDepth 100000
namespace Go.Proofs.YtlojjipfnejbnaaGreatDoor
open Sos
def Prp (A:List Rat) (a:List Int):Prop:=A.length=a.length∧aN a∧∃c:Rat,c≠0∧∀i,cf A i=c*cf a i
theorem fJ {n:Int} (h:n≠0):(n:Rat)≠0:=fun e=>h (Rat.intCast_inj.1 e)
theorem rG (c:Rat) (l:List Int) (i:Nat):cf (l.map (fun n:Int=>c*(n:Rat))) i=c*cf l i:=nY (fun n:Int=>c*(n:Rat)) (by show c*((0:Int):Rat)=0;rw[Rat.intCast_zero,Rat.mul_zero]) l i
theorem AF {c:Rat} {l:List Int} (hc:c≠0) (h:aN l):Prp (l.map (fun n:Int=>c*(n:Rat))) l:=⟨List.length_map _,h,c,hc,rG c l⟩
theorem Prp.ne {A:List Rat} {a:List Int} (h:Prp A a) (h0:a≠[]):cf A (A.length-1)≠0:=by
 obtain⟨hl,ht,c,hc,hA⟩:=h;rw[hA,hl];have:=fJ ((cZ h0).1 ht);intro e;rcases Rat.mul_eq_zero.1 e with e|e
 ·exact hc e
 ·exact this e
theorem Prp.trim {A:List Rat} {a:List Int} (h:Prp A a):aN A:=by
 by_cases h0:a=[]
 ·have:A=[]:=List.eq_nil_of_length_eq_zero (by rw[h.1,h0];rfl);rw[this];intro x hx;simp at hx
 ·exact(cZ (fun e=>h0 (List.eq_nil_of_length_eq_zero (by rw[←h.1,e];rfl)))).2 (h.ne h0)
theorem Prp.none {A:List Rat} (h:Prp A []):A=[]:=List.eq_nil_of_length_eq_zero h.1
theorem ID {A Bq Q R:List Rat} {a b q r:List Int} {KB:Nat} {m:Int} (hA:Prp A a) (hB:Prp Bq b) (hb:b≠[]) (h:PQRes a b KB m q r) (hD:DivQ A Bq Q R):Prp R r:=by
 obtain⟨hAl, -,c,hc,hA⟩:=hA;have hBn:=hB.ne hb;obtain⟨hBl, -,d,hd,hB⟩:=hB;have hm:=fJ h.m0;have hcm:c/m≠0:=by
  rw[Rat.div_def];intro e;rcases Rat.mul_eq_zero.1 e with e|e
  ·exact hc e
  ·exact hm (by have:=Rat.inv_inv (m:Rat);rw[e,Rat.inv_zero] at this;exact this.symm)
 have hq:DivQ A Bq (q.map (fun n:Int=>(c/m/d)*(n:Rat))) (r.map (fun n:Int=>(c/m)*(n:Rat))):=by
  have tq:aN (q.map (fun n:Int=>(c/m/d)*(n:Rat))):=by
   refine(AF ?_ h.q_trim).trim;rw[Rat.div_def];intro e;rcases Rat.mul_eq_zero.1 e with e|e
   ·exact hcm e
   ·exact hd (by have:=Rat.inv_inv d;rw[e,Rat.inv_zero] at this;exact this.symm)
  refine⟨fun i=> ?_,tq,(AF hcm h.r_trim).trim,by rw[List.length_map,hBl];exact h.r_lt⟩;rw[cO (rG _ q) hB i,fF,kZ,rG,hA];have h1:((m*cf a i:Int):Rat)=((conv (cf q) (cf b) i+cf r i:Int):Rat):=by rw[h.id_ i]
  rw[Rat.intCast_mul,Rat.intCast_add,o5] at h1;generalize conv (fun k=>((cf q k:Int):Rat)) (fun k=>((cf b k:Int):Rat)) i=z at *
  have h2:c/m/d*(d*z)=c/m*z:=by rw[←Rat.mul_assoc,Rat.div_mul_cancel hd]
  rw[h2];have h3:c/m*z+c/m*((cf r i:Int):Rat)=c/m*(m*cf a i):=by rw[h1];grind
  rw[h3,←Rat.mul_assoc,Rat.div_mul_cancel hm]
 obtain⟨-,rfl⟩:=hD.unique hq hBn (by rw[hBl];exact List.length_pos_iff.2 hb);exact AF hcm h.r_trim
theorem AG {R:List Rat} {r:List Int} (h:Prp R r):Prp R (aZ r):=by
 obtain⟨hl,ht,c,hc,hR⟩:=h;by_cases h0:r=[]
 ·subst h0;exact⟨hl,j8 ht,c,hc,fun i=>by rw[hR,bS];have:aZ []=[]:=List.eq_nil_of_length_eq_zero (gA []);rw[this,bS]⟩
 ·refine⟨by rw[gA];exact hl,j8 ht,c*((cA r:Int):Rat),fun e=> ?_,fun i=> ?_⟩
  ·rcases Rat.mul_eq_zero.1 e with e|e
   ·exact hc e
   ·exact fJ (DZ ht h0) e
  ·rw[hR,←E6 r i,Rat.intCast_mul];grind
def dB (g:List Int):List Rat:=aT g (cf g (g.length-1))
def nG (p:List Rat):List Rat:=aH aG (dL [] (1/cf p (p.length-1)) p)
theorem AH {p:List Rat} {e:List Int} (h:Prp p e):nG p=dB e:=by
 by_cases h0:e=[]
 ·subst h0;rw[h.none];rfl
 ·have hn:=h.ne h0;obtain⟨hl,ht,c,hc,hp⟩:=h;have hle:=(cZ h0).1 ht;refine iJ (fC _) (mN hle ht) (fun i=> ?_);unfold nG dB;rw[dS,oG,bS,jB,hp,hp,hl];have h3:=fJ hle;rw[hp,hl] at hn;grind
theorem rH {e:List Int} (ht:aN e):Prp (dB e) e:=by
 by_cases h0:e=[]
 ·subst h0;exact⟨rfl,ht,1,by decide,fun i=>by rw[bS];show cf [] i=_;rw[bS,Rat.intCast_zero,Rat.mul_zero]⟩
 ·have hle:=fJ ((cZ h0).1 ht);refine⟨List.length_map _,ht,1/((cf e (e.length-1):Int):Rat),fun h=> ?_,fun i=>by unfold dB;rw[jB];grind⟩;have:(1:Rat)=0:=by
   have h2:1/((cf e (e.length-1):Int):Rat)*((cf e (e.length-1):Int):Rat)=1:=Rat.div_mul_cancel hle;rw[←h2,h,Rat.zero_mul]
  exact absurd this (by decide)
theorem IE {e:List Int} {K:Nat} (h:∀n∈e,nl n.natAbs≤K) (h1:1≤K):∀q∈dB e,RL K q:=fun q hq=>by
 unfold dB aT at hq;obtain⟨n,hn,rfl⟩:=List.mem_map.1 hq;exact lF n _ K (h n hn) (cI h _) h1
theorem VU {e:List Int} (h:e.length=1) (ht:aN e):dB e=dB [1]:=by
 obtain⟨x,rfl⟩:∃x,e=[x]:=List.length_eq_one_iff.1 h;have hx:=ht x rfl;have:=fJ hx;show[(x:Rat)/(x:Rat)]=[((1:Int):Rat)/((1:Int):Rat)]
 have h1:(x:Rat)/x=1:=by grind
 have h2:((1:Int):Rat)/((1:Int):Rat)=1:=by rw[Rat.intCast_one];grind
 rw[h1,h2]
def Trc (B:Nat) (a b g:List Int):Prop:=Euc B a b g∨(b=[]∧a.length=1∧g=[1])∨a.length<b.length∧Euc B b a g∧∀n∈a,nl n.natAbs≤B
theorem Trc.done {B:Nat} {a g:List Int} (h:Trc B a [] g) (ht:aN a):dB a=dB g:=by
 rcases h with h|⟨-,h,rfl⟩|⟨h, -⟩
 ·cases h with
  |done=>rfl
  |one hb=>cases hb
  |step hb=>simp at hb
 ·exact VU h ht
 ·simp at h
theorem VV {B:Nat} {A Bq Q R:List Rat} {a b g:List Int} (hA:Prp A a) (hB:Prp Bq b) (hb:b≠[]) (h:Trc B a b g) (hD:DivQ A Bq Q R):∃b',Prp R b'∧Trc B b b' g∧(∀n∈b',nl n.natAbs≤B)∧b'.length<b.length:=by
 rcases h with h|⟨h, -⟩|⟨hl,hE,hn⟩
 ·cases h with
  |done=>exact absurd rfl hb
  |one h1=>
   have hr:=hD.r_lt;rw[hB.1] at hr;have:R=[]:=List.eq_nil_of_length_eq_zero (by omega);subst this;exact⟨[],⟨rfl,(fun x hx=>by simp at hx),1,by decide,fun i=>by rw[bS,bS,Rat.intCast_zero,Rat.mul_zero]⟩,.inr (.inl ⟨rfl,h1,rfl⟩),(fun n hn=>by cases hn),by rw[h1];exact Nat.zero_lt_one⟩
  |step h1 h2 t=>exact⟨_,AG (ID hA hB hb h2 hD),.inl t,mI h2.br,by rw[gA];exact h2.r_lt⟩
 ·exact absurd h hb
 ·have hlt:A.length<Bq.length:=by rw[hA.1,hB.1];exact hl
  obtain⟨-,rfl⟩:=hD.unique (DivQ.short hlt) (hB.ne hb) (by omega);rw[nZ hA.trim];exact⟨a,hA,.inl hE,hn,hl⟩
theorem rI {A:List Rat} {D:Int} {K:Nat} (h:ComDen A D K) (t:aN A):Prp A (aI A D):=by
 have hD:=fJ (show D≠0 by have:=h.pos;omega);refine⟨(eK A D).symm,gR h.pos h.dvd t,1/(D:Rat),fun e=> ?_,fun i=> ?_⟩
 ·have h2:1/(D:Rat)*D=1:=Rat.div_mul_cancel hD;rw[e,Rat.zero_mul] at h2;exact absurd h2 (by decide)
 ·rw[lD A D h.dvd];grind
end Go.Proofs.YtlojjipfnejbnaaGreatDoor
namespace Go.Proofs.YtlojjipfnejbnaaGreatDoor
open Go.RowKit Sos
theorem IC {B:Nat} {a b g:List Int} (h:Euc B a b g) (hB:1≤B):aN a→aN b→(∀n∈a,nl n.natAbs≤B)→(∀n∈b,nl n.natAbs≤B)→aN g∧(∀n∈g,nl n.natAbs≤B)∧g.length≤max a.length b.length:=by
 induction h with
 |done a=>exact fun ta _ ka _=>⟨ta,ka,Nat.le_max_left _ _⟩
 |one hb=>exact fun _ _ _ _=>⟨cY rfl,fun n hn=>by rw[List.mem_singleton.1 hn];exact Nat.le_trans (bI (m:=1) (by unfold BN;decide)) hB,by rw[hb];exact Nat.le_max_right _ _⟩
 |step hb h t ih=>
  intro _ tb _ kb;obtain⟨h1,h2,h3⟩:=ih tb (j8 h.r_trim) kb (mI h.br);rw[gA] at h3;have:=h.r_lt;exact⟨h1,h2,by omega⟩
def GcT (A B:List Rat) (g:List Int):Prop:=∃D E,ComDen A D 8∧ComDen B E 8∧fL 43740 (aI A D) (aI B E) g
theorem GcT.ok {A B:List Rat} {g:List Int} (h:GcT A B g) (tA:aN A) (tB:aN B) (kA:∀q∈A,RL 1 q) (kB:∀q∈B,RL 1 q) (lA:A.length≤7) (lB:B.length≤7):(∃a b,Prp A a∧Prp B b∧Trc 43740 a b g)∧aN g∧(∀n∈g,nl n.natAbs≤43740)∧g.length≤7:=by
 obtain⟨D,E,hD,hE,h⟩:=h;have tx:=gR hD.pos hD.dvd tA;have ty:=gR hE.pos hE.dvd tB;have kx:=mI (K:=43740) (fun n hn=>Nat.le_trans (iK _ D 1 _ kA hD.nl_ n hn) (by decide));have ky:=mI (K:=43740) (fun n hn=>Nat.le_trans (iK _ E 1 _ kB hE.nl_ n hn) (by decide));have pA:=AG (rI hD tA);have pB:=AG (rI hE tB);have lx:=eK A D;have ly:=eK B E;unfold fL at h;split at h
 ·rename_i hlt;obtain⟨h1,h2,h3⟩:=IC h (by decide) (j8 ty) (j8 tx) ky kx;rw[gA,gA] at h3;exact⟨⟨_,_,pA,pB,.inr (.inr ⟨by rw[gA,gA];exact hlt,h,kx⟩)⟩,h1,h2,by omega⟩
 ·obtain⟨h1,h2,h3⟩:=IC h (by decide) (j8 tx) (j8 ty) kx ky;rw[gA,gA] at h3;exact⟨⟨_,_,pA,pB,.inl h⟩,h1,h2,by omega⟩
def VR (w:World) (a b:List (List UInt8)) (e:Ending) (w':World):Prop:=∃v n,e= .returned (.tuple #[v,.int .i64 n])∧Below w.heap.size w w'∧(¬(vl a=true∧vl b=true)→n=1∧StrsAt w' v [])∧(vl a=true→vl b=true→n=0∧∃g,GcT (aE a) (aE b) g∧StrsAt w' v ((dB g).map aO))
section
variable (a b:List (List UInt8)) (va vb:Value) (w:World) (hG:Glob w) (ha:StrsAt w va a) (hb':StrsAt w vb b) (hla:a.length≤7) (hlb:b.length≤7) (hsa:∀l∈a,l.length≤6) (hsb:∀l∈b,l.length≤6)
include hG ha hb' hla hlb hsa hsb
theorem VS:Calls Tryz.prog 18 #[va,vb] w (VR w a b):=by
 obtain⟨A,c,rfl,hc⟩:=ha.form;obtain⟨A',c',rfl,hc'⟩:=hb'.form;have hKa:∀q∈aE a,RL 1 q:=fU (fun l hl=>Nat.le_trans (hsa l hl) (by decide));have hKb:∀q∈aE b,RL 1 q:=fU (fun l hl=>Nat.le_trans (hsb l hl) (by decide));go_enter Tryz.func18,Tryz.ntmps18;go_wp2_with fail;refine(mJ a _ _ hG ha (by omega) (fun _ l hl=>Nat.le_trans (hsa l hl) (by decide)) 1 8 7 (fun _=>hKa) (fun _=>hla) (by decide) (by decide) (by unfold aF;decide)).mono ?_;rintro e1 w1 ⟨v1,vd1,xs,D,rfl,hx,hD,hvx,hb1⟩;obtain⟨A1,c1,rfl,hc1⟩:=hx.form;obtain⟨s1,B1,k1,d1,rfl⟩:=hD.form;obtain⟨w2,e2,hA2,X⟩:=bA w1 [.bool s1,.slice B1 k1 d1] 53;replace hx:=hx.below hA2;have hb:=aB hb1 hA2;have cX:=X.k2;go_wp2_with fail;(try rw[e2]);clear e2;refine(mJ b _ _ (hG.below hb) (hb'.below hb) (by omega) (fun _ l hl=>Nat.le_trans (hsb l hl) (by decide)) 1 8 7 (fun _=>hKb) (fun _=>hlb) (by decide) (by decide) (by unfold aF;decide)).mono ?_;rintro e3 w3 ⟨v3,vd3,ys,E,rfl,hy,hE,hvy,hb3⟩;obtain⟨A3,c3,rfl,hc3⟩:=hy.form;obtain⟨s3,B3,k3,d3,rfl⟩:=hE.form;replace X:=X.below hb3;replace hx:=hx.below hb3;replace hb:=aB hb hb3;obtain⟨w4,e4,hA4,Y⟩:=bA w3 [.bool s3,.slice B3 k3 d3] 53;replace X:=X.below hA4;replace hx:=hx.below hA4;replace hy:=hy.below hA4;replace hb:=aB hb hA4;clear cX;have cX:=X.k2;cases hva:vl a with
 |false=>
  have HV:Hid (¬(vl a=true∧vl b=true)):=by unfold Hid;rw[hva];simp
  clear hvx hvy hva;go_wp2_with fail;(try rw[e4]);(try clear e4);go_ret2;exact⟨_,_,rfl,hb,(fun _=>⟨rfl,StrsAt.nil _ _ _⟩),(fun h1 h2=>absurd (And.intro h1 h2) HV.out)⟩
 |true=>
  cases hvb:vl b with
  |false=>
   have HV:Hid (¬(vl a=true∧vl b=true)):=by unfold Hid;rw[hvb];simp
   clear hvx hvy hva hvb;go_wp2_with fail;(try rw[e4]);(try clear e4);go_ret2;exact⟨_,_,rfl,hb,(fun _=>⟨rfl,StrsAt.nil _ _ _⟩),(fun h1 h2=>absurd (And.intro h1 h2) HV.out)⟩
  |true=>
   obtain⟨rfl,hcx⟩:=hvx hva;obtain⟨rfl,hcy⟩:=hvy hvb;have HV:Hid (vl a=true∧vl b=true):=⟨hva,hvb⟩;have tx:=gR hcx.pos hcx.dvd (fD hva).2.2;have ty:=gR hcy.pos hcy.dvd (fD hvb).2.2;have bx:=iK _ D 1 _ hKa hcx.nl_;have bY:=iK _ E 1 _ hKb hcy.nl_;have lx7:(aI (aE a) D).length≤7:=by rw[eK,dD];exact hla
   have ly7:(aI (aE b) E).length≤7:=by rw[eK,dD];exact hlb
   have hpw:∀x,x≤7→∀y,y≤7→(9+1)*(x-y+2)*3^y≤43740:=by decide
   have hgc:=fun W v u hG h1 h2=>DY (aI (aE a) D) (aI (aE b) E) v u W hG h1 h2 tx ty 9 43740 bx bY (by decide) (fun _=>hpw _ ly7 _ lx7) (fun _=>hpw _ lx7 _ ly7) (by unfold aF;decide) (by omega) (by omega);have HGT:Hid (∀g,fL 43740 (aI (aE a) D) (aI (aE b) E) g→GcT (aE a) (aE b) g∧aN g∧(∀n∈g,nl n.natAbs≤43740)∧g.length≤7):=fun g h=>⟨⟨D,E,hcx,hcy,h⟩,(GcT.ok ⟨D,E,hcx,hcy,h⟩ (fD hva).2.2 (fD hvb).2.2 hKa hKb (by rw[dD];exact hla) (by rw[dD];exact hlb)).2⟩;clear hvx hvy hva hvb hcx hcy tx ty bx bY lx7 ly7 hpw hKa hKb hsa hsb;generalize aI (aE a) D=NA at *;generalize aI (aE b) E=NB at *;go_wp2_with fail;(try rw[e4]);clear e4;refine(hgc _ _ _ (hG.below hb) hx hy).mono ?_;rintro e5 w5 ⟨v5,g,rfl,h5,hT,hb5⟩;obtain⟨hgt,htg,kg,lg⟩:=HGT.out g hT;obtain⟨A5,c5,rfl,hc5⟩:=h5.form;replace hb:=aB hb hb5;have HG:=Lib.hid hgt;by_cases h0:g.length=0
   ·have r0:((g.length:Int)==0)=true:=by rw[h0];rfl
    have HM:Hid ((dB g).map aO=[]):=by
     have:g=[]:=List.eq_nil_of_length_eq_zero h0;rw[this];rfl
    clear h0 hgc hT hgt;go_wp2_with fail;go_ret2;exact⟨_,_,rfl,hb,(fun h=>absurd HV.out h),(fun _ _=>⟨rfl,g,HG.out,by rw[HM.out];exact StrsAt.nil _ _ _⟩)⟩
   ·have r0:((g.length:Int)==0)=false:=by simpa using h0
    have hmo:=fun W hG h=>tL g (.slice A5 g.length c5) W hG h (fun e=>h0 (by rw[e];rfl)) 43740 kg (by decide) (by decide) (by omega);clear h0 hgc hT hgt;go_wp2_with fail;refine(hmo _ (hG.below hb) h5).mono ?_;rintro e6 w6 ⟨v6,rfl,h6,hb6⟩;go_wp2_with fail;go_ret2;exact⟨_,_,rfl,aB hb hb6,(fun h=>absurd HV.out h),(fun _ _=>⟨rfl,g,HG.out,h6⟩)⟩
theorem VT (hv:¬(vl a=true∧vl b=true)):Calls Tryz.prog 29 #[va,vb] w fun e w'=>e= .returned (.tuple #[.slice none 0 0,.slice none 0 0,.slice none 0 0,.int .i64 1])∧Below w.heap.size w w':=by
 obtain⟨A,c,rfl,hc⟩:=ha.form;obtain⟨A',c',rfl,hc'⟩:=hb'.form;have hKa:∀q∈aE a,RL 1 q:=fU (fun l hl=>Nat.le_trans (hsa l hl) (by decide));have hKb:∀q∈aE b,RL 1 q:=fU (fun l hl=>Nat.le_trans (hsb l hl) (by decide));go_enter Tryz.func29,Tryz.ntmps29;go_wp2_with fail;refine(mJ a _ _ hG ha (by omega) (fun _ l hl=>Nat.le_trans (hsa l hl) (by decide)) 1 8 7 (fun _=>hKa) (fun _=>hla) (by decide) (by decide) (by unfold aF;decide)).mono ?_;rintro e1 w1 ⟨v1,vd1,xs,D,rfl,hx,hD,hvx,hb1⟩;obtain⟨A1,c1,rfl,hc1⟩:=hx.form;obtain⟨s1,B1,k1,d1,rfl⟩:=hD.form;obtain⟨w2,e2,hA2,X⟩:=bA w1 [.bool s1,.slice B1 k1 d1] 53;replace hx:=hx.below hA2;have hb:=aB hb1 hA2;have cX:=X.k2;go_wp2_with fail;(try rw[e2]);clear e2;refine(mJ b _ _ (hG.below hb) (hb'.below hb) (by omega) (fun _ l hl=>Nat.le_trans (hsb l hl) (by decide)) 1 8 7 (fun _=>hKb) (fun _=>hlb) (by decide) (by decide) (by unfold aF;decide)).mono ?_;rintro e3 w3 ⟨v3,vd3,ys,E,rfl,hy,hE,hvy,hb3⟩;obtain⟨A3,c3,rfl,hc3⟩:=hy.form;obtain⟨s3,B3,k3,d3,rfl⟩:=hE.form;replace X:=X.below hb3;replace hx:=hx.below hb3;replace hb:=aB hb hb3;obtain⟨w4,e4,hA4,Y⟩:=bA w3 [.bool s3,.slice B3 k3 d3] 53;replace X:=X.below hA4;replace hx:=hx.below hA4;replace hy:=hy.below hA4;replace hb:=aB hb hA4;clear cX;have cX:=X.k2;cases hva:vl a with
 |false=>
  clear hvx hvy hva hv;go_wp2_with fail;(try rw[e4]);(try clear e4);exact bodyPost_ret (v:= .tuple #[.slice none 0 0,.slice none 0 0,.slice none 0 0,.int .i64 1]) (by simp[results,Tryz.results29,go_sem]) rfl ⟨rfl,hb⟩
 |true=>
  cases hvb:vl b with
  |false=>
   clear hvx hvy hva hvb hv;go_wp2_with fail;(try rw[e4]);(try clear e4);exact bodyPost_ret (v:= .tuple #[.slice none 0 0,.slice none 0 0,.slice none 0 0,.int .i64 1]) (by simp[results,Tryz.results29,go_sem]) rfl ⟨rfl,hb⟩
  |true=>exact absurd ⟨hva,hvb⟩ hv
end
theorem AI (p:List Rat) (v:Value) (w:World) (hv:QsAt w v p) (K:Nat) (hK:∀q∈p,RL K q) (h1:1≤K) (h0:p≠[]→cf p (p.length-1)≠0) (hl:p.length≤1024) (hK2:K≤60000000000):
  Calls Tryz.prog 103 #[v] w (pH w (nG p)):=by
 obtain⟨A,c,rfl,hc⟩:=hv.form;go_enter Tryz.func103,Tryz.ntmps103;by_cases hp:p.length=0
 ·have HM:Hid (nG p=[]):=by
   have:p=[]:=List.eq_nil_of_length_eq_zero hp;rw[this];rfl
  have r0:((p.length:Int)==0)=true:=by rw[hp];rfl
  clear hp;go_wp2_with fail;go_ret;exact⟨_,rfl,by rw[HM.out];exact QsAt.nil _,Below.refl _ _⟩
 ·have r0:((p.length:Int)==0)=false:=by simpa using hp
  obtain⟨l,hll⟩:∃l,p.length-1=l:=⟨_,rfl⟩;have hli:(p.length:Int)-1=(l:Int):=by omega
  have hlp:l<p.length:=by omega
  have hl0:(0:Int)≤(l:Int):=by omega
  have hl1:(l:Int)<(p.length:Int):=by omega
  have hwl:IntKind.i64.wrap (l:Int)=(l:Int):=IntWalk.i64_in _ ⟨by omega,by omega⟩;have hx0:=h0 (fun e=>hp (by rw[e];rfl));obtain⟨bb,s3,A3,k3,c3,s4,A4,k4,c4,rfl,hbl,g0,hi⟩:=hv.cell hlp;have HM:Hid (aH aG (dL [] (1/cf p l) p)=nG p):=by unfold Hid nG;rw[hll]
  rw[hll] at hx0;have hxR:RL K (cf p l):=fV hK (eO h1) l;have h1R:RL K 1:=bV (AA (n:=1) (by decide)) h1;have hr1:∀W,Calls Tryz.prog 99 #[.int .i64 1] W (fR W 1):=fun W=>GU 1 W (by decide);have hdv:=fun W u v h h'=>uL 1 (cf p l) u v W h h' K h1R hxR (by omega) hx0;have hpl:=fun W u v x h h' h''=>qZ [] (1/cf p l) p u v x W h h' h'' K (K+K) (fun q hq=>by cases hq) hK (jX h1R hxR) h1 (by simp) hl (by omega);rw[HM.out] at hpl;unfold fR at hr1 hdv;clear hx0 hxR hp hll h1R;generalize cf p l=x at *;generalize 1/x=y at *;go_wp2_with fail
  go_region_held3 (fun w'=>R4 w' bb (l*4) (.bool s3) (.slice A3 k3 c3) (.bool s4) (.slice A4 k4 c4))
   (with_reducible exact g0.up hbl)
   (first
    |(go_at_call 99;(with_reducible refine(hr1 _).mono ?_);rintro e5 w5 ⟨v5,rfl,h5,hb5⟩;obtain⟨s5,A5,k5,c5,s6,A6,k6,c6,rfl⟩:=h5.form;have:=St.mk hb5)
    |(go_at_call 128;(with_reducible refine(hdv _ _ _ h5.up hi.up).mono ?_);rintro e7 w7 ⟨v7,rfl,h7,hb7⟩;obtain⟨s7,A7,k7,c7,s8,A8,k8,c8,rfl⟩:=h7.form;have:=St.mk hb7)
    |(go_at_call 82;(with_reducible refine(hpl _ _ _ _ (QsAt.nil _) h7.up hv.up).mono ?_);rintro e9 w9 ⟨v9,rfl,h9,hb9⟩;have:=St.mk hb9))
  all_goals (
   go_wp2_with fail;go_ret;exact⟨_,rfl,h9,Up.out (a:=w) (b:=w9)⟩)
theorem IF (Tr:List Int→List Int→List Int→Prop) (Bd:Nat) (hdone:∀{a g:List Int},Tr a [] g→aN a→dB a=dB g) (hnext:∀{A Bq Q R:List Rat} {a b g:List Int},Prp A a→Prp Bq b→b≠[]→Tr a b g→DivQ A Bq Q R→∃b',Prp R b'∧Tr b b' g∧(∀n∈b',nl n.natAbs≤Bd)∧b'.length<b.length) (A Bq:List Rat) (a b g:List Int) (va vb:Value) (w:World) (hA:QsAt w va A) (hB:QsAt w vb Bq) (pA:Prp A a) (pB:Prp Bq b) (T:Tr a b g) (K:Nat) (hKA:∀q∈A,RL K q) (hKB:∀q∈Bq,RL K q) (hBK:Bd≤K) (hBd:1≤Bd) (hla:A.length≤8) (hlb:Bq.length≤8) (hK:K≤10000000):
  Calls Tryz.prog 74 #[va,vb] w (pH w (dB g)):=by
 go_enter Tryz.func74,Tryz.ntmps74;go_wp2_with fail;go_loopg [0,1] Bq.length (fun k v0 v1 wr=>∃(A Bq:List Rat) (a b:List Int),Hid (Bq.length=k)∧QsAt wr v0 A∧QsAt wr v1 Bq∧Hid (Prp A a∧Prp Bq b∧Tr a b g)∧Hid ((∀q∈A,RL K q)∧∀q∈Bq,RL K q)∧A.length≤8∧Bq.length≤8∧Below w.heap.size w wr)
 case atStart=>exact⟨A,Bq,a,b,rfl,hA,hB,⟨pA,pB,T⟩,⟨hKA,hKB⟩,hla,hlb,Below.refl _ _⟩
 case round=>
  clear hA hB pA pB T hKA hKB hla hlb;clear A Bq a b;obtain⟨A,Bq,a,b,HL,hA,hB,HP,HK,hla,hlb,hb⟩:=hrel;generalize wr=wx at *;obtain⟨A1,c1,rfl,hc1⟩:=hA.form;obtain⟨A2,c2,rfl,hc2⟩:=hB.form;cases gk with
  |zero=>
   have q0:¬(0:Int)<(Bq.length:Int):=by have:=HL.out;omega
   have HM:Hid (nG A=dB g):=by
    have hbe:b=[]:=List.eq_nil_of_length_eq_zero (by rw[←HP.out.2.1.1];exact HL.out);have h3:=HP.out.2.2;rw[hbe] at h3;exact(AH HP.out.1).trans (hdone h3 HP.out.1.2.1)
   have hmo:=fun W h=>AI A (.slice A1 A.length c1) W h K HK.out.1 (by omega) (fun e=>HP.out.1.ne (fun e'=>e (List.eq_nil_of_length_eq_zero (by rw[HP.out.1.1,e'];rfl)))) (by omega) (by omega);rw[HM.out] at hmo;go_wp2_with fail;refine(hmo _ hA).mono ?_;rintro e3 w3 ⟨v3,rfl,h3,hb3⟩;go_wp2_with fail;go_ret;exact⟨_,rfl,h3,aB hb hb3⟩
  |succ k=>
   have q0:(0:Int)<(Bq.length:Int):=by have:=HL.out;omega
   have hBl:1≤Bq.length:=by omega
   have hb0:b≠[]:=fun e=>by
    have h:=HP.out.2.1.1;rw[e] at h;have h':Bq.length=0:=h;omega
   have hdE:=nD K A.length;have hpw:2^A.length≤2^8:=Nat.pow_le_pow_right (by decide) hla;have hmu:=Nat.mul_le_mul hpw (show 3*K+1≤30000001 by omega);have hdv:=fun W u v h h'=>rD A Bq u v W h h' K HK.out.1 HK.out.2 (by omega) (by omega) hBl (HP.out.2.1.ne hb0) 16000000000 (by omega) (by decide);have hmo:=fun (R:List Rat) W v h hR hl h0=>AI R v W h 16000000000 hR (by decide) h0 hl (by decide);clear hdE hpw hmu;go_wp2_with fail;refine(hdv _ _ _ hA hB).mono ?_;rintro e4 w4 ⟨v4,u4,Q,R,rfl,h4,i4,hDQ,hQB,hRB,hQl,hRl,hb4⟩;obtain⟨b',hR',hT',hn',hl'⟩:=hnext HP.out.1 HP.out.2.1 hb0 HP.out.2.2 hDQ;have hR0:R≠[]→cf R (R.length-1)≠0:=fun e=>hR'.ne (fun e'=>e (List.eq_nil_of_length_eq_zero (by rw[hR'.1,e'];rfl)));replace hB:=hB.below hb4;replace hb:=aB hb hb4;have HM:=Lib.hid (AH hR');have HN:Hid (Prp Bq b∧Prp (dB b') b'∧Tr b b' g):=⟨HP.out.2.1,rH hR'.2.1,hT'⟩;have hlm:(dB b').length=b'.length:=(rH hR'.2.1).1;have hlb':b'.length<Bq.length:=by rw[HP.out.2.1.1];exact hl'
   have HKN:Hid ((∀q∈Bq,RL K q)∧∀q∈dB b',RL K q):=⟨HK.out.2,IE (fun n hn=>Nat.le_trans (hn' n hn) hBK) (by omega)⟩;clear hdv hDQ hQB hA hR' hT' hn' hl' HP HK h4;go_wp2_with fail;refine(hmo R _ _ i4 hRB (by omega) hR0).mono ?_;rintro e5 w5 ⟨v5,rfl,h5,hb5⟩;rw[HM.out] at h5;replace hB:=hB.below hb5;replace hb:=aB hb hb5;clear hmo i4 hRB hR0;go_wp2_with fail;go_roundg b'.length
   case rel=>exact⟨Bq,dB b',b,b',by unfold Hid;exact hlm,hB,h5,HN,HKN,hlb,by omega,hb⟩
   case measure=>have:=HL.out;omega
theorem VW (Bd:Nat) (A Bq:List Rat) (a b g:List Int) (va vb:Value) (w:World) (hA:QsAt w va A) (hB:QsAt w vb Bq) (pA:Prp A a) (pB:Prp Bq b) (T:Trc Bd a b g) (K:Nat) (hKA:∀q∈A,RL K q) (hKB:∀q∈Bq,RL K q) (hBK:Bd≤K) (hBd:1≤Bd) (hla:A.length≤8) (hlb:Bq.length≤8) (hK:K≤10000000):
  Calls Tryz.prog 74 #[va,vb] w (pH w (dB g)):=
 IF (Trc Bd) Bd (fun h t=>h.done t) (fun hA hB hb h hD=>VV hA hB hb h hD) A Bq a b g va vb w hA hB pA pB T K hKA hKB hBK hBd hla hlb hK
theorem RS {f:Nat→Rat} {K:Nat} (h:∀k,RL (2*K) (f k)) (n:Nat):RL (1+n*(2*K+1)) (aU f n):=by
 induction n with
 |zero=>exact eO (by omega)
 |succ n ih=>exact bV (uP ih (h n)) (by rw[Nat.succ_mul n];omega)
theorem yF {x y:List Rat} {K:Nat} (hx:∀q∈x,RL K q) (hy:∀q∈y,RL K q) (h1:1≤K):∀q∈bB x y,RL (1+(x.length+y.length)*(2*K+1)) q:=fun q hq=>by
 unfold bB at hq;split at hq
 ·cases hq
 ·obtain⟨i,hi,rfl⟩:=List.mem_map.1 hq;have hi':=List.mem_range.1 hi;refine bV (RS (K:=K) (fun k=>bV (iB (fV hx (eO h1) _) (fV hy (eO h1) _)) (by omega)) (i+1)) ?_;have:=Nat.mul_le_mul_right (2*K+1) (show i+1≤x.length+y.length by omega);omega
def FL (w:World) (a b:List (List UInt8)) (e:Ending) (w':World):Prop:=∃v u,e= .returned (.tuple #[v,u,.bool (vl a&&vl b)])∧QsAt w' v (r6 a)∧QsAt w' u (r6 b)∧Below w.heap.size w w'
section
variable (a b:List (List UInt8)) (va vb:Value) (w:World) (ha:StrsAt w va a) (hb':StrsAt w vb b) (hla:a.length≤1000) (hlb:b.length≤1000) (hca:∀l∈a,l.length≤1073741824) (hcb:∀l∈b,l.length≤1073741824) (K:Nat) (hKa:∀q∈aE a,RL K q) (hKb:∀q∈aE b,RL K q) (hK1:1≤K) (hK:K≤1048576)
include ha hb' hla hlb hca hcb hKa hKb hK1 hK
omit hK1 in
theorem pG:Calls Tryz.prog 48 #[va,vb] w (FL w a b):=by
 obtain⟨A,c,rfl,hc⟩:=ha.form;obtain⟨A',c',rfl,hc'⟩:=hb'.form;go_enter Tryz.func48,Tryz.ntmps48;go_wp2_with fail;refine(FP a _ _ ha (by omega) hca (fun q hq=>bV (hKa q hq) (by omega))).mono ?_;rintro e1 w1 ⟨v1,rfl,h1,hb1⟩;go_wp2_with fail;refine(FP b _ _ (hb'.below hb1) (by omega) hcb (fun q hq=>bV (hKb q hq) (by omega))).mono ?_;rintro e2 w2 ⟨v2,rfl,h2,hb2⟩;replace h1:=h1.below hb2;replace hb1:=aB hb1 hb2;unfold FL;cases hva:vl a with
 |false=>
  go_wp2_with fail;exact bodyPost_ret (v:= .tuple #[v1,v2,.bool false]) (by simp[results,Tryz.results48,go_sem]) rfl ⟨_,_,by rw[hva];rfl,h1,h2,hb1⟩
 |true=>
  go_wp2_with fail;exact bodyPost_ret (v:= .tuple #[v1,v2,.bool (vl b)]) (by simp[results,Tryz.results48,go_sem]) rfl ⟨_,_,by rw[hva];rfl,h1,h2,hb1⟩
def jD (w:World) (a:List (List UInt8)) (c:List UInt8) (b:List (List UInt8)):Ending→World→Prop:=if vl a=true∧vl b=true∧rd c=true then dW w (aH aG (dL (aE a) ((aR c).getD 0) (aE b))) else gY w [] 1
theorem FM (c:List UInt8) (hcl:c.length≤1073741824) (kc:RL K ((aR c).getD 0)):Calls Tryz.prog 32 #[va,.string ⟨c.toArray⟩,vb] w (jD w a c b):=by
 have hpa:=pG a b va vb w ha hb' hla hlb hca hcb K hKa hKb hK;obtain⟨A,ca,rfl,hc⟩:=ha.form;obtain⟨A',cb,rfl,hc'⟩:=hb'.form;have hal:=dD a;have hbl:=dD b;go_enter Tryz.func32,Tryz.ntmps32;go_wp2_with fail;refine hpa.mono ?_;rintro e1 w1 ⟨v1,u1,rfl,h1,i1,hb1⟩;clear hpa;go_wp2_with fail;refine(FX c _ hcl).mono ?_;rintro e2 w2 ⟨v2,q2,rfl,h2,hq2,hb2⟩;obtain⟨s2,A2,k2,c2,s3,A3,k3,c3,rfl⟩:=h2.form;obtain⟨W3,eW3,hb3,X⟩:=bA w2 [.bool s2,.slice A2 k2 c2,.bool s3,.slice A3 k3 c3] 96;have cM:=X.g4;replace hb2:=aB hb2 hb3;replace h1:=h1.below hb2;replace i1:=i1.below hb2;replace h2:=h2.below hb3;replace hb1:=aB hb1 hb2;by_cases hv:(vl a&&vl b)=true
 ·obtain⟨hva,hvb⟩:vl a=true∧vl b=true:=by simpa using hv
  rw[hv];cases hr:rd c with
  |false=>
   have HA:Hid (¬(vl a=true∧vl b=true∧rd c=true)):=by unfold Hid;rw[hr];simp
   clear hv hva hvb hr h1 i1 hq2;go_wp2_with fail;(try rw[eW3]);go_ret2;unfold jD;rw[if_neg HA.out];exact⟨_,rfl,StrsAt.nil _ _ _,hb1⟩
  |true=>
   have HA:Hid (vl a=true∧vl b=true∧rd c=true):=⟨hva,hvb,hr⟩;rw[jE hva] at h1;rw[jE hvb] at i1;have hq:q2=(aR c).getD 0:=by
    obtain⟨r,hr'⟩:=Option.isSome_iff_exists.1 hr;rw[hr'];exact hq2 r hr'
   rw[hq] at h2;have hpl:=fun W u v x h h' h''=>qZ (aE a) ((aR c).getD 0) (aE b) u v x W h h' h'' K K hKa hKb kc hK1 (by omega) (by omega) (by omega)
   have hre:=fun W v h=>FQ (aH aG (dL (aE a) ((aR c).getD 0) (aE b))) v W h (2*K+K+1) (fun q hq=>by
    obtain⟨j,_,rfl⟩:=List.mem_map.1 (fQ hq);exact zU hKa hKb kc hK1 j) (by omega) (Nat.le_trans (cK _ _) (by rw[zO];omega))
   obtain⟨T,hT⟩:∃T,aH aG (dL (aE a) ((aR c).getD 0) (aE b))=T:=⟨_,rfl⟩;rw[hT] at hpl hre;have HT:=Lib.hid hT;clear hT hv hva hvb hr hq hq2 hal hbl;go_wp2_with fail;(try rw[eW3]);clear eW3;refine(hpl _ _ _ _ h1 h2 i1).mono ?_;rintro e4 w4 ⟨v4,rfl,h4,hb4⟩;replace hb1:=aB hb1 hb4;clear hpl;go_wp2_with fail;refine(hre _ _ h4).mono ?_;rintro e5 w5 ⟨v5,he5,h5,hb5⟩;generalize hec:(if T.length≤65 then (0:Int) else 2)=ec at he5;subst he5;have HEC:=Lib.hid hec;clear hec;go_wp2_with fail;go_ret2;unfold jD;rw[if_pos HA.out,HT.out];unfold dW;rw[HEC.out];exact⟨_,rfl,h5,aB hb1 hb5⟩
 ·have HA:Hid (¬(vl a=true∧vl b=true∧rd c=true)):=fun h=>hv (by rw[h.1,h.2.1];rfl);have hv':(vl a&&vl b)=false:=by simpa using hv
  rw[hv'];clear hv hv' h1 i1 hq2;go_wp2_with fail;(try rw[eW3]);go_ret2;unfold jD;rw[if_neg HA.out];exact⟨_,rfl,StrsAt.nil _ _ _,hb1⟩
theorem RT:Calls Tryz.prog 35 #[va,vb] w (jT w a b):=by
 have hpa:=pG a b va vb w ha hb' hla hlb hca hcb K hKa hKb hK;obtain⟨A,ca,rfl,hc⟩:=ha.form;obtain⟨A',cb,rfl,hc'⟩:=hb'.form;have hal:=dD a;have hbl:=dD b;go_enter Tryz.func35,Tryz.ntmps35;go_wp2_with fail;refine hpa.mono ?_;rintro e1 w1 ⟨v1,u1,rfl,h1,i1,hb1⟩;clear hpa;by_cases hv:(vl a&&vl b)=true
 ·obtain⟨hva,hvb⟩:vl a=true∧vl b=true:=by simpa using hv
  rw[hv];have HA:Hid (vl a=true∧vl b=true):=⟨hva,hvb⟩;rw[jE hva] at h1;rw[jE hvb] at i1;have hm1:=Nat.mul_le_mul_right (2*K+1) hla;have hm2:=Nat.mul_le_mul_right (2*K+1) (show a.length+b.length≤2000 by omega);have htm:=fun W u v h h'=>yG (aE a) (aE b) u v W h h' K hKa hKb hK1 (by omega) (by omega) (by rw[hal];omega);have hre:=fun W v h=>FQ (aH aG (bB (aE a) (aE b))) v W h _ (fun q hq=>yF hKa hKb hK1 q (fQ hq)) (by rw[hal,hbl];omega) (Nat.le_trans (cK _ _) (by unfold bB;split<;>simp;omega));obtain⟨T,hT⟩:∃T,aH aG (bB (aE a) (aE b))=T:=⟨_,rfl⟩;rw[hT] at htm hre;have HT:=Lib.hid hT;clear hT hv hva hvb hal hbl hm1 hm2;go_wp2_with fail;refine(htm _ _ _ h1 i1).mono ?_;rintro e4 w4 ⟨v4,rfl,h4,hb4⟩;replace hb1:=aB hb1 hb4;clear htm;go_wp2_with fail;refine(hre _ _ h4).mono ?_;rintro e5 w5 ⟨v5,he5,h5,hb5⟩;generalize hec:(if T.length≤65 then (0:Int) else 2)=ec at he5;subst he5;have HEC:=Lib.hid hec;clear hec;go_wp2_with fail;go_ret2;unfold jT;rw[if_pos HA.out,HT.out];unfold dW;rw[HEC.out];exact⟨_,rfl,h5,aB hb1 hb5⟩
 ·have HA:Hid (¬(vl a=true∧vl b=true)):=fun h=>hv (by rw[h.1,h.2];rfl);have hv':(vl a&&vl b)=false:=by simpa using hv
  rw[hv'];clear hv hv' h1 i1;go_wp2_with fail;go_ret2;unfold jT;rw[if_neg HA.out];exact⟨_,rfl,StrsAt.nil _ _ _,hb1⟩
def RU (w:World) (a b:List (List UInt8)) (e:Ending) (w':World):Prop:=
 ∃v u n Q R,e= .returned (.tuple #[v,u,.int .i64 n])∧StrsAt w' v (Q.map aO)∧StrsAt w' u (R.map aO)∧Below w.heap.size w w'∧
  (¬(vl a=true∧vl b=true)→n=1∧Q=[]∧R=[])∧(vl a=true→vl b=true→b=[]→n=5∧Q=[]∧R=[])∧(vl a=true→vl b=true→b≠[]→n=0∧DivQ (aE a) (aE b) Q R)
theorem RV (h20:a.length≤16) (hK':K≤1024):Calls Tryz.prog 37 #[va,vb] w (RU w a b):=by
 have hpa:=pG a b va vb w ha hb' hla hlb hca hcb K hKa hKb hK;obtain⟨A,ca,rfl,hc⟩:=ha.form;obtain⟨A',cb,rfl,hc'⟩:=hb'.form;have hal:=dD a;have hbl:=dD b;go_enter Tryz.func37,Tryz.ntmps37;go_wp2_with fail;refine hpa.mono ?_;rintro e1 w1 ⟨v1,u1,rfl,h1,i1,hb1⟩;clear hpa;by_cases hv:(vl a&&vl b)=true
 ·obtain⟨hva,hvb⟩:vl a=true∧vl b=true:=by simpa using hv
  rw[hv];rw[jE hva] at h1;rw[jE hvb] at i1;obtain⟨A3,c3,rfl,hc3⟩:=h1.form;obtain⟨A4,c4,rfl,hc4⟩:=i1.form;rw[hal] at h1⊢;rw[hbl] at i1⊢;by_cases h0:b.length=0
  ·have r0:((b.length:Int)==0)=true:=by rw[h0];rfl
   have HB:Hid (b=[]):=List.eq_nil_of_length_eq_zero h0;have HA:Hid (vl a=true∧vl b=true):=⟨hva,hvb⟩;clear hv hva hvb h1 i1 h0;go_wp2_with fail;refine bodyPost_ret (v:= .tuple #[.slice none 0 0,.slice none 0 0,.int .i64 5]) (by simp[results,Tryz.results37,go_sem]) rfl ⟨_,_,5,[],[],rfl,StrsAt.nil _ _ _,StrsAt.nil _ _ _,hb1,(fun h=>absurd HA.out h),(fun _ _ _=>⟨rfl,rfl,rfl⟩),(fun _ _ h=>absurd HB.out h)⟩
  ·have r0:((b.length:Int)==0)=false:=by simpa using h0
   have HB:Hid (b≠[]):=fun h=>h0 (by rw[h];rfl);have HA:Hid (vl a=true∧vl b=true):=⟨hva,hvb⟩;have htb:=(fD hvb).2.2;have hne:aE b≠[]:=fun h=>h0 (by rw[←hbl,h];rfl);have hB:=(cZ hne).1 htb;have hdE:=nD K (aE a).length;have hpw:2^(aE a).length≤2^16:=Nat.pow_le_pow_right (by decide) (by omega);have hmu:=Nat.mul_le_mul hpw (show 3*K+1≤4096 by omega);have hdv:=fun W u v h h'=>rD (aE a) (aE b) u v W h h' K hKa hKb hK1 (by omega) (by omega) hB 549755813 (by omega) (by decide);have htx:=fun W v Q (hQ:∀q∈Q,RL 549755813 q) (hl:Q.length≤1000) h=>oB Q v W h 549755813 hQ (by decide) (by omega);clear hv hva hvb h0 htb hne hB hdE hpw hmu;go_wp2_with fail;refine(hdv _ _ _ h1 i1).mono ?_;rintro e2 w2 ⟨v2,u2,Q,R,rfl,h2,i2,hDQ,hQB,hRB,hQl,hRl,hb2⟩;replace hb1:=aB hb1 hb2;have HDQ:=Lib.hid hDQ;clear hdv h1 i1 hDQ;go_wp2_with fail;refine(htx _ _ Q hQB (by omega) h2).mono ?_;rintro e3 w3 ⟨v3,rfl,h3,hb3⟩;replace hb1:=aB hb1 hb3;replace i2:=i2.below hb3;go_wp2_with fail;refine(htx _ _ R hRB (by omega) i2).mono ?_;rintro e4 w4 ⟨v4,rfl,h4,hb4⟩;replace h3:=h3.below hb4;replace hb1:=aB hb1 hb4;clear htx;go_wp2_with fail;refine bodyPost_ret (v:= .tuple #[v3,v4,.int .i64 0]) (by simp[results,Tryz.results37,go_sem]) rfl ⟨_,_,0,Q,R,rfl,h3,h4,hb1,(fun h=>absurd HA.out h),(fun _ _ h=>absurd h HB.out),(fun _ _ _=>⟨rfl,HDQ.out⟩)⟩
 ·have HA:Hid (¬(vl a=true∧vl b=true)):=fun h=>hv (by rw[h.1,h.2];rfl);have hv':(vl a&&vl b)=false:=by simpa using hv
  rw[hv'];clear hv hv' h1 i1;go_wp2_with fail;refine bodyPost_ret (v:= .tuple #[.slice none 0 0,.slice none 0 0,.int .i64 1]) (by simp[results,Tryz.results37,go_sem]) rfl ⟨_,_,1,[],[],rfl,StrsAt.nil _ _ _,StrsAt.nil _ _ _,hb1,(fun _=>⟨rfl,rfl,rfl⟩),(fun h1 h2 _=>absurd ⟨h1,h2⟩ HA.out),(fun h1 h2 _=>absurd ⟨h1,h2⟩ HA.out)⟩
end
def rF (w:World) (a b:List (List UInt8)) (g:List Int):Ending→World→Prop:=if vl a=true∧vl b=true then gY w ((dB g).map aO) 0 else gY w [] 1
theorem VQ (a b:List (List UInt8)) (g:List Int) (va vb:Value) (w:World) (ha:StrsAt w va a) (hb':StrsAt w vb b) (hla:a.length≤7) (hlb:b.length≤7) (hsa:∀l∈a,l.length≤6) (hsb:∀l∈b,l.length≤6) (hT:vl a=true→vl b=true→GcT (aE a) (aE b) g):
  Calls Tryz.prog 28 #[va,vb] w (rF w a b g):=by
 have hKa:∀q∈aE a,RL 1 q:=fU (fun l hl=>Nat.le_trans (hsa l hl) (by decide));have hKb:∀q∈aE b,RL 1 q:=fU (fun l hl=>Nat.le_trans (hsb l hl) (by decide));have hpa:=pG a b va vb w ha hb' (by omega) (by omega) (fun l hl=>Nat.le_trans (hsa l hl) (by decide)) (fun l hl=>Nat.le_trans (hsb l hl) (by decide)) 1 hKa hKb (by decide);obtain⟨A,ca,rfl,hc⟩:=ha.form;obtain⟨A',cb,rfl,hc'⟩:=hb'.form;have hal:=dD a;have hbl:=dD b;go_enter Tryz.func28,Tryz.ntmps28;go_wp2_with fail;refine hpa.mono ?_;rintro e1 w1 ⟨v1,u1,rfl,h1,i1,hb1⟩;clear hpa;by_cases hv:(vl a&&vl b)=true
 ·obtain⟨hva,hvb⟩:vl a=true∧vl b=true:=by simpa using hv
  rw[hv];have HA:Hid (vl a=true∧vl b=true):=⟨hva,hvb⟩;rw[jE hva] at h1;rw[jE hvb] at i1;obtain⟨⟨x,y,px,py,hTr⟩,tg,kg,lg⟩:=(hT hva hvb).ok (fD hva).2.2 (fD hvb).2.2 hKa hKb (by omega) (by omega);have hco:=fun W u v h h'=>VW 43740 (aE a) (aE b) x y g u v W h h' px py hTr 43740 (eI hKa (by decide)) (eI hKb (by decide)) (by decide) (by decide) (by omega) (by omega) (by decide);have htx:=fun W v h=>oB (dB g) v W h 43740 (IE kg (by decide)) (by decide) (by rw[(rH tg).1];omega);clear hv hva hvb hal hbl px py hTr tg kg lg hKa hKb hsa hsb hT;generalize hM:dB g=M at *;have HM:=Lib.hid hM;clear hM;go_wp2_with fail;refine(hco _ _ _ h1 i1).mono ?_;rintro e4 w4 ⟨v4,rfl,h4,hb4⟩;replace hb1:=aB hb1 hb4;clear hco;go_wp2_with fail;refine(htx _ _ h4).mono ?_;rintro e5 w5 ⟨v5,rfl,h5,hb5⟩;go_wp2_with fail;go_ret2;unfold rF;rw[if_pos HA.out,HM.out];exact⟨_,rfl,h5,aB hb1 hb5⟩
 ·have HA:Hid (¬(vl a=true∧vl b=true)):=fun h=>hv (by rw[h.1,h.2];rfl);have hv':(vl a&&vl b)=false:=by simpa using hv
  rw[hv'];clear hv hv' h1 i1;go_wp2_with fail;go_ret2;unfold rF;rw[if_neg HA.out];exact⟨_,rfl,StrsAt.nil _ _ _,hb1⟩
def dG (xs ys:List Int) (y:Int):List Int:=(List.range (max xs.length ys.length)).map (fun i=>cf xs i+cf ys i*y)
theorem rK (xs ys:List Int) (y:Int):(dG xs ys y).length=max xs.length ys.length:=by unfold dG;rw[List.length_map,List.length_range]
def gJ (xs ys:List Int) (y:Int) (j:Nat):List Int:=(List.range (max xs.length ys.length)).map (fun i=>cf xs i+(if i<j then cf ys i*y else 0))
theorem rL (xs ys:List Int) (y:Int) (j:Nat):(gJ xs ys y j).length=max xs.length ys.length:=by unfold gJ;rw[List.length_map,List.length_range]
theorem uV (xs ys:List Int) (y:Int) (j:Nat) {i:Nat} (h:i<max xs.length ys.length):(gJ xs ys y j)[i]? =some (cf xs i+(if i<j then cf ys i*y else 0)):=by unfold gJ;rw[List.getElem?_map,List.getElem?_range h];rfl
theorem X5 (xs ys:List Int) (y:Int):gJ xs ys y 0=xs++List.replicate (max xs.length ys.length-xs.length) 0:=by
 refine List.ext_getElem? (fun i=> ?_);by_cases h:i<max xs.length ys.length
 ·rw[uV _ _ _ _ h,if_neg (by omega),Int.add_zero];by_cases hi:i<xs.length
  ·rw[List.getElem?_append_left hi,List.getElem?_eq_getElem hi,dO hi]
  ·rw[List.getElem?_append_right (by omega),List.getElem?_replicate,if_pos (by omega),aP (by omega)]
 ·rw[List.getElem?_eq_none (by rw[rL];omega),List.getElem?_eq_none (by rw[List.length_append,List.length_replicate];omega)]
theorem X7 (xs ys:List Int) (y:Int):gJ xs ys y ys.length=dG xs ys y:=by
 unfold gJ dG;refine List.map_congr_left (fun i _=> ?_);by_cases h:i<ys.length
 ·rw[if_pos h]
 ·rw[if_neg h,aP (l:=ys) (by omega),Int.zero_mul]
theorem X9 (xs ys:List Int) (y:Int) (j:Nat) (h:j<max xs.length ys.length):(gJ xs ys y j).set j (cf xs j+cf ys j*y)=gJ xs ys y (j+1):=by
 refine List.ext_getElem? (fun i=> ?_);by_cases hi:i<max xs.length ys.length
 ·rw[uV _ _ _ _ hi];by_cases e:i=j
  ·subst e;rw[List.getElem?_set_self (by rw[rL];exact hi),if_pos (by omega)]
  ·rw[List.getElem?_set_ne (by omega),uV _ _ _ _ hi];by_cases h2:i<j
   ·rw[if_pos h2,if_pos (by omega)]
   ·rw[if_neg h2,if_neg (by omega)]
 ·rw[List.getElem?_eq_none (by rw[List.length_set,rL];omega),List.getElem?_eq_none (by rw[rL];omega)]
theorem XC {xs ys:List Int} {y:Int} {K:Nat} (hx:∀n∈xs,nl n.natAbs≤2*K) (hy:∀n∈ys,nl n.natAbs≤K) (hk:nl y.natAbs≤K):∀n∈dG xs ys y,nl n.natAbs≤2*K+1:=fun n hn=>by
 unfold dG at hn;obtain⟨i,_,rfl⟩:=List.mem_map.1 hn;exact pD _ _ _ (cI hx i) (Nat.le_trans (bZ _ _ _ _ (cI hy i) hk) (by omega))
theorem WholeAt.rows' {w:World} {A:Option Addr} {c:Nat} {ns:List Int} (h:WholeAt w (.slice A ns.length c) ns):
  ∃rows:List (List Value),rows.length=ns.length∧(∀r∈rows,r.length=2)∧Src w A rows.flatten∧IRow w rows ns∧∀u∈rows.flatten,u.oneCell'=true:=by
 by_cases h0:ns=[]
 ·subst h0;exact⟨[],rfl,(fun r hr=>by cases hr),.inl rfl,(fun i n hn=>by simp at hn),(fun u hu=>by simp at hu)⟩
 ·obtain⟨rows,h1,h2,h3,h4,h5,h6⟩:=h.rows h0;exact⟨rows,h1,h3,h4,h5,h6⟩
theorem XD:(Tryz.prog.info? 53).map (·.size)=some 2:=by kernel_rfl
theorem IP (xs ys:List Int) (y:Int) (vx vy vn:Value) (w:World) (hx:WholeAt w vx xs) (hy:WholeAt w vy ys) (hn:IntAt w vn y) (K:Nat) (hKx:∀n∈xs,nl n.natAbs≤2*K) (hKy:∀n∈ys,nl n.natAbs≤K) (hKn:nl y.natAbs≤K) (hK2:2*K+4≤17592186044416) (hlx:xs.length≤1073741824) (hly:ys.length≤1073741824):
  Calls Tryz.prog 45 #[vx,vy,vn] w fun e w'=>∃g c,e= .returned (.slice (some ⟨g,0,none⟩) (aH aG (dG xs ys y)).length c)∧w.heap.size<g∧WholeAt w' (.slice (some ⟨g,0,none⟩) (aH aG (dG xs ys y)).length c) (aH aG (dG xs ys y))∧Below w.heap.size w w':=by
 obtain⟨A,c,rfl,hc⟩:=hx.form;obtain⟨A',c',rfl,hc'⟩:=hy.form;obtain⟨sn,An,kn,cn,rfl⟩:=hn.form;obtain⟨M,hM⟩:∃M,max xs.length ys.length=M:=⟨_,rfl⟩;have hMi:max (xs.length:Int) (ys.length:Int)=(M:Int):=by omega
 have hM1:xs.length≤M:=by omega
 have hM2:ys.length≤M:=by omega
 have hM3:M≤1073741824:=by omega
 have B1:Bx (w.alloc (.cells #[.bool sn,.slice An kn cn] 53)) (w.heap.size) [.bool sn,.slice An kn cn] 53:=Bx.newAt w [.bool sn,.slice An kn cn] 53 (w.heap.size) (by simp);have hb:Below w.heap.size w (w.alloc (.cells #[.bool sn,.slice An kn cn] 53)):=(Below.refl _ _).alloc (by simp) _;go_enter Tryz.func45,Tryz.ntmps45;obtain⟨rows,hrl,hrk,hsrc,hir,hone⟩:=hx.rows';have hfit:rows.flatten.length≤(List.replicate M ([.bool false,.slice none 0 0]:List Value)).flatten.toArray.size:=by
  rw[gK hrk,hrl,List.size_toArray,gK (k:=2) (fun r hr=>by rw[(List.mem_replicate.1 hr).2];rfl),List.length_replicate];omega
 have hrn:rows.flatten.length=xs.length*2:=by rw[gK hrk,hrl]
 have HFIT:=Lib.hid hfit;have HRN:=Lib.hid hrn;clear hfit hrn
 go_wp2_with (first
  |(at_make;refine eZ rfl rfl 53 _ 2 32 Tryz.underlying50 jZ rfl (by decide) M rfl rfl (by first|rfl|omega) (by first|rfl|omega) (by omega) (by omega) ?_;intro w1 hz1 hr1 hb1;rw[World.size_alloc] at hr1;have hrb:w1.heap[w.heap.size+1]? =some (.cells (List.replicate M ([.bool false,.slice none 0 0]:List Value)).flatten.toArray 53 (0,0)):=hr1.1;have hsb:=hsrc.below (aB hb hb1);have HRB:=Lib.hid hrb;clear hrb)
  |(with_reducible refine GY rfl (d:= .tmp 16) (s:= .tmp 17) rfl 53 2 (w.heap.size+1) M M A xs.length c _ 53 rows.flatten Tryz.underlying50 XD (by decide) rfl rfl HRB.out HRN.out hM1 hsb HFIT.out hone ?_;generalize hW2:World.setRow w1 (w.heap.size+1) (rows.flatten++(List.replicate M ([.bool false,.slice none 0 0]:List Value)).flatten.drop rows.flatten.length).toArray=w2;have HW2:=Lib.hid hW2;clear hW2))
 have hbw:=aB hb hb1;obtain⟨R0,hst⟩:=OwnW.copied (w:=w1) (g:=w.heap.size+1) (M:=M) hr1 hrk hrl hM1 (hir.keep (Keep.below hbw));rw[HW2.out] at R0 hst;have B1':=B1.below hb1;have B2:Bx _ w.heap.size [.bool sn,.slice An kn cn] 53:=(hst.2.1 w.heap.size (by omega)).trans B1';have hb2:=dE hbw hst (by omega);rw[←hM,←X5 xs ys y] at R0;have hLen:=rK xs ys y;have HML:=Lib.hid hM;have HLL:Hid ((dG xs ys y).length=M):=by unfold Hid;rw[hLen];exact hM
 have HJL:Hid (∀j,(gJ xs ys y j).length=M):=fun j=>by rw[rL];exact hM
 have HJG:Hid (∀j i,i<M→(gJ xs ys y j)[i]? =some (cf xs i+(if i<j then cf ys i*y else 0))):=fun j i hi=>uV _ _ _ _ (by rw[hM];exact hi);have HJS:Hid (∀j,j<M→(gJ xs ys y j).set j (cf xs j+cf ys j*y)=gJ xs ys y (j+1)):=fun j hj=>X9 _ _ _ _ (by rw[hM];exact hj);have HJE:Hid (gJ xs ys y ys.length=dG xs ys y):=X7 _ _ _;have HKL:Hid (∀n∈dG xs ys y,nl n.natAbs≤2*K+1):=XC hKx hKy hKn;clear hM hLen hMi hr1 hz1 hb1 hst B1' hb B1 hrl hrk hsrc hir hone hbw HRB HRN HFIT hsb HW2;go_wp2_with fail;go_loopg [21] ys.length (fun k i wr=>∃j,Hid (j+k=ys.length)∧i= .int .i64 j∧OwnW wr (w.heap.size+1) (gJ xs ys y j)∧Bx wr w.heap.size [.bool sn,.slice An kn cn] 53∧Below w.heap.size w wr)
 case atStart=>exact⟨0,by unfold Hid;omega,rfl,R0,B2,hb2⟩
 case round=>
  clear R0 B2 hb2;obtain⟨j,HJ,rfl,S,N,hb⟩:=hrel;generalize wr=wx at *;have hj0:(0:Int)≤(j:Int):=by omega
  cases gk with
  |zero=>
   have hj:j=ys.length:=HJ.out;subst hj;rw[HJE.out] at S;have hwl:=S.whole M (by rw[HLL.out];exact Nat.le_refl _);have htr:=oJ (dG xs ys y) (some ⟨w.heap.size+1,0,none⟩) M wx hwl (2*K+1) HKL.out (by omega) (by rw[HLL.out];omega);rw[HLL.out] at htr;go_wp2_with fail;refine htr.mono ?_;rintro e5 w5 ⟨rfl,h5,hb5⟩;go_wp2_with fail;go_ret;exact⟨w.heap.size+1,M,rfl,by omega,h5,aB hb hb5⟩
  |succ k=>
   have hjy:j<ys.length:=by have:=HJ.out;omega
   have hjM:j<M:=by omega
   have hj1:(j:Int)<(ys.length:Int):=by omega
   have hj2:(j:Int)<(M:Int):=by omega
   have hgt:=HJG.out j j hjM;rw[if_neg (Nat.lt_irrefl j),Int.add_zero] at hgt;have hlr:j<(gJ xs ys y j).length:=by rw[HJL.out];exact hjM
   have hset:=HJS.out j hjM;obtain⟨b,s,B,l,d,rfl,hbl,y0,y1,hyi,hym⟩:=(hy.below hb).get (i:=j) hjy;have bY:=hKy _ hym;have bX:=cI hKx j;have bmu:=bZ (cf ys j) y _ _ bY hKn;have hmul:=fun W v u h1 h2=>f8 (cf ys j) y v u W h1 h2 (by omega);have hadd:=fun W v u h1 h2=>nI (cf xs j) (cf ys j*y) v u W h1 h2 (by omega) (by omega);unfold bW at hmul hadd;have HSET:=Lib.hid hset;clear hset hym bmu;generalize cf xs j+cf ys j*y=nv at *;generalize cf ys j*y=mv at *;generalize cf xs j=ov at *;generalize cf ys j=yv at *;obtain⟨st,At,kt,ct,g0,g1,hov⟩:=S.at_ hgt;have hwl:=S.lt;have hnl:=N.lt;have hgc:wx.heap.size≠w.heap.size+1:=by omega
   have hC0:Below wx.heap.size wx (wx.alloc (.cells #[.bool s,.slice B l d] 53)):=(Below.refl _ _).alloc (Nat.le_refl _) _;have C:=Bx.new wx [.bool s,.slice B l d] 53;have C_0:=C.cell 0 rfl;have C_1:=C.cell 1 rfl;have N_0:=(N.below hC0).cell 0 rfl;have N_1:=(N.below hC0).cell 1 rfl;replace g0:=(hC0.cell (p:=⟨w.heap.size+1,j*2,none⟩) hwl).trans g0;replace g1:=(hC0.cell (p:=⟨w.heap.size+1,j*2+1,none⟩) hwl).trans g1;have hov':=(hov.below hC0).drew;have hn':=((hn.below hb).below hC0).drew;have hyi':=(hyi.below hC0).drew;have hS':=(S.below hC0).drew;have hN':=(N.below hC0).drew;have hb':=(aB hb hC0).drew;replace hwl:=Nat.lt_of_lt_of_le hwl hC0.size;replace hnl:=Nat.lt_of_lt_of_le hnl hC0.size;have hcl:=C.lt;clear hgt S N hb hyi hov;go_wp2_with fail;clear C hC0;generalize hgcz:wx.heap.size=gc at *;generalize wx.alloc (.cells #[.bool s,.slice B l d] 53)=wz at *
   go_region_with (first
     |(go_at_call 46;(with_reducible refine(hmul _ _ _ hyi' hn').mono ?_);rintro e6 w6 ⟨v6,rfl,h6,hb6⟩;replace hov':=hov'.below hb6;replace hS':=hS'.below hb6;replace hN':=hN'.below hb6;replace hb':=aB hb' hb6;replace g0:=(hb6.cell (p:=⟨w.heap.size+1,j*2,none⟩) hwl).trans g0;replace g1:=(hb6.cell (p:=⟨w.heap.size+1,j*2+1,none⟩) hwl).trans g1;replace N_0:=(hb6.cell (p:=⟨w.heap.size,0,none⟩) hnl).trans N_0;replace N_1:=(hb6.cell (p:=⟨w.heap.size,1,none⟩) hnl).trans N_1;replace C_0:=(hb6.cell (p:=⟨gc,0,none⟩) hcl).trans C_0;replace C_1:=(hb6.cell (p:=⟨gc,1,none⟩) hcl).trans C_1;replace hwl:=Nat.lt_of_lt_of_le hwl hb6.size;replace hnl:=Nat.lt_of_lt_of_le hnl hb6.size;replace hcl:=Nat.lt_of_lt_of_le hcl hb6.size)
     |(go_at_call 95;(with_reducible refine(hadd _ _ _ hov' h6).mono ?_);rintro e7 w7 ⟨v7,rfl,h7,hb7⟩;obtain⟨s7,A7,k7,c7,rfl⟩:=h7.form;replace hov':=hov'.below hb7;replace hS':=hS'.below hb7;replace hN':=hN'.below hb7;replace hb':=aB hb' hb7;replace g0:=(hb7.cell (p:=⟨w.heap.size+1,j*2,none⟩) hwl).trans g0;replace g1:=(hb7.cell (p:=⟨w.heap.size+1,j*2+1,none⟩) hwl).trans g1;replace N_0:=(hb7.cell (p:=⟨w.heap.size,0,none⟩) hnl).trans N_0;replace N_1:=(hb7.cell (p:=⟨w.heap.size,1,none⟩) hnl).trans N_1;replace C_0:=(hb7.cell (p:=⟨gc,0,none⟩) hcl).trans C_0;replace C_1:=(hb7.cell (p:=⟨gc,1,none⟩) hcl).trans C_1;replace hwl:=Nat.lt_of_lt_of_le hwl hb7.size;replace hnl:=Nat.lt_of_lt_of_le hnl hb7.size;replace hcl:=Nat.lt_of_lt_of_le hcl hb7.size;have f0:=hS'.free (j*2);have f1:=hS'.free (j*2+1)))
   all_goals (
    go_wp2_with fail;have hst:=(hS'.stored hlr h7).2;have zS:=(hS'.stored hlr h7).1;rw[HSET.out] at zS;have zN:Bx _ w.heap.size [.bool sn,.slice An kn cn] 53:=(hst.2.1 w.heap.size (by omega)).trans hN';have zb:=dE hb' hst (by omega);go_roundg k
    case rel=>exact⟨j+1,by have:=HJ.out;unfold Hid;omega,by go_num,zS,zN,zb⟩
    case measure=>omega)
end Go.Proofs.YtlojjipfnejbnaaGreatDoor
namespace Go.Proofs.YtlojjipfnejbnaaGreatDoor
open Sos
theorem AW {xs ys:List Int} {a b:Nat} (hx:∀n∈xs,nl n.natAbs≤a) (hy:∀n∈ys,nl n.natAbs≤b) (hl:xs.length+ys.length≤1073741824):∀n∈aY xs ys,nl n.natAbs≤a+b+1:=fun n hn=>by
 unfold aY at hn;split at hn
 ·cases hn
 ·obtain⟨i,hi,rfl⟩:=List.mem_map.1 hn;exact uC (cI hx) (cI hy) (by have:=List.mem_range.1 hi;omega)
theorem IQ {xs ys:List Int} {y:Int} {a b c:Nat} (hx:∀n∈xs,nl n.natAbs≤a) (hy:∀n∈ys,nl n.natAbs≤b) (hk:nl y.natAbs≤c) (h:b+c≤a):∀n∈dG xs ys y,nl n.natAbs≤a+1:=fun n hn=>by
 unfold dG at hn;obtain⟨i,_,rfl⟩:=List.mem_map.1 hn;exact pD _ _ _ (cI hx i) (Nat.le_trans (bZ _ _ _ _ (cI hy i) hk) h)
end Go.Proofs.YtlojjipfnejbnaaGreatDoor
namespace Go.Proofs.YtlojjipfnejbnaaGreatDoor
open Go.RowKit Sos
def cS (s0 s1 q:List Int) (m:Int):List Int:=aH aG (dG (aH aG (s0.map (·*m))) (aY q s1) (-1))
inductive Ext (B:Nat):List Int→List Int→List Int→List Int→List Int→List Int→Prop
 |done (a s0 s1:List Int):Ext B a [] s0 s1 a s0
 |step {a b s0 s1 q r g s:List Int} {m c:Int} (hb:b≠[]) (h:PQRes a b B m q r) (hc:c≠0) (hr:∀n∈r,c∣n) (hn:∀n∈cS s0 s1 q m,c∣n) (t:Ext B b (bK r c) s1 (bK (cS s0 s1 q m) c) g s):Ext B a b s0 s1 g s
theorem WY {K la lb B:Nat} (h:(K+1)*(la-lb+2)*3^lb≤B):K+(la+1-lb)*(K+1)+1≤B:=by
 have e1:K+(la+1-lb)*(K+1)+1≤(K+1)*(la-lb+2):=by
  have h1:(la+1-lb)*(K+1)≤(la-lb+1)*(K+1):=Nat.mul_le_mul_right _ (by omega);rw[Nat.mul_comm (K+1),Nat.succ_mul];omega
 exact Nat.le_trans e1 (Nat.le_trans (Nat.le_mul_of_pos_right _ (Nat.pow_pos (by decide))) h)
theorem WZ {K la lb lr B:Nat} (h:(K+1)*(la-lb+2)*3^lb≤B) (hr:lr<lb):(K+(la+1-lb)*(K+1)+1)*(lb-lr+2)*3^lr≤B:=by
 have e1:K+(la+1-lb)*(K+1)+1≤(K+1)*(la-lb+2):=by
  have h1:(la+1-lb)*(K+1)≤(la-lb+1)*(K+1):=Nat.mul_le_mul_right _ (by omega);rw[Nat.mul_comm (K+1),Nat.succ_mul];omega
 have e2:lb=(lb-lr)+lr:=by omega
 have h2:=DW (d:=lb-lr) (by omega);have h3:(K+1)*(la-lb+2)*3^lb=(K+1)*(la-lb+2)*3^(lb-lr)*3^lr:=by
  conv=>lhs;rw[e2,Nat.pow_add]
  rw[show(lb-lr+lr)=lb by omega,Nat.mul_assoc];simp only[Nat.mul_assoc]
 rw[h3] at h;exact Nat.le_trans (Nat.mul_le_mul_right _ (Nat.mul_le_mul e1 h2)) h
theorem AU {s0 s1 q:List Int} {m:Int} {Ks B:Nat} (h0:∀n∈s0,nl n.natAbs≤Ks) (h1:∀n∈s1,nl n.natAbs≤Ks) (hq:∀n∈q,nl n.natAbs≤B) (hm:nl m.natAbs≤B) (hl:q.length+s1.length≤1073741824):∀n∈cS s0 s1 q m,nl n.natAbs≤Ks+B+3:=fun n hn=>by
 have h2:=AW hq h1 hl;have h3:∀n∈aH aG (s0.map (·*m)),nl n.natAbs≤Ks+B+2:=fun n hn=>by
  obtain⟨k,hk,rfl⟩:=List.mem_map.1 (fQ hn);exact Nat.le_trans (bZ _ _ _ _ (h0 k hk) hm) (by omega)
 exact IQ (a:=Ks+B+2) (b:=B+Ks+1) (c:=1) h3 h2 (bI (by decide)) (by omega) n (fQ hn)
theorem AV (s0 s1 q:List Int) (m:Int):(cS s0 s1 q m).length≤max s0.length (q.length+s1.length):=by
 unfold cS;refine Nat.le_trans (cK _ _) ?_;rw[rK];have h1:=cK aG (s0.map (·*m));rw[List.length_map] at h1;have h2:(aY q s1).length≤q.length+s1.length:=by
  unfold aY;split
  ·simp
  ·rw[List.length_map,List.length_range];omega
 omega
theorem X0 (s0 s1 q:List Int) (m:Int):aN (cS s0 s1 q m):=fC _
theorem pQ {ns:List Int} {c:Int} (h:aN ns) (hd:∀n∈ns,c∣n):aN (bK ns c):=fun a ha e=>by
 unfold bK at ha;rw[List.getLast?_map] at ha;cases hl:ns.getLast? with
 |none=>rw[hl] at ha;cases ha
 |some b=>
  rw[hl] at ha;replace ha:b.tdiv c=a:=by injection ha
  have hb:=h b hl;have h2:=Int.tdiv_mul_cancel (hd b (List.mem_of_getLast? hl));rw[ha,e,Int.zero_mul] at h2;exact hb h2.symm
theorem X1 (xs ys:List Int) (D:Int) (vx vy vd:Value) (w:World) (hG:Glob w) (hx:WholeAt w vx xs) (hy:WholeAt w vy ys) (hd:IntAt w vd D) (tx:aN xs) (ty:aN ys) (hD:D≠0) (K B BS:Nat)
  (hKx:∀n∈xs,nl n.natAbs≤K) (hKy:∀n∈ys,nl n.natAbs≤K) (hKd:nl D.natAbs≤K) (hK1:1≤K) (hB:(K+1)*(xs.length-ys.length+2)*3^ys.length≤B) (hBS:K+ys.length*(B+3)≤BS) (hL:10*(B+BS)+100≤aF) (hlx:xs.length≤1000) (hly:ys.length≤1000):
  Calls Tryz.prog 76 #[vx,vy,vd] w fun e w'=>∃v u g s,e= .returned (.tuple #[v,u])∧WholeAt w' v g∧WholeAt w' u s∧Ext B xs ys [D] [] g s∧(∀n∈g,nl n.natAbs≤B)∧(∀n∈s,nl n.natAbs≤BS)∧Below w.heap.size w w':=by
 obtain⟨A,c,rfl,hc⟩:=hx.form;obtain⟨A',c',rfl,hc'⟩:=hy.form;obtain⟨sd,Ad,kd,cd,rfl⟩:=hd.form;have hLIM:aF=17592186044416:=rfl;go_enter Tryz.func76,Tryz.ntmps76;go_wp2_with fail;have hs:=WholeAt.single (w:=w.alloc (.cells #[.bool sd,.slice Ad kd cd] 53)) (hd.keep (Keep.alloc _ _));rw[World.size_alloc] at hs;have hb:Below w.heap.size w ((w.alloc (.cells #[.bool sd,.slice Ad kd cd] 53)).alloc (.cells #[.bool sd,.slice Ad kd cd] 53)):=((Below.refl _ _).alloc (Nat.le_refl _) _).alloc (by simp) _;have hx1:=hx.below hb;have hy1:=hy.below hb
 go_loopg [8,9,10,11] ys.length (fun k va vb u0 u1 wr=>∃a b s0 s1 A c K' Ks,Hid (b.length=k)∧vb= .slice A b.length c∧WholeAt wr va a∧WholeAt wr (.slice A b.length c) b∧WholeAt wr u0 s0∧WholeAt wr u1 s1∧Hid (aN a∧aN b)∧Hid (∀g s,Ext B a b s0 s1 g s→Ext B xs ys [D] [] g s)∧
  (∀n∈a,nl n.natAbs≤K')∧(∀n∈b,nl n.natAbs≤K')∧1≤K'∧Hid ((K'+1)*(a.length-b.length+2)*3^b.length≤B)∧(∀n∈s0,nl n.natAbs≤Ks)∧(∀n∈s1,nl n.natAbs≤Ks)∧Hid (Ks+b.length*(B+3)≤BS)∧a.length≤1000∧b.length≤1000∧Hid (s0.length+1000*b.length≤1000001∧s1.length+1000*b.length≤1000001)∧Below w.heap.size w wr)
 case atStart=>exact⟨xs,ys,[D],[],A',c',K,K,rfl,rfl,hx1,hy1,hs,WholeAt.nil _ _ _,⟨tx,ty⟩,fun g s h=>h,hKx,hKy,hK1,hB,(fun n hn=>by rw[List.mem_singleton.1 hn];exact hKd),(fun n hn=>by cases hn),hBS,hlx,hly,⟨by simp;omega,by simp;omega⟩,hb⟩
 case round=>
  clear hx1 hy1 hx hy hs hd hb hB hBS tx ty hKx hKy hKd hK1;obtain⟨a,b,s0,s1,A1,c1,K',Ks,HL,rfl,ha,hbb,h0,h1,HT,HE,ka,kb,hK1,HB,k0,k1,HS,hla,hlb,HLS,hb⟩:=hrel;generalize wr=wy at *;have hKB:=WY HB.out;have hKs:Ks≤BS:=Nat.le_trans (Nat.le_add_right _ _) HS.out;by_cases hb0:b.length=0
  ·have q0:¬(0:Int)<(b.length:Int):=by omega
   have hbn:b=[]:=List.eq_nil_of_length_eq_zero hb0;have HH:=Lib.hid (HE.out a s0 (by rw[hbn];exact Ext.done a s0 s1));clear hbn hb0;go_wp2_with fail;go_ret2;exact⟨_,_,rfl,a,ha,s0,h0,HH.out,fun n hn=>Nat.le_trans (ka n hn) (by omega),fun n hn=>Nat.le_trans (k0 n hn) hKs,hb⟩
  ·have q0:(0:Int)<(b.length:Int):=by omega
   have hbn:b≠[]:=fun e=>hb0 (by rw[e];rfl);have pq:=pE a b _ _ wy ha hbb hbn HT.out.1 HT.out.2 K' _ ka kb hK1 (Nat.le_refl _) (by omega) (by omega) (by omega);unfold oA at pq;go_wp2_with fail;refine pq.mono ?_;rintro e3 w3 ⟨vq,vr,vm,q,r,m,rfl,hq,hr,hm,hres,hb3⟩;obtain⟨sm,Am,km,cm,rfl⟩:=hm.form;obtain⟨Ar,cr,rfl, -⟩:=hr.form;have hP:=hres.mono (show _≤B by omega);have HPP:=Lib.hid hP;have HQ:=Lib.hid hres;have lr:=hres.r_lt;have lq:=hP.q_len;have ls0:=HLS.out.1;have ls1:=HLS.out.2;have kq:=hP.bq;have kr:=hP.br;have km':=hP.bm;have bs:Ks+3+B≤BS:=by
    obtain⟨p,hp⟩:∃p,b.length=p+1:=⟨b.length-1,by omega⟩;have:=HS.out;rw[hp,Nat.succ_mul] at this;omega
   have e1:∀n∈aH aG (s0.map (·*m)),nl n.natAbs≤2*(Ks+B+1):=fun n hn=>by
    obtain⟨k,hk,rfl⟩:=List.mem_map.1 (fQ hn);exact Nat.le_trans (bZ _ _ _ _ (k0 k hk) km') (by omega)
   have e2:∀n∈aY q s1,nl n.natAbs≤Ks+B+1:=fun n hn=>Nat.le_trans (AW kq k1 (by omega) n hn) (by omega);have e3:=AU k0 k1 kq km' (by omega);have l3:=AV s0 s1 q m;have l1:(aH aG (s0.map (·*m))).length≤1073741824:=Nat.le_trans (cK _ _) (by rw[List.length_map];omega);have l2:(aY q s1).length≤1073741824:=by
    unfold aY;split
    ·simp
    ·rw[List.length_map,List.length_range];omega
   have c1:=fun W v u h k=>pR s0 m v u W h k (Ks+B) (fun n hn=>Nat.le_trans (k0 n hn) (by omega)) (Nat.le_trans km' (by omega)) (by omega) (by omega);have c2:=fun W v u h k=>vD q s1 v u W h k (Ks+B) (fun n hn=>Nat.le_trans (kq n hn) (by omega)) (fun n hn=>Nat.le_trans (k1 n hn) (by omega)) (by omega) (by omega) (by omega);have c3:=fun W v u t h k l=>IP (aH aG (s0.map (·*m))) (aY q s1) (-1) v u t W h k l (Ks+B+1) e1 e2 (Nat.le_trans (bI (m:=1) (by decide)) (by omega)) (by omega) l1 l2;have c4:=fun W v hG h=>qK r v W hG h B kr (by omega) (by omega);have c5:=fun W v hG h=>qK (cS s0 s1 q m) v W hG h (Ks+B+3) e3 (by omega) (by omega);have g1:=tO kr;have g2:=tO e3;have c6:=fun W v u hG h k=>mT (cA r:Int) (cA (cS s0 s1 q m):Int) v u W hG h k (Ks+B+3) (by rw[Int.natAbs_natCast];omega) (by rw[Int.natAbs_natCast];exact g2) (by omega);have hgc:((Nat.gcd (cA r:Int).natAbs (cA (cS s0 s1 q m):Int).natAbs:Nat):Int)=((Nat.gcd (cA r) (cA (cS s0 s1 q m)):Nat):Int):=by rw[Int.natAbs_natCast,Int.natAbs_natCast]
   simp only[hgc] at c6;have hdr:∀n∈r,((Nat.gcd (cA r) (cA (cS s0 s1 q m)):Nat):Int)∣n:=fun n hn=>Int.dvd_trans (Int.ofNat_dvd.2 (Nat.gcd_dvd_left _ _)) (tN hn);have hdn:∀n∈cS s0 s1 q m,((Nat.gcd (cA r) (cA (cS s0 s1 q m)):Nat):Int)∣n:=fun n hn=>Int.dvd_trans (Int.ofNat_dvd.2 (Nat.gcd_dvd_right _ _)) (tN hn);have hcn:nl (Nat.gcd (cA r) (cA (cS s0 s1 q m)))≤Ks+B+3:=by
    rcases Nat.eq_zero_or_pos (cA r) with h|h
    ·rw[h,Nat.gcd_zero_left];exact g2
    ·exact Nat.le_trans (qN _ _ _ (by omega) g1) (by omega)
   have HD:=Lib.hid (And.intro hdr hdn);have hN:cS s0 s1 q m=aH aG (dG (aH aG (s0.map (·*m))) (aY q s1) (-1)):=rfl;rw[←hN] at c3;have HX:=Lib.hid (fun c hc hr hn g s t=>HE.out g s (Ext.step (c:=c) hbn HPP.out hc hr hn t));have hbm:=WZ (lr:=r.length) HB.out lr;have HBM:=Lib.hid hbm;have hsm:Ks+B+3+r.length*(B+3)≤BS:=by
    have h1:(r.length+1)*(B+3)≤b.length*(B+3):=Nat.mul_le_mul_right _ (by omega);have:=HS.out;rw[Nat.succ_mul] at h1;omega
   have HSM:=Lib.hid hsm;have hrr:=hres.br;have htr:=hres.r_trim;have HTR:=Lib.hid htr;clear pq hres hP hgc hdr hdn hN g1 e1 e2 l1 l2 hbm hsm htr;go_wp2_with fail;obtain⟨w4,e4,hA4,X⟩:=bA w3 [.bool sm,.slice Am km cm] 53;rw[e4];clear e4;have hA3:=aB hb3 hA4;replace hbb:=hbb.below hA3;replace h0:=h0.below hA3;replace h1:=h1.below hA3;replace hb:=aB hb hA3;replace hq:=hq.below hA4;replace hr:=hr.below hA4;replace hm:=hm.below hA4;clear hA3 hb3 hA4 ha;refine(c1 _ _ _ h0 hm).mono ?_;rintro e5 w5 ⟨v5,rfl,h5,hb5⟩;clear c1 h0 hm X;replace hbb:=hbb.below hb5;replace h1:=h1.below hb5;replace hq:=hq.below hb5;replace hr:=hr.below hb5;replace hb:=aB hb hb5;go_wp2_with fail;refine(c2 _ _ _ hq h1).mono ?_;rintro e6 w6 ⟨v6,rfl,h6,hb6⟩;clear c2 hq;replace hbb:=hbb.below hb6;replace h1:=h1.below hb6;replace hr:=hr.below hb6;replace h5:=h5.below hb6;replace hb:=aB hb hb6;go_wp2_with fail;refine(jK (-1) _ (by decide) (by decide)).mono ?_;rintro e7 w7 ⟨v7,rfl,h7,hb7⟩;replace hbb:=hbb.below hb7;replace h1:=h1.below hb7;replace hr:=hr.below hb7;replace h5:=h5.below hb7;replace h6:=h6.below hb7;replace hb:=aB hb hb7;go_wp2_with fail;refine(c3 _ _ _ _ h5 h6 h7).mono ?_;rintro e8 w8 ⟨g8,c8,rfl, -,h8,hb8⟩;clear c3 h5 h6 h7;replace hbb:=hbb.below hb8;replace h1:=h1.below hb8;replace hr:=hr.below hb8;replace hb:=aB hb hb8;generalize hNN:cS s0 s1 q m=N at *;generalize (Value.slice (some ⟨g8,0,none⟩) N.length c8)=v8 at *;go_wp2_with fail;refine(c4 _ _ (hG.below hb) hr).mono ?_;rintro e9 w9 ⟨v9,rfl,h9,hb9⟩;clear c4;replace hbb:=hbb.below hb9;replace h1:=h1.below hb9;replace hr:=hr.below hb9;replace h8:=h8.below hb9;replace hb:=aB hb hb9;go_wp2_with fail;refine(c5 _ _ (hG.below hb) h8).mono ?_;rintro e10 w10 ⟨v10,rfl,h10,hb10⟩;clear c5;replace hbb:=hbb.below hb10;replace h1:=h1.below hb10;replace hr:=hr.below hb10;replace h8:=h8.below hb10;replace h9:=h9.below hb10;replace hb:=aB hb hb10;go_wp2_with fail;refine(c6 _ _ _ (hG.below hb) h9 h10).mono ?_;rintro e11 w11 ⟨v11,rfl,h11,hb11⟩;obtain⟨sg,Ag,kg,cg,rfl⟩:=h11.form;clear c6 h9 h10;replace hbb:=hbb.below hb11;replace h1:=h1.below hb11;replace hr:=hr.below hb11;replace h8:=h8.below hb11;replace hb:=aB hb hb11;generalize hcc:Nat.gcd (cA r) (cA N)=cc at *;clear hcc hNN;go_wp2_with fail;obtain⟨w12,e12,hA,X⟩:=bA w11 [.bool sg,.slice Ag kg cg] 53;rw[e12];clear e12;replace h11:=h11.below hA;replace hbb:=hbb.below hA;replace h1:=h1.below hA;replace hr:=hr.below hA;replace h8:=h8.below hA;replace hb:=aB hb hA;have cM:=X.g2;have hcn':nl ((cc:Nat):Int).natAbs≤Ks+B+3:=by rw[Int.natAbs_natCast];exact hcn
   have dv1:=fun W v h k (h0:(cc:Int)≠0)=>p6 r (cc:Int) v (.agg #[.bool sg,.slice Ag kg cg]) W h k (fun _=>h0) (Ks+B+3) (fun n hn=>Nat.le_trans (kr n hn) (by omega)) hcn' (by omega) (by omega);have dv2:=fun W v h k (h0:(cc:Int)≠0)=>p6 N (cc:Int) v (.agg #[.bool sg,.slice Ag kg cg]) W h k (fun _=>h0) (Ks+B+3) e3 hcn' (by omega) (by omega);refine(cU (cc:Int) _ _ h11 (by omega)).mono ?_;rintro e13 w13 ⟨rfl,hb13⟩;replace X:=X.below hb13;replace cM:=X.g2;replace hbb:=hbb.below hb13;replace h1:=h1.below hb13;replace hr:=hr.below hb13;replace h8:=h8.below hb13;replace h11:=h11.below hb13;replace hb:=aB hb hb13;have ks1:∀n∈s1,nl n.natAbs≤Ks+B+3:=fun n hn=>Nat.le_trans (k1 n hn) (by omega);have kb1:∀n∈b,nl n.natAbs≤K'+(a.length+1-b.length)*(K'+1):=fun n hn=>Nat.le_trans (kb n hn) (Nat.le_add_right _ _);have hKK:1≤K'+(a.length+1-b.length)*(K'+1):=Nat.le_trans hK1 (Nat.le_add_right _ _);have hls:s1.length+1000*r.length≤1000001∧N.length+1000*r.length≤1000001:=⟨by omega,by omega⟩;have HLS':=Lib.hid hls;clear hls k0 k1 kb ka kq HB HS HLS hK1 hcn' hcn ls0 ls1 l3 lq km';by_cases hz:(cc:Int)=0
   ·have hd0:decide ((cc:Int)=0)=true:=by simpa using hz
    rw[hd0];have HE':=Lib.hid (show∀g s,Ext B b r s1 N g s→Ext B xs ys [D] [] g s from fun g s t=>HX.out 1 (by decide) (fun n _=>Int.one_dvd n) (fun n _=>Int.one_dvd n) g s (by rw[xQ,xQ];exact t));clear hd0 hz dv1 dv2 HX;go_wp2_with fail;go_roundg r.length
    case rel=>exact⟨b,r,s1,N,Ar,cr,_,Ks+B+3,rfl,rfl,hbb,hr,h1,h8,⟨HT.out.2,HTR.out⟩,HE'.out,kb1,hrr,hKK,HBM.out,ks1,e3,HSM.out,hlb,by omega,HLS'.out,hb⟩
    case measure=>have:=HL.out;omega
   ·have hd0:decide ((cc:Int)=0)=false:=by simpa using hz
    rw[hd0];have HE':=Lib.hid (show∀g s,Ext B b (bK r cc) s1 (bK N cc) g s→Ext B xs ys [D] [] g s from fun g s t=>HX.out cc hz HD.out.1 HD.out.2 g s t);have ht:=pQ HTR.out HD.out.1;have HTD:=Lib.hid ht;replace dv1:=fun W v h k=>dv1 W v h k hz;replace dv2:=fun W v h k=>dv2 W v h k hz;have x1:=n8 (x:=(cc:Int)) hrr;have x2:=n8 (x:=(cc:Int)) e3;have lR:=j9 r (cc:Int);have lN:=j9 N (cc:Int);generalize bK r cc=R at *;generalize bK N cc=M at *;rw[←lR] at HBM HSM HLS';rw[←lN] at HLS';have hRb:R.length<b.length:=by omega
    have HRL:=Lib.hid hRb;clear hd0 hz HX ht lN hRb lr lR;go_wp2_with fail;replace hbb:=hbb.drew;replace h1:=h1.drew;replace hr:=hr.drew;replace h8:=h8.drew;replace h11:=h11.drew;replace X:=X.drew;replace hb:=hb.drew
    go_region_held3 (fun w'=>C2 w' w11.heap.size (.bool sg) (.slice Ag kg cg))
     (with_reducible exact X.k2)
     (first
      |(go_at_call 126;(with_reducible refine(dv1 _ _ hr h11).mono ?_);rintro eA wA ⟨vA,rfl,hA',hbA⟩;replace X:=X.below hbA;replace hbb:=hbb.below hbA;replace h1:=h1.below hbA;(try replace h8:=h8.below hbA);(try replace hB':=hB'.below hbA);replace h11:=h11.below hbA;replace hb:=aB hb hbA)
      |(go_at_call 126;(with_reducible refine(dv2 _ _ h8 h11).mono ?_);rintro eB wB ⟨vB,rfl,hB',hbB⟩;replace X:=X.below hbB;replace hbb:=hbb.below hbB;replace h1:=h1.below hbB;(try replace hr:=hr.below hbB);(try replace hA':=hA'.below hbB);replace h11:=h11.below hbB;replace hb:=aB hb hbB))
    all_goals (
     obtain⟨AR,cR,rfl, -⟩:=hA'.form;go_wp2_with fail;go_roundg R.length
     case rel=>exact⟨b,R,s1,M,AR,cR,_,Ks+B+3,rfl,rfl,hbb,hA',h1,hB',⟨HT.out.2,HTD.out⟩,HE'.out,kb1,x1,hKK,HBM.out,ks1,x2,HSM.out,hlb,by have:=HRL.out;omega,HLS'.out,hb⟩
     case measure=>have:=HL.out;have:=HRL.out;omega)
end Go.Proofs.YtlojjipfnejbnaaGreatDoor
namespace Go.Proofs.YtlojjipfnejbnaaGreatDoor
open Sos
section
variable {R:Type} [Add R] [Mul R] [Sub R] [OfNat R 0] [CR R]
theorem WU (p q:Nat→R) {n i:Nat} (h:i≤n):conv p q i=aU (fun k=>p k*(if k≤i then q (i-k) else 0)) (n+1):=by
 obtain⟨d,rfl⟩:∃d,n=i+d:=⟨n-i,by omega⟩;rw[show i+d+1=i+1+d by omega,qH,mH (n:=d) (fun k _=>by rw[if_neg (by omega),CR.mul_zero]),CR.add_zero];exact jQ (fun k hk=>by rw[if_pos (by omega)])
theorem AO (p q r:Nat→R) (i:Nat):conv (conv p q) r i=conv p (conv q r) i:=by
 have e1:conv (conv p q) r i=aU (fun k=>aU (fun j=>p j*((if j≤k then q (k-j) else 0)*r (i-k))) (i+1)) (i+1):=by
  refine jQ (fun k hk=> ?_);rw[WU p q (show k≤i by omega),CR.mul_comm,←xL];refine jQ (fun j _=> ?_);rw[CR.mul_comm (r (i-k)),CR.mul_assoc]
 rw[e1,NW];refine jQ (fun j hj=> ?_);rw[xL];congr 1;obtain⟨d,hd⟩:∃d,i+1=j+d:=⟨i+1-j,by omega⟩;rw[hd,qH,mH (n:=j) (fun k hk=>by rw[if_neg (by omega),oY]),xK];have e2:d=i-j+1:=by omega
 rw[e2];refine jQ (fun k hk=> ?_);rw[if_pos (by omega),show j+k-j=k by omega,show i-(j+k)=i-j-k by omega]
end
theorem AQ (xs ys:List Int) (y:Int) (i:Nat):cf (dG xs ys y) i=cf xs i+cf ys i*y:=by
 unfold dG;rw[oX];split
 ·rfl
 ·rw[aP (show xs.length≤i by omega),aP (show ys.length≤i by omega)];simp
theorem AS (s0 s1 q:List Int) (m:Int) (i:Nat):cf (cS s0 s1 q m) i=cf s0 i*m-conv (cf q) (cf s1) i:=by
 unfold cS;rw[dS,AQ,dS,qV,xJ];omega
theorem lM {ns:List Int} {c:Int} (h:∀n∈ns,c∣n) (i:Nat):cf ns i=c*cf (bK ns c) i:=by
 rw[E2,Int.mul_comm];exact(Int.tdiv_mul_cancel (E3 h i)).symm
def Dv (f:Nat→Int) (d:List Int):Prop:=∃(k:Int) (u:List Int),k≠0∧∀i,k*f i=conv (cf u) (cf d) i
section
variable {f g:Nat→Int} {d e:List Int}
theorem Dv.congr (h:Dv f d) (he:∀i,g i=f i):Dv g d:=by
 obtain⟨k,u,hk,hu⟩:=h;exact⟨k,u,hk,fun i=>by rw[he,hu]⟩
theorem Dv.self (d:List Int) (c:Int):Dv (fun i=>c*cf d i) d:=⟨1,[c],by decide,fun i=>by
 have h:∀k,cf [c] k=if k=0 then c else 0:=fun k=>by
  cases k with
  |zero=>rfl
  |succ k=>rw[aP (by simp)];rfl
 rw[cO h (fun _=>rfl),mY,if_pos (Nat.zero_le _),Int.one_mul];rfl⟩
theorem Dv.zero (d:List Int):Dv (fun _=>0) d:=⟨1,[],by decide,fun i=>by rw[eR (fun k=>bS k)];simp⟩
theorem Dv.lin (h:Dv f d) (h':Dv g d) (q:List Int) (c c':Int):Dv (fun i=>c*f i+c'*conv (cf q) g i) d:=by
 obtain⟨k,u,hk,hu⟩:=h;obtain⟨l,v,hl,hv⟩:=h';refine⟨k*l,dG (u.map (·*(l*c))) (aY q v) (k*c'),Int.mul_ne_zero hk hl,fun i=> ?_⟩;have e:∀j,cf (dG (u.map (·*(l*c))) (aY q v) (k*c')) j=(l*c)*cf u j+(k*c')*conv (cf q) (cf v) j:=fun j=>by
  rw[AQ,qV,xJ,Int.mul_comm (cf u j),Int.mul_comm (conv _ _ _)]
 rw[cO e (fun _=>rfl),j7,fF,fF,←hu,AO,cO (fun _=>rfl) (fun j=>(hv j).symm),kZ];grind
theorem Dv.cancel {c:Int} (hc:c≠0) (h:Dv (fun i=>c*f i) d):Dv f d:=by
 obtain⟨k,u,hk,hu⟩:=h;exact⟨k*c,u,Int.mul_ne_zero hk hc,fun i=>by rw[Int.mul_assoc];exact hu i⟩
theorem Dv.none {r y:List Int} (h:Dv (cf r) y) (hl:r.length<y.length) (ty:aN y):∀i,cf r i=0:=by
 obtain⟨k,u,hk,hu⟩:=h;have y0:y≠[]:=fun e=>by rw[e] at hl;simp at hl
 have hz:=xM (d:=cf u) (L:=u.length) y0 ty (fun i hi=>aP hi) (fun i hi=>by rw[←hu,aP (by omega)];simp);intro i;have h1:=hu i;rw[eR hz] at h1;rcases Int.mul_eq_zero.1 h1 with h2|h2
 ·exact absurd h2 hk
 ·exact h2
end
theorem WV {a b q r:List Int} {m:Int} {B:Nat} (h:PQRes a b B m q r) (hb:b≠[]) (tb:aN b) (hq:q≠[]):q.length+b.length≤a.length+1:=by
 have q1:q.length≠0:=fun e=>hq (List.eq_nil_of_length_eq_zero e);have b1:b.length≠0:=fun e=>hb (List.eq_nil_of_length_eq_zero e);rcases Nat.lt_or_ge (a.length+1) (q.length+b.length) with hlt|hge
 ·have h1:=h.id_ (q.length-1+(b.length-1));rw[aP (l:=a) (by omega),aP (l:=r) (by have:=h.r_lt;omega),mZ (fun i hi=>aP (by omega)) (fun i hi=>aP (by omega))] at h1;have h2:cf q (q.length-1)*cf b (b.length-1)=0:=by omega
  rcases Int.mul_eq_zero.1 h2 with h3|h3
  ·exact absurd h3 ((cZ hq).1 h.q_trim)
  ·exact absurd h3 ((cZ hb).1 tb)
 ·exact hge
theorem WW (q s:List Int) (hq:q≠[]) (hs:s≠[]):(aY q s).length+1=q.length+s.length:=by
 have:=uZ hq hs;have q1:q.length≠0:=fun e=>hq (List.eq_nil_of_length_eq_zero e);omega
theorem WX (s0 s1 q:List Int) (m:Int):(cS s0 s1 q m).length≤max s0.length (aY q s1).length:=by
 unfold cS;refine Nat.le_trans (cK _ _) ?_;rw[rK];have h1:=cK aG (s0.map (·*m));rw[List.length_map] at h1;omega
structure ExtI (x y:List Int) (D:Int) (a b s0 s1:List Int):Prop where
 c0:Dv (fun i=>D*cf a i+ -1*conv (cf s0) (cf x) i) y
 c1:Dv (fun i=>D*cf b i+ -1*conv (cf s1) (cf x) i) y
 dv:∀d,Dv (cf a) d→Dv (cf b) d→Dv (cf x) d∧Dv (cf y) d
 ne:a≠[]∨b≠[]
 ta:aN a
 tb:aN b
 t0:aN s0
 t1:aN s1
 len:(s1=[]∧a=x∧b=y∧s0.length≤1)∨(s1.length+a.length≤y.length+1∧s0.length+a.length≤y.length∧b.length<a.length)
structure ExtR (x y:List Int) (D:Int) (g s:List Int):Prop where
 c:Dv (fun i=>D*cf g i+ -1*conv (cf s) (cf x) i) y
 dx:Dv (cf x) g
 dy:Dv (cf y) g
 ne:g≠[]
 tg:aN g
 ts:aN s
 len:s.length+g.length≤y.length
theorem IM {x y:List Int} {D:Int} (hy:y≠[]) {B:Nat} {a b s0 s1 g s:List Int} (h:Ext B a b s0 s1 g s):ExtI x y D a b s0 s1→ExtR x y D g s:=by
 induction h with
 |done a s0 s1=>
  intro I;have ha:a≠[]:=I.ne.resolve_right (fun e=>e rfl);have hd:=I.dv a ((Dv.self a 1).congr (fun i=>(Int.one_mul _).symm)) ((Dv.zero a).congr (fun i=>bS i));refine⟨I.c0,hd.1,hd.2,ha,I.ta,I.t0,?_⟩;rcases I.len with ⟨-, -,h, -⟩|⟨-,h, -⟩
  ·exact absurd h.symm hy
  ·exact h
 | @step a b s0 s1 q r g s m c hb hP hc hr hn t ih=>
  intro I;have tn:=X0 s0 s1 q m;refine ih ⟨I.c1,?_,fun d h1 h2=> ?_,.inl hb,I.tb,pQ hP.r_trim hr,I.t1,pQ tn hn,?_⟩
  ·refine Dv.cancel hc ((I.c0.lin I.c1 q m (-1)).congr (fun i=> ?_));have h1:=lM hr i;have h2:c*conv (cf (bK (cS s0 s1 q m) c)) (cf x) i=m*conv (cf s0) (cf x) i+ -1*conv (cf q) (conv (cf s1) (cf x)) i:=by
    rw[←fF,cO (fun j=>(lM hn j).symm) (fun _=>rfl),cO (fun j=>show cf (cS s0 s1 q m) j=m*cf s0 j+ -1*conv (cf q) (cf s1) j by rw[AS,Int.mul_comm];omega) (fun _=>rfl),j7,fF,fF,AO]
   have h3:conv (cf q) (fun i=>D*cf b i+ -1*conv (cf s1) (cf x) i) i=D*conv (cf q) (cf b) i+ -1*conv (cf q) (conv (cf s1) (cf x)) i:=by
    rw[NX,kZ,kZ]
   have h4:=hP.id_ i;show c*(D*cf (bK r c) i+ -1*conv (cf (bK (cS s0 s1 q m) c)) (cf x) i)=m*(D*cf a i+ -1*conv (cf s0) (cf x) i)+ -1*conv (cf q) (fun i=>D*cf b i+ -1*conv (cf s1) (cf x) i) i
   rw[h3];grind
  ·refine I.dv d (Dv.cancel hP.m0 ((h2.lin h1 q c 1).congr (fun i=> ?_))) h1;show m*cf a i=c*cf (bK r c) i+1*conv (cf q) (cf b) i
   rw[hP.id_ i,lM hr i];omega
  ·have l1:=j9 r c;have l2:=j9 (cS s0 s1 q m) c;have l3:=WX s0 s1 q m;have lr:=hP.r_lt;rw[l1,l2];right;rcases I.len with ⟨e1,e2,e3,e4⟩|⟨e1,e2,e3⟩
   ·subst e1;have:(aY q []).length=0:=by unfold aY;rw[if_pos (.inr rfl)];rfl
    rw[e3] at lr⊢;exact⟨by omega,by simp,by omega⟩
   ·refine⟨?_,by omega,by omega⟩;by_cases hq:q=[]
    ·have:(aY q s1).length=0:=by unfold aY;rw[if_pos (.inl hq)];rfl
     omega
    ·by_cases hs:s1=[]
     ·have:(aY q s1).length=0:=by unfold aY;rw[if_pos (.inr hs)];rfl
      omega
     ·have h1:=WW q s1 hq hs;have h2:=WV hP hb I.tb hq;omega
theorem IN {x y:List Int} {D:Int} (hy:y≠[]) (tx:aN x) (ty:aN y) (hD:D≠0):ExtI x y D x y [D] []:=by
 refine⟨(Dv.zero y).congr (fun i=> ?_),(Dv.self y D).congr (fun i=> ?_),fun d h1 h2=>⟨h1,h2⟩,.inr hy,tx,ty,fun a h=> ?_,fun a h=>by simp at h,.inl ⟨rfl,rfl,rfl,Nat.le_refl _⟩⟩
 ·obtain⟨k,u,hk,hu⟩:=Dv.self x D;have h:∀k,cf [D] k=if k=0 then D else 0:=fun k=>by
   cases k with
   |zero=>rfl
   |succ k=>rw[aP (by simp)];rfl
  rw[cO h (fun _=>rfl),mY,if_pos (Nat.zero_le _)];show D*cf x i+ -1*(D*cf x i)=0
  omega
 ·rw[eR (fun k=>bS k)];omega
 ·simp at h;rw[←h];exact hD
structure BezRes (A B G S T:List Rat) (Kg K:Nat):Prop where
 id_:∀i,conv (cf S) (cf A) i+conv (cf T) (cf B) i=cf G i
 da:∃U:List Rat,∀i,cf A i=conv (cf U) (cf G) i
 db:∃U:List Rat,∀i,cf B i=conv (cf U) (cf G) i
 ne:G≠[]
 tg:aN G
 ts:aN S
 tt:aN T
 last:cf G (G.length-1)=1
 len:B=[]∨S.length+G.length≤B.length
 lg:G.length≤max A.length B.length
 ls:S.length≤B.length+1
 lt:T.length≤A.length+B.length
 bg:∀q∈G,RL Kg q
 bs:∀q∈S,RL K q
 bt:∀q∈T,RL K q
 bsa:∀i,i≤1000→RL K (conv (cf S) (cf A) i)
 btb:∀i,i≤1000→RL K (conv (cf T) (cf B) i)
theorem rJ {ns:List Int} {l:Int} {K:Nat} (h:∀n∈ns,nl n.natAbs≤K) (hl:nl l.natAbs≤K) (h1:1≤K):∀q∈aT ns l,RL K q:=fun q hq=>by
 unfold aT at hq;obtain⟨n,hn,rfl⟩:=List.mem_map.1 hq;exact lF _ _ _ (h n hn) hl h1
theorem uU {A:List Rat} {D l:Int} (hD:D≠0) (hl:l≠0) (hA:∀q∈A,(q.den:Int)∣D) (s:List Int) (i:Nat):conv (cf (aT s l)) (cf A) i=((conv (cf s) (cf (aI A D)) i:Int):Rat)/((l*D:Int):Rat):=by
 have hD':(D:Rat)≠0:=fun e=>hD (Rat.intCast_inj.1 e);have hl':(l:Rat)≠0:=fun e=>hl (Rat.intCast_inj.1 e);have h1:((conv (cf s) (cf (aI A D)) i:Int):Rat)=l*(D*conv (cf (aT s l)) (cf A) i):=by
  rw[o5,←kZ,←fF];refine cO (fun k=> ?_) (fun k=> ?_) i
  ·rw[jB];grind
  ·rw[lD A D hA];grind
 rw[h1,Rat.intCast_mul];grind
theorem AM {A:List Rat} {D l:Int} (hD:D≠0) (hl:l≠0) (hA:∀q∈A,(q.den:Int)∣D) {g:List Int} (h:Dv (cf (aI A D)) g):∃U:List Rat,∀i,cf A i=conv (cf U) (cf (aT g l)) i:=by
 have hD':(D:Rat)≠0:=fun e=>hD (Rat.intCast_inj.1 e);have hl':(l:Rat)≠0:=fun e=>hl (Rat.intCast_inj.1 e);obtain⟨k,u,hk,hu⟩:=h;have hk':(k:Rat)≠0:=fun e=>hk (Rat.intCast_inj.1 e);refine⟨u.map (fun n:Int=>(n:Rat)*((l:Rat)/((k:Rat)*D))),fun i=> ?_⟩;have e:∀j,cf (u.map (fun n:Int=>(n:Rat)*((l:Rat)/((k:Rat)*D)))) j=((l:Rat)/((k:Rat)*D))*((cf u j:Int):Rat):=fun j=>by
  rw[nY (fun n:Int=>(n:Rat)*((l:Rat)/((k:Rat)*D))) (by simp) u j,Rat.mul_comm]
 have h1:((k*cf (aI A D) i:Int):Rat)=l*conv (fun j=>((cf u j:Int):Rat)) (cf (aT g l)) i:=by
  rw[hu,o5,←kZ];exact cO (fun _=>rfl) (fun j=>by rw[jB];grind) i
 rw[cO e (fun _=>rfl),fF];rw[Rat.intCast_mul,lD A D hA] at h1;grind
theorem WT {A B:List Rat} {D E m:Int} {g s q r:List Int} {K0 Kx Bg BS KB K:Nat} (hA:ComDen A D K0) (hB:ComDen B E K0) (tB:aN (aI B E)) (R:ExtR (aI A D) (aI B E) D g s)
  (P:PQRes (aH aG (dG (aH aG (g.map (·*D))) (aY s (aI A D)) (-1))) (aI B E) KB m q r)
  (kx:∀n∈aI A D,nl n.natAbs≤Kx) (ky:∀n∈aI B E,nl n.natAbs≤Kx) (kg:∀n∈g,nl n.natAbs≤Bg) (ks:∀n∈s,nl n.natAbs≤BS) (hK:Bg+BS+KB+K0+Kx+1≤K) (hlg:g.length≤max A.length B.length) (h1:1≤Bg):
  BezRes A B (aT g (cf g (g.length-1))) (aT s (cf g (g.length-1))) (aT (aH aG (q.map (·*E))) (cf g (g.length-1)*D*m)) Bg K:=by
 have hD0:D≠0:=by have:=hA.pos;omega
 have hE0:E≠0:=by have:=hB.pos;omega
 have hl0:cf g (g.length-1)≠0:=(cZ R.ne).1 R.tg;have bl:nl (cf g (g.length-1)).natAbs≤Bg:=cI kg _;generalize hl:cf g (g.length-1)=l at *;have hm0:=P.m0;have hc:∀i,cf (aH aG (dG (aH aG (g.map (·*D))) (aY s (aI A D)) (-1))) i=D*cf g i+ -1*conv (cf s) (cf (aI A D)) i:=fun i=>by
  rw[dS,AQ,dS,qV,xJ];grind
 have hr:=Dv.none (r:=r) (((R.c.congr hc).lin (Dv.self (aI B E) 1) q m (-1)).congr (fun i=>by
  have h1:=P.id_ i;have h2:conv (cf q) (fun i=>1*cf (aI B E) i) i=conv (cf q) (cf (aI B E)) i:=cO (fun _=>rfl) (fun j=>Int.one_mul _) i
  rw[h2];omega)) P.r_lt tB
 have hLD:l*D≠0:=Int.mul_ne_zero hl0 hD0;have hLDm:l*D*m≠0:=Int.mul_ne_zero hLD hm0;have hT:∀i,conv (cf (aT (aH aG (q.map (·*E))) (l*D*m))) (cf B) i=((conv (cf q) (cf (aI B E)) i:Int):Rat)/((l*D*m:Int):Rat):=fun i=>by
  rw[uU hE0 hLDm hB.dvd];have h1:conv (cf (aH aG (q.map (·*E)))) (cf (aI B E)) i=E*conv (cf q) (cf (aI B E)) i:=by
   rw[←fF];exact cO (fun k=>by rw[dS,qV,Int.mul_comm]) (fun _=>rfl) i
  have h2:(E:Rat)≠0:=fun e=>hE0 (Rat.intCast_inj.1 e);have h3:((l*D*m:Int):Rat)≠0:=fun e=>hLDm (Rat.intCast_inj.1 e);rw[h1,Rat.intCast_mul,Rat.intCast_mul (l*D*m)];grind
 have bD:=hA.nl_;have bLD:nl (l*D).natAbs≤Bg+K0:=bZ _ _ _ _ bl bD;have bLDm:nl (l*D*m).natAbs≤Bg+K0+KB:=bZ _ _ _ _ bLD P.bm;have lx:=eK A D;have ly:=eK B E;have lq:(aH aG (q.map (·*E))).length≤q.length:=Nat.le_trans (cK _ _) (by rw[List.length_map];exact Nat.le_refl _);have lz:=R.len;have lrest:q.length≤A.length+B.length:=by
  have h1:=P.q_len;have h2:=cK aG (dG (aH aG (g.map (·*D))) (aY s (aI A D)) (-1));rw[rK] at h2;have h3:=cK aG (g.map (·*D));rw[List.length_map] at h3;have h4:(aY s (aI A D)).length≤s.length+A.length:=by
   unfold aY;split
   ·simp
   ·rw[List.length_map,List.length_range];omega
  omega
 refine⟨fun i=> ?_,AM hD0 hl0 hA.dvd R.dx,AM hE0 hl0 hB.dvd R.dy,fun e=>R.ne (by unfold aT at e;exact List.map_eq_nil_iff.1 e),mN hl0 R.tg,mN hl0 R.ts,mN hLDm (fC _),?_,.inr ?_,?_,?_,?_,?_,?_,?_,fun i hi=> ?_,fun i hi=> ?_⟩
 ·rw[hT,uU hD0 hl0 hA.dvd,jB];have h1:=P.id_ i;rw[hr i,hc i] at h1;have h2:((m*(D*cf g i+ -1*conv (cf s) (cf (aI A D)) i):Int):Rat)=((conv (cf q) (cf (aI B E)) i+0:Int):Rat):=by rw[h1]
  simp only[Rat.intCast_mul,Rat.intCast_add] at h2;have h3:(l:Rat)≠0:=fun e=>hl0 (Rat.intCast_inj.1 e);have h4:(D:Rat)≠0:=fun e=>hD0 (Rat.intCast_inj.1 e);have h5:(m:Rat)≠0:=fun e=>hm0 (Rat.intCast_inj.1 e);simp only[Rat.intCast_mul];have h6:((-1:Int):Rat)= -1:=rfl;have h7:((0:Int):Rat)=0:=rfl;rw[h6,h7] at h2;grind
 ·rw[jB];unfold aT;rw[List.length_map,hl];have h3:(l:Rat)≠0:=fun e=>hl0 (Rat.intCast_inj.1 e);grind
 ·unfold aT;rw[List.length_map,List.length_map];omega
 ·unfold aT;rw[List.length_map];exact hlg
 ·unfold aT;rw[List.length_map];omega
 ·unfold aT;rw[List.length_map];omega
 ·exact rJ kg bl h1
 ·exact rJ (fun n hn=>Nat.le_trans (ks n hn) (by omega)) (by omega) (by omega)
 ·refine rJ (fun n hn=> ?_) (by omega) (by omega);obtain⟨k,hk,rfl⟩:=List.mem_map.1 (fQ hn);exact Nat.le_trans (bZ _ _ _ _ (P.bq k hk) hB.nl_) (by omega)
 ·rw[uU hD0 hl0 hA.dvd];exact lF _ _ _ (Nat.le_trans (uC (cI ks) (cI kx) (by omega)) (by omega)) (by omega) (by omega)
 ·rw[hT];exact lF _ _ _ (Nat.le_trans (uC (cI P.bq) (cI ky) (by omega)) (by omega)) (by omega) (by omega)
theorem WQ {c:Rat} (h:c≠0):c⁻¹≠0:=fun e=>h (by have:=Rat.inv_inv c;rw[e,Rat.inv_zero] at this;exact this.symm)
theorem lL {c d:Rat} (h:c≠0) (k:d≠0):c*d≠0:=fun e=>(Rat.mul_eq_zero.1 e).elim h k
theorem uT {c d:Rat} (h:c≠0) (k:d≠0):c/d≠0:=by rw[Rat.div_def];exact lL h (WQ k)
theorem WR {A B:List Rat} {K:Nat} (hB:cf B (B.length-1)≠0) (hn:1≤B.length) (hl:B.length≤A.length) (kA:∀q∈A,RL K q) (kB:∀q∈B,RL K q) (h1:1≤K):
  ∀k,k≤A.length-B.length+1→∃Q R,Q.length=A.length-B.length+1∧R.length=A.length∧DivJ A B Q R (A.length-B.length+1-k)∧(∀q∈Q,RL (2*fI K (A.length-B.length+1)) q)∧∀q∈R,RL (fI K k) q:=by
 have hge:=rB K (A.length-B.length+1);intro k;induction k with
 |zero=>exact fun _=>⟨_,A,List.length_replicate ..,rfl,DivJ.start A B hl,(fun q hq=>bV (uO _ q hq) (by omega)),kA⟩
 |succ k ih=>
  intro hk;obtain⟨Q,R,hQ,hR,hJ,kQ,kR⟩:=ih (by omega);obtain⟨i,hi⟩:∃i,A.length-B.length+1-k=i+1:=⟨A.length-B.length-k,by omega⟩;rw[hi] at hJ;have hgk:=rB K k;have hm:=jW K (show k≤A.length-B.length+1 by omega);have kf:=jX (fV kR (eO (by omega)) (i+B.length-1)) (fV kB (eO h1) (B.length-1));obtain⟨f,hf⟩:∃f,f=cf R (i+B.length-1)/cf B (B.length-1):=⟨_,rfl⟩;rw[←hf] at kf;have hs:=hJ.step hB hn (by omega) (by omega) hf;refine⟨Q.set i f,d8 R (fun j=>cf R j-f*cf B (j-i)) i B.length,by rw[List.length_set];exact hQ,by rw[jH];exact hR,by rw[show A.length-B.length+1-(k+1)=i by omega];exact hs,fun q hq=> ?_,uN (eI kR (by rw[fI];omega)) (fun j=>bV (zZ (fV kR (eO (by omega)) j) (iB kf (fV kB (eO h1) _))) (by rw[fI];omega)) (by rw[fI];omega)⟩;rcases List.mem_or_eq_of_mem_set hq with hq|rfl
  ·exact kQ q hq
  ·exact bV kf (by omega)
theorem WS {r G P:List Rat} {K:Nat} (h:∀i,conv (cf r) (cf G) i=cf P i) (tr:aN r) (hG:cf G (G.length-1)≠0) (hn:1≤G.length) (kP:∀q∈P,RL K q) (kG:∀q∈G,RL K q) (h1:1≤K):∀q∈r,RL (2*fI K (P.length-G.length+1)) q:=by
 have hD:DivQ P G r []:=⟨fun i=>by rw[bS,Rat.add_zero];exact h i,tr,(fun a ha=>by simp at ha),hn⟩;by_cases hl:G.length≤P.length
 ·obtain⟨Q,R, -, -,hJ,kQ, -⟩:=WR hG hn hl kP kG h1 (P.length-G.length+1) (Nat.le_refl _);rw[Nat.sub_self] at hJ;obtain⟨rfl, -⟩:=hD.unique (hJ.done hn) hG hn;exact fun q hq=>kQ q (fQ hq)
 ·obtain⟨rfl, -⟩:=hD.unique (DivQ.short (by omega)) hG hn;exact fun q hq=>by cases hq
structure Rl (G:List Rat) (c:Rat) (r:List Rat) (e:List Int):Prop where
 c0:c≠0
 r_:∀i,conv (cf r) (cf G) i=c*cf e i
 tr:aN r
 te:aN e
theorem Rl.len {G r:List Rat} {c:Rat} {e:List Int} (h:Rl G c r e) (hG:cf G (G.length-1)≠0) (hn:1≤G.length):(r=[]→e=[])∧(r≠[]→r.length+G.length=e.length+1):=by
 constructor
 ·rintro rfl;refine DQ h.te (fun i=> ?_);have:=h.r_ i;rw[eR (fun k=>bS k)] at this;rcases Rat.mul_eq_zero.1 this.symm with h1|h1
  ·exact absurd h1 h.c0
  ·exact Rat.intCast_inj.1 h1
 ·intro h0;have hr:=List.length_pos_iff.2 h0;have hlr:=(cZ h0).1 h.tr;have hlead:=mZ (p:=cf r) (q:=cf G) (m:=r.length-1) (n:=G.length-1) (fun i hi=>aP (by omega)) (fun i hi=>aP (by omega));rw[h.r_] at hlead;have hne:cf e (r.length-1+(G.length-1))≠0:=fun e0=>by
   rw[e0,Rat.intCast_zero,Rat.mul_zero] at hlead;exact lL hlr hG hlead.symm
  have hlt:r.length-1+(G.length-1)<e.length:=by
   rcases Nat.lt_or_ge (r.length-1+(G.length-1)) e.length with h1|h1
   ·exact h1
   ·exact absurd (aP h1) hne
  have he0:e≠[]:=fun e0=>by rw[e0] at hlt;simp at hlt
  have htop:¬r.length+(G.length-1)<e.length:=fun h1=>by
   have h2:=(cZ he0).1 h.te;have h3:=o6 (p:=cf r) (q:=cf G) (m:=r.length) (n:=G.length) (fun i hi=>aP hi) (fun i hi=>aP hi) (i:=e.length-1) (by omega);rw[h.r_] at h3;exact lL h.c0 (fJ h2) h3
  omega
theorem IL {G r0 r1 Q R:List Rat} {c0 c1:Rat} {e0 e1 q r:List Int} {B:Nat} {m:Int} (hG:cf G (G.length-1)≠0) (hn:1≤G.length) (h0:∀i,conv (cf r0) (cf G) i=c0*cf e0 i) (h1:Rl G c1 r1 e1) (hr1:r1≠[]) (h:PQRes e0 e1 B m q r) (hD:DivQ r0 r1 Q R):
  (∀i,cf Q i=c0/(m*c1)*cf q i)∧∀i,conv (cf R) (cf G) i=c0/m*cf r i:=by
 have hm:=fJ h.m0;have hmc:=lL hm h1.c0;have hl1:=(h1.len hG hn).2 hr1;have he1:e1≠[]:=fun e=>by
  have:=List.length_pos_iff.2 hr1;rw[e] at hl1;simp at hl1;omega
 let E1:List Rat:=e1.map (fun n:Int=>(n:Rat));have cE:∀i,cf E1 i=((cf e1 i:Int):Rat):=fun i=>nY (fun n:Int=>(n:Rat)) rfl e1 i;have lE:E1.length=e1.length:=List.length_map _;have hE:cf E1 (E1.length-1)≠0:=by rw[cE,lE];exact fJ ((cZ he1).1 h1.te)
 have key:∀i,conv (fun k=>c1*cf Q k+(-1)*(c0/m*((cf q k:Int):Rat))) (cf E1) i=c0/m*cf r i-conv (cf R) (cf G) i:=fun i=>by
  rw[j7,fF,fF,fF];have e1':conv (cf Q) (conv (cf r1) (cf G)) i+conv (cf R) (cf G) i=conv (cf r0) (cf G) i:=by
   rw[←AO,←j7];exact cO (fun k=>hD.id_ k) (fun _=>rfl) i
  rw[h0,cO (fun _=>rfl) (fun k=>by rw[h1.r_,←cE]) i,kZ] at e1';have e2:((m*cf e0 i:Int):Rat)=((conv (cf q) (cf e1) i+cf r i:Int):Rat):=by rw[h.id_ i]
  rw[Rat.intCast_mul,Rat.intCast_add,o5,cO (fun _=>rfl) (fun k=>(cE k).symm) i] at e2;generalize conv (cf Q) (cf E1) i=x at *
  generalize conv (fun k=>((cf q k:Int):Rat)) (cf E1) i=y at *
  generalize conv (cf R) (cf G) i=z at *
  have h3:c0/m*(m*cf e0 i)=c0*cf e0 i:=by rw[←Rat.mul_assoc,Rat.div_mul_cancel hm]
  rw[e2] at h3;grind
 have hz:=H5 (d:=fun k=>c1*cf Q k+(-1)*(c0/m*((cf q k:Int):Rat))) (ys:=E1) (L:=Q.length+q.length) hE (by rw[lE];exact List.length_pos_iff.2 he1) (fun i hi=>by
  show c1*cf Q i+(-1)*(c0/m*((cf q i:Int):Rat))=0
  rw[aP (l:=Q) (by omega),aP (l:=q) (by omega),Rat.intCast_zero];grind) (fun i hi=>by
  rw[key,aP (l:=r) (by have:=h.r_lt;rw[lE] at hi;omega),o6 (p:=cf R) (q:=cf G) (m:=R.length) (n:=G.length) (fun i hi=>aP hi) (fun i hi=>aP hi) (by have:=hD.r_lt;rw[lE] at hi;omega),Rat.intCast_zero];grind)
 refine⟨fun i=> ?_,fun i=> ?_⟩
 ·have h2:=hz i;have h3:c0/(m*c1)*cf q i*c1=c0/m*cf q i:=by
   have h4:c0/(m*c1)*(m*c1)=c0:=Rat.div_mul_cancel hmc;have h5:c0/m*m=c0:=Rat.div_mul_cancel hm;have h6:(c0/(m*c1)*c1-c0/m)*m=0:=by grind
   rcases Rat.mul_eq_zero.1 h6 with h7|h7
   ·grind
   ·exact absurd h7 hm
  have h8:(cf Q i-c0/(m*c1)*cf q i)*c1=0:=by grind
  rcases Rat.mul_eq_zero.1 h8 with h9|h9
  ·grind
  ·exact absurd h9 h1.c0
 ·have h2:=key i;rw[eR hz] at h2;grind
end Go.Proofs.YtlojjipfnejbnaaGreatDoor
namespace Go.Proofs.YtlojjipfnejbnaaGreatDoor
open Go.RowKit Sos
theorem XE {A:List Rat} {D:Int} {K0 Kx K:Nat} (hA:ComDen A D K0) (h0:aI A D≠[]) (tx:aN (aI A D)) (kx:∀n∈aI A D,nl n.natAbs≤Kx) (hK:K0+Kx+1≤K) (h1:1≤Kx):
  BezRes A [] (aT (aI A D) (cf (aI A D) ((aI A D).length-1))) (aT [D] (cf (aI A D) ((aI A D).length-1))) [] Kx K:=by
 have hD0:D≠0:=by have:=hA.pos;omega
 have hl0:=(cZ h0).1 tx;have bl:nl (cf (aI A D) ((aI A D).length-1)).natAbs≤Kx:=cI kx _;have hlen:=eK A D;generalize hl:cf (aI A D) ((aI A D).length-1)=l at *;have h3:(l:Rat)≠0:=fun e=>hl0 (Rat.intCast_inj.1 e);have h4:(D:Rat)≠0:=fun e=>hD0 (Rat.intCast_inj.1 e);have hcD:∀k,cf [D] k=if k=0 then D else 0:=fun k=>by
  cases k with
  |zero=>rfl
  |succ k=>rw[aP (by simp)];rfl
 have bD:=hA.nl_;have hsa:∀i,conv (cf (aT [D] l)) (cf A) i=cf (aT (aI A D) l) i:=fun i=>by
  rw[uU hD0 hl0 hA.dvd,jB,cO hcD (fun _=>rfl),mY,if_pos (Nat.zero_le _),Rat.intCast_mul,Rat.intCast_mul];show(D:Rat)*_/_=_
  rw[Nat.sub_zero];grind
 have bg:∀q∈aT (aI A D) l,RL Kx q:=rJ kx bl h1;refine⟨fun i=> ?_,AM hD0 hl0 hA.dvd ((Dv.self (aI A D) 1).congr (fun i=>(Int.one_mul _).symm)),⟨[],fun i=> ?_⟩,fun e=>h0 (by unfold aT at e;exact List.map_eq_nil_iff.1 e),mN hl0 tx,mN hl0 (fun a ha=>by simp at ha;rw[←ha];exact hD0),(fun a ha=>by simp at ha),?_,.inl rfl,?_,?_,?_,bg,rJ (fun n hn=>by rw[List.mem_singleton.1 hn];omega) (by omega) (by omega),(fun q hq=>by cases hq),fun i _=> ?_,fun i _=> ?_⟩
 ·rw[hsa,eR (fun k=>bS k)];grind
 ·rw[bS,eR (fun k=>bS k)]
 ·rw[jB];unfold aT;rw[List.length_map,hl];grind
 ·unfold aT;rw[List.length_map];simp;omega
 ·unfold aT;simp
 ·simp
 ·rw[hsa];exact bV (AB bg (eO h1) i) (by omega)
 ·rw[eR (fun k=>bS k)];exact eO (by omega)
def oI (A B G S T:List Rat):Prop:=(B=[]∧T=[]∧∃D,ComDen A D 8∧G=aT (aI A D) (cf (aI A D) ((aI A D).length-1))∧S=aT [D] (cf (aI A D) ((aI A D).length-1)))∨
 (B≠[]∧∃D E g s,ComDen A D 8∧ComDen B E 8∧Ext 43740 (aI A D) (aI B E) [D] [] g s∧G=aT g (cf g (g.length-1))∧S=aT s (cf g (g.length-1))∧(∀n∈g,nl n.natAbs≤43740))
def XF (w:World) (a b:List (List UInt8)) (e:Ending) (w':World):Prop:=
 ∃vg vs vt G S T,e= .returned (.tuple #[vg,vs,vt,.int .i64 0])∧StrsAt w' vg (G.map aO)∧StrsAt w' vs (S.map aO)∧StrsAt w' vt (T.map aO)∧
  (a=[]∧b=[]∧G=[]∧S=[]∧T=[]∨BezRes (aE a) (aE b) G S T 43740 2800000∧oI (aE a) (aE b) G S T)∧Below w.heap.size w w'
theorem XG (a b:List (List UInt8)) (va vb:Value) (w:World) (hG:Glob w) (ha:StrsAt w va a) (hb':StrsAt w vb b) (hva:vl a=true) (hvb:vl b=true) (hla:a.length≤7) (hlb:b.length≤7) (hsa:∀l∈a,l.length≤6) (hsb:∀l∈b,l.length≤6):
  Calls Tryz.prog 29 #[va,vb] w (XF w a b):=by
 obtain⟨A,c,rfl,hc⟩:=ha.form;obtain⟨A',c',rfl,hc'⟩:=hb'.form;have hKa:∀q∈aE a,RL 1 q:=fU (fun l hl=>Nat.le_trans (hsa l hl) (by decide));have hKb:∀q∈aE b,RL 1 q:=fU (fun l hl=>Nat.le_trans (hsb l hl) (by decide));go_enter Tryz.func29,Tryz.ntmps29;go_wp2_with fail;refine(mJ a _ _ hG ha (by omega) (fun _ l hl=>Nat.le_trans (hsa l hl) (by decide)) 1 8 7 (fun _=>hKa) (fun _=>hla) (by decide) (by decide) (by unfold aF;decide)).mono ?_;rintro e1 w1 ⟨v1,vd1,xs,D,rfl,hx,hD,hvx,hb1⟩;obtain⟨rfl,hcx⟩:=hvx hva;obtain⟨A1,c1,rfl,hc1⟩:=hx.form;obtain⟨s1,B1,k1,d1,rfl⟩:=hD.form;rw[hva];go_wp2_with fail;obtain⟨w2,e2,hA2,X⟩:=bA w1 [.bool s1,.slice B1 k1 d1] 53;rw[e2];clear e2;replace hx:=hx.below hA2;replace hD:=hD.below hA2;have hb:=aB hb1 hA2;have gxs:=hb1.size;refine(mJ b _ _ (hG.below hb) (hb'.below hb) (by omega) (fun _ l hl=>Nat.le_trans (hsb l hl) (by decide)) 1 8 7 (fun _=>hKb) (fun _=>hlb) (by decide) (by decide) (by unfold aF;decide)).mono ?_;rintro e3 w3 ⟨v3,vd3,ys,E,rfl,hy,hE,hvy,hb3⟩;obtain⟨rfl,hcy⟩:=hvy hvb;obtain⟨A3,c3,rfl,hc3⟩:=hy.form;obtain⟨s3,B3,k3,d3,rfl⟩:=hE.form;rw[hvb];have gX3:=(X.below hb3).lt;replace X:=X.below hb3;replace hx:=hx.below hb3;replace hD:=hD.below hb3;replace hb:=aB hb hb3;obtain⟨p1, -,t1⟩:=fD hva;obtain⟨p2, -,t2⟩:=fD hvb;have lx0:(aI (aE a) D).length=a.length:=by rw[eK];unfold aE;rw[List.length_map]
 have ly0:(aI (aE b) E).length=b.length:=by rw[eK];unfold aE;rw[List.length_map]
 have tx:=gR hcx.pos hcx.dvd t1;have ty:=gR hcy.pos hcy.dvd t2;have bx:=iK _ D 1 _ hKa hcx.nl_;have bY:=iK _ E 1 _ hKb hcy.nl_;have bD:=hcx.nl_;have bE:=hcy.nl_;have HAB:Hid (ComDen (aE a) D (1+7*1)∧ComDen (aE b) E (1+7*1)):=⟨hcx,hcy⟩;have hD0:D≠0:=by have:=hcx.pos;omega
 have Hx0:Hid (aI (aE a) D=[]→a=[]):=fun e=>List.eq_nil_of_length_eq_zero (by rw[←lx0,e];rfl);have Hy0:Hid (aI (aE b) E=[]→b=[]):=fun e=>List.eq_nil_of_length_eq_zero (by rw[←ly0,e];rfl);have lx7:(aI (aE a) D).length≤7:=by omega
 have ly7:(aI (aE b) E).length≤7:=by omega
 have HLX:=Lib.hid lx0;have HLY:=Lib.hid ly0;clear lx0 ly0;clear hcx hcy hvx hvy t1 t2 p1 p2 hKa hKb hsa hsb ha hb' hva hvb;have XA:=fun o:Obj=>(X.alloc o).k2;generalize hNA:aI (aE a) D=NA at *;have HNA:=Lib.hid hNA;generalize hNB:aI (aE b) E=NB at *;have HNB:=Lib.hid hNB;clear hNA hNB;have hx1:=hx.below ((Below.refl w3.heap.size w3).alloc (Nat.le_refl _) (.cells #[.bool s3,.slice B3 k3 d3] 53));by_cases hy0:NB=[]
 ·have qy:((NB.length:Int)==0)=true:=by rw[hy0];rfl
  have hb0:=Hy0.out hy0;by_cases hx0:NA=[]
  ·have qx:((NA.length:Int)==0)=true:=by rw[hx0];rfl
   have ha0:=Hx0.out hx0;have HAA:=Lib.hid (And.intro ha0 hb0);clear hx0 hy0 ha0 hb0;go_wp2_with fail;exact bodyPost_ret (v:= .tuple #[.slice none 0 0,.slice none 0 0,.slice none 0 0,.int .i64 0]) (by simp[results,Tryz.results29,go_sem]) rfl ⟨_,_,_,[],[],[],rfl,StrsAt.nil _ _ _,StrsAt.nil _ _ _,StrsAt.nil _ _ _,.inl ⟨HAA.out.1,HAA.out.2,rfl,rfl,rfl⟩,hb.alloc hb.size _⟩
  ·have qx:((NA.length:Int)==0)=false:=by simpa using hx0
   have hbz:=XE (Kx:=43740) (K:=2800000) HAB.out.1 (by rw[HNA.out];exact hx0) (by rw[HNA.out];exact tx) (by rw[HNA.out];exact fun n hn=>Nat.le_trans (bx n hn) (by decide)) (by decide) (by decide);rw[HNA.out] at hbz;have HBZ:=Lib.hid (show BezRes (aE a) (aE b) _ _ _ _ _ by rw[hb0];exact hbz);have HXD:Hid (oI (aE a) (aE b) (aT NA (cf NA (NA.length-1))) (aT [D] (cf NA (NA.length-1))) []):= .inl ⟨by rw[hb0];rfl,rfl,D,HAB.out.1,by rw[HNA.out],by rw[HNA.out]⟩;have bl:=cI bx (NA.length-1);have hmo:=fun W hG h=>tL NA (.slice A1 NA.length c1) W hG h hx0 9 bx (by decide) (by decide) (by omega);have hle:=fun W h=>mR NA (.slice A1 NA.length c1) W h hx0 (by omega);generalize hlead:cf NA (NA.length-1)=l at *;have hst:=fun W v u hG h k=>p7 [D] l v u W hG h k 9 (fun n hn=>by rw[List.mem_singleton.1 hn];exact Nat.le_trans bD (by decide)) bl (by decide) (by decide) (by simp);clear hx0 hy0 hb0 hbz hlead;go_wp2_with fail;obtain⟨w4,e4,hA4,Y⟩:=bA w3 [.bool s3,.slice B3 k3 d3] 53;rw[e4];clear e4;replace hx:=hx.below hA4;replace hD:=hD.below hA4;replace X:=X.below hA4;replace hb:=aB hb hA4;have hGW:=hG.below hb;have X_l:=X.lt;clear XA hx1 hA4 Y hy hE hG
   go_region_held3 (fun w'=>C2 w' w1.heap.size (.bool s1) (.slice B1 k1 d1))
    (with_reducible exact X.up.k2)
    (first
     |(go_at_call 52;(with_reducible refine(hmo _ hGW.up hx.up).mono ?_);rintro eM wM ⟨vM,rfl,hM,hbM⟩;have:=St.mk hbM)
     |(go_at_call 75;(with_reducible refine(hle _ hx.up).mono ?_);rintro eL wL ⟨vL,rfl,hL,hbL⟩;have:=St.mk hbL)
     |(go_at_call 47;(with_reducible refine(hst _ _ _ hGW.up ((WholeAt.single hD.up).up) hL.up).mono ?_);rintro eS wS ⟨vS,rfl,hS,hbS⟩;have:=St.mk hbS))
   all_goals (
    go_wp2_with fail;exact bodyPost_ret (v:= .tuple #[vM,vS,.slice none 0 0,.int .i64 0]) (by simp[results,Tryz.results29,go_sem]) rfl ⟨_,_,_,_,_,[],rfl,hM.up,hS,StrsAt.nil _ _ _,.inr ⟨HBZ.out,HXD.out⟩,mL hb⟩)
 ·have qy:((NB.length:Int)==0)=false:=by simpa using hy0
  have HY0:=Lib.hid hy0;clear hy0;have hpw:∀x,x≤7→∀y,y≤7→(9+1)*(x-y+2)*3^y≤43740:=by decide
  have hex:=fun W hG h1 h2 h3=>X1 NA NB D (.slice A1 NA.length c1) (.slice A3 NB.length c3) (.agg #[.bool s1,.slice B1 k1 d1]) W hG h1 h2 h3 tx ty hD0 9 43740 306210 bx bY (Nat.le_trans bD (by decide)) (by decide) (hpw _ lx7 _ ly7) (by omega) (by unfold aF;decide) (by omega) (by omega);have HST:=Lib.hid (IN (D:=D) HY0.out tx ty hD0);have hbzz:=fun g s q r m (R:ExtR NA NB D g s) P kg ks hlg=>WT (A:=aE a) (B:=aE b) (D:=D) (E:=E) (m:=m) (g:=g) (s:=s) (q:=q) (r:=r) (Kx:=9) (Bg:=43740) (BS:=306210) (KB:=2449783) (K:=2800000) HAB.out.1 HAB.out.2 (by rw[HNB.out];exact ty) (by rw[HNA.out,HNB.out];exact R) (by rw[HNA.out,HNB.out];exact P) (by rw[HNA.out];exact bx) (by rw[HNB.out];exact bY) kg ks (by decide) hlg (by decide);have HBZ:=Lib.hid hbzz;clear hpw hbzz;have hqx:((NA.length:Int)==0)=true∨((NA.length:Int)==0)=false:=by cases ((NA.length:Int)==0)<;>simp
  rcases hqx with qx|qx
  all_goals (
   go_wp2_with fail;obtain⟨w4,e4,hA4,Y⟩:=bA w3 [.bool s3,.slice B3 k3 d3] 53;rw[e4];clear e4;replace hx:=hx.below hA4;replace hy:=hy.below hA4;replace hD:=hD.below hA4;replace hE:=hE.below hA4;replace X:=X.below hA4;replace hb:=aB hb hA4;clear XA hx1 hA4;refine(hex _ (hG.below hb) hx hy hD).mono ?_;rintro e5 w5 ⟨v5,u5,g,s,rfl,h5,i5,hext,kg,ks,hb5⟩;have RR:=IM HY0.out hext HST.out;have hxd:∀T,oI (aE a) (aE b) (aT g (cf g (g.length-1))) (aT s (cf g (g.length-1))) T:=fun T=> .inr ⟨fun e=>HY0.out (by rw[←HNB.out,e];rfl),D,E,g,s,HAB.out.1,HAB.out.2,by rw[HNA.out,HNB.out];exact hext,rfl,rfl,kg⟩;have HXD:=Lib.hid hxd;clear hxd;have HR:=Lib.hid RR;have hg0:=RR.ne;have lsg:=RR.len;clear hext RR hex;replace hx:=hx.below hb5;replace hy:=hy.below hb5;replace hD:=hD.below hb5;replace hE:=hE.below hb5;replace X:=X.below hb5;replace Y:=Y.below hb5;replace hb:=aB hb hb5;have hg1:g.length≠0:=fun e=>hg0 (List.eq_nil_of_length_eq_zero e);go_wp2_with fail;refine(mR g _ _ h5 hg0 (by omega)).mono ?_;rintro e6 w6 ⟨v6,rfl,h6,hb6⟩;obtain⟨s6,B6,k6,d6,rfl⟩:=h6.form;replace hx:=hx.below hb6;replace hy:=hy.below hb6;replace hD:=hD.below hb6;replace hE:=hE.below hb6;replace X:=X.below hb6;replace Y:=Y.below hb6;replace h5:=h5.below hb6;replace i5:=i5.below hb6;replace hb:=aB hb hb6;have bl:=cI kg (g.length-1);generalize hl:cf g (g.length-1)=l at *;have HL:=Lib.hid hl;clear hl;have XA:=fun o:Obj=>(X.alloc o).k2;go_wp2_with fail;obtain⟨w7,e7,hA7,L⟩:=bA w6 [.bool s6,.slice B6 k6 d6] 53;rw[e7];clear e7 XA;have X_l:=X.lt;have Y_l:=Y.lt;replace hx:=hx.below hA7;replace hy:=hy.below hA7;replace hD:=hD.below hA7;replace hE:=hE.below hA7;replace X:=X.below hA7;replace Y:=Y.below hA7;replace h5:=h5.below hA7;replace i5:=i5.below hA7;replace h6:=h6.below hA7;replace hb:=aB hb hA7;refine(pR g D _ _ _ h5 hD 43740 kg (Nat.le_trans bD (by decide)) (by decide) (by omega)).mono ?_;rintro e8 w8 ⟨v8,rfl,h8,hb8⟩;replace hx:=hx.below hb8;replace hy:=hy.below hb8;replace hD:=hD.below hb8;replace hE:=hE.below hb8;replace X:=X.below hb8;replace Y:=Y.below hb8;replace L:=L.below hb8;replace h5:=h5.below hb8;replace i5:=i5.below hb8;replace h6:=h6.below hb8;replace hb:=aB hb hb8;go_wp2_with fail;refine(vD s NA _ _ _ i5 hx 306210 ks (fun n hn=>Nat.le_trans (bx n hn) (by decide)) (by unfold aF;decide) (by omega) (by omega)).mono ?_;rintro e9 w9 ⟨v9,rfl,h9,hb9⟩;replace hy:=hy.below hb9;replace hD:=hD.below hb9;replace hE:=hE.below hb9;replace X:=X.below hb9;replace Y:=Y.below hb9;replace L:=L.below hb9;replace h5:=h5.below hb9;replace i5:=i5.below hb9;replace h6:=h6.below hb9;replace h8:=h8.below hb9;replace hb:=aB hb hb9;go_wp2_with fail;refine(jK (-1) _ (by decide) (by decide)).mono ?_;rintro e10 w10 ⟨v10,rfl,h10,hb10⟩;replace hy:=hy.below hb10;replace hD:=hD.below hb10;replace hE:=hE.below hb10;replace X:=X.below hb10;replace Y:=Y.below hb10;replace L:=L.below hb10;replace h5:=h5.below hb10;replace i5:=i5.below hb10;replace h6:=h6.below hb10;replace h8:=h8.below hb10;replace h9:=h9.below hb10;replace hb:=aB hb hb10;have x1:∀n∈aH aG (g.map (·*D)),nl n.natAbs≤306221:=fun n hn=>by
    obtain⟨k,hk,rfl⟩:=List.mem_map.1 (fQ hn);exact Nat.le_trans (bZ _ _ _ _ (kg k hk) bD) (by decide)
   have x2:∀n∈aY s NA,nl n.natAbs≤306220:=fun n hn=>Nat.le_trans (AW ks bx (by omega) n hn) (by decide);have x3:∀n∈aH aG (dG (aH aG (g.map (·*D))) (aY s NA) (-1)),nl n.natAbs≤306222:=fun n hn=>IQ (c:=1) x1 x2 (bI (m:=1) (by decide)) (by decide) n (fQ hn);have y1:(aH aG (g.map (·*D))).length≤g.length:=Nat.le_trans (cK _ _) (by rw[List.length_map];exact Nat.le_refl _);have y2:(aY s NA).length≤s.length+NA.length-1:=by
    by_cases h1:s=[]
    ·unfold aY;rw[if_pos (.inl h1)];simp
    ·by_cases h2:NA=[]
     ·unfold aY;rw[if_pos (.inr h2)];simp
     ·rw[uZ h1 h2];exact Nat.le_refl _
   have y3:(aH aG (dG (aH aG (g.map (·*D))) (aY s NA) (-1))).length≤max g.length (s.length+NA.length-1):=Nat.le_trans (cK _ _) (by rw[rK];omega);go_wp2_with fail;refine(IP (aH aG (g.map (·*D))) (aY s NA) (-1) _ _ _ _ h8 h9 h10 306221 (fun n hn=>Nat.le_trans (x1 n hn) (by decide)) (fun n hn=>Nat.le_trans (x2 n hn) (by decide)) (Nat.le_trans (bI (m:=1) (by decide)) (by decide)) (by decide) (by omega) (by omega)).mono ?_;rintro e11 w11 ⟨g11,c11,rfl, -,h11,hb11⟩;replace hy:=hy.below hb11;replace hD:=hD.below hb11;replace hE:=hE.below hb11;replace X:=X.below hb11;replace Y:=Y.below hb11;replace L:=L.below hb11;replace h5:=h5.below hb11;replace i5:=i5.below hb11;replace h6:=h6.below hb11;replace hb:=aB hb hb11;clear x1 x2 y1 y2 h8 h9 h10;have tr:=fC (dG (aH aG (g.map (·*D))) (aY s NA) (-1));have hbzz:=fun q r m P=>HBZ.out g s q r m HR.out P kg ks (by have:=HLY.out;rw[show(aE b).length=b.length from List.length_map _];omega);have HBY:=Lib.hid hbzz;generalize hrest:aH aG (dG (aH aG (g.map (·*D))) (aY s NA) (-1))=rest at *;clear hbzz hrest HBZ;have hm7:(rest.length+1-NB.length)*(306222+1)≤7*(306222+1):=Nat.mul_le_mul_right _ (by omega);have pq:=fun W h1 h2=>pE rest NB (.slice (some ⟨g11,0,none⟩) rest.length c11) (.slice A3 NB.length c3) W h1 h2 HY0.out tr ty 306222 2449783 x3 (fun n hn=>Nat.le_trans (bY n hn) (by decide)) (by decide) (by omega) (by unfold aF;decide) (by omega) (by omega);unfold oA at pq;have lr14:rest.length≤14:=by omega
   clear tr hm7 x3 y3;go_wp2_with fail;refine(pq _ h11 hy).mono ?_;rintro e12 w12 ⟨vq,vr,vm,q,r,m,rfl,hq, -,hm,hres,hb12⟩;obtain⟨s12,B12,k12,d12,rfl⟩:=hm.form;have HZ:=Lib.hid (HBY.out q r m hres);have bq:=hres.bq;have bm:=hres.bm;have lq:=hres.q_len;clear pq hres HBY h11 hy;replace hD:=hD.below hb12;replace hE:=hE.below hb12;replace X:=X.below hb12;replace Y:=Y.below hb12;replace L:=L.below hb12;replace h5:=h5.below hb12;replace i5:=i5.below hb12;replace h6:=h6.below hb12;replace hb:=aB hb hb12;have X_l:=X.lt;have Y_l:=Y.lt;have L_l:=L.lt;have XA:=fun o:Obj=>aa (X.alloc o).k2 (aa (Y.alloc o).k2 (L.alloc o).k2);go_wp2_with fail;obtain⟨w13,e13,hA13,M⟩:=bA w12 [.bool s12,.slice B12 k12 d12] 53;rw[e13];clear e13 XA;replace hD:=hD.below hA13;replace hE:=hE.below hA13;replace X:=X.below hA13;replace Y:=Y.below hA13;replace L:=L.below hA13;replace h5:=h5.below hA13;replace i5:=i5.below hA13;replace h6:=h6.below hA13;replace hq:=hq.below hA13;replace hm:=hm.below hA13;replace hb:=aB hb hA13;have hsc:=fun W h k=>pR q E vq (.agg #[.bool s3,.slice B3 k3 d3]) W h k 2449783 bq (Nat.le_trans bE (by decide)) (by decide) (by omega);have hmu:=fun W h k=>f8 l D (.agg #[.bool s6,.slice B6 k6 d6]) (.agg #[.bool s1,.slice B1 k1 d1]) W h k (by omega);have blD:=bZ l D _ _ bl bD;have hmv:=fun W v h k=>f8 (l*D) m v (.agg #[.bool s12,.slice B12 k12 d12]) W h k (by omega);have blm:=bZ (l*D) m _ _ blD bm;have z1:∀n∈aH aG (q.map (·*E)),nl n.natAbs≤2800000:=fun n hn=>by
    obtain⟨k,hk,rfl⟩:=List.mem_map.1 (fQ hn);exact Nat.le_trans (bZ _ _ _ _ (bq k hk) bE) (by decide)
   have z2:(aH aG (q.map (·*E))).length≤q.length:=Nat.le_trans (cK _ _) (by rw[List.length_map];exact Nat.le_refl _);have hst:=fun W v u hG h k=>p7 (aH aG (q.map (·*E))) (l*D*m) v u W hG h k 2800000 z1 (by omega) (by decide) (by decide) (by omega);have hmo:=fun W hG h=>tL g v5 W hG h hg0 43740 kg (by decide) (by decide) (by omega);have hss:=fun W hG h k=>p7 s l u5 (.agg #[.bool s6,.slice B6 k6 d6]) W hG h k 306210 ks (Nat.le_trans bl (by decide)) (by decide) (by decide) (by omega);have hz:=HZ.out;rw[HL.out] at hz;have HZZ:=Lib.hid hz;have hxd:=HXD.out;(try rw[HL.out] at hxd);have HXX:=Lib.hid hxd;simp only[HL.out] at hmo;have hGW:=hG.below hb;clear hG HL hz HZ hxd HXD hA13 hb12 lr14 z1 z2 bq bm blD blm
   go_region_held3 (fun w'=>C2 w' w1.heap.size (.bool s1) (.slice B1 k1 d1)∧C2 w' w3.heap.size (.bool s3) (.slice B3 k3 d3)∧C2 w' w6.heap.size (.bool s6) (.slice B6 k6 d6)∧C2 w' w12.heap.size (.bool s12) (.slice B12 k12 d12))
    (with_reducible exact⟨X.up.k2,Y.up.k2,L.up.k2,M.up.k2⟩)
    (first
     |(go_at_call 77;(with_reducible refine(hsc _ hq.up hE.up).mono ?_);rintro eA wA ⟨vA,rfl,hA,hbA⟩;have:=St.mk hbA)
     |(go_at_call 46;(with_reducible refine(hmu _ h6.up hD.up).mono ?_);rintro eB wB ⟨vB,rfl,hB,hbB⟩;have:=St.mk hbB)
     |(go_at_call 46;(with_reducible refine(hmv _ _ hB.up hm.up).mono ?_);rintro eC wC ⟨vC,rfl,hC,hbC⟩;have:=St.mk hbC)
     |(go_at_call 47;(with_reducible refine(hst _ _ _ hGW.up hA.up hC.up).mono ?_);rintro eS wS ⟨vS,rfl,hS,hbS⟩;have:=St.mk hbS))
   all_goals (
    go_wp2_with fail
    go_region_held3 (fun w'=>C2 w' w6.heap.size (.bool s6) (.slice B6 k6 d6))
     (with_reducible exact L.up.k2)
     (first
      |(go_at_call 52;(with_reducible refine(hmo _ hGW.up h5.up).mono ?_);rintro eN wN ⟨vN,rfl,hN,hbN⟩;have:=St.mk hbN)
      |(go_at_call 47;(with_reducible refine(hss _ hGW.up i5.up h6.up).mono ?_);rintro eT wT ⟨vT,rfl,hT,hbT⟩;have:=St.mk hbT))
    all_goals (
     go_wp2_with fail;exact bodyPost_ret (v:= .tuple #[vN,vT,vS,.int .i64 0]) (by simp[results,Tryz.results29,go_sem]) rfl ⟨_,_,_,_,_,_,rfl,hN.up,hT,hS.up,.inr ⟨HZZ.out,HXX.out _⟩,mL hb⟩)))
end Go.Proofs.YtlojjipfnejbnaaGreatDoor
namespace Go.Proofs.YtlojjipfnejbnaaGreatDoor
open Sos
def oH (G:List Rat) (g s:List Int) (r0 r1 s0 s1:List Rat):Prop:=∃(e0 e1 S0 S1:List Int) (c0 c1:Rat) (Kc Ks:Nat),
 Ext 43740 e0 e1 S0 S1 g s∧Rl G c0 r0 e0∧(∀i,cf s0 i=c0*cf S0 i)∧RL Kc c0∧(e1≠[]→Rl G c1 r1 e1∧(∀i,cf s1 i=c1*cf S1 i)∧RL Kc c1)∧(e1=[]→r1=[])∧((∀n∈e0,nl n.natAbs≤43740)∧∀n∈e1,nl n.natAbs≤43740)∧
 ((∀n∈S0,nl n.natAbs≤Ks)∧∀n∈S1,nl n.natAbs≤Ks)∧Kc+131220*e1.length≤1000000∧Ks+e1.length*43743≤306210∧(s0.length+8*e1.length≤64∧s1.length+8*e1.length≤64∧S0.length+8*e1.length≤64∧S1.length+8*e1.length≤64)∧e0.length≤7∧e1.length≤7
section
variable {G:List Rat} {g s:List Int} {r0 r1 s0 s1:List Rat}
theorem pP {l:List Rat} {e:List Int} {c:Rat} {K X:Nat} (h:∀i,cf l i=c*cf e i) (kc:RL K c) (ke:∀n∈e,nl n.natAbs≤X) (h1:1≤X):∀q∈l,RL (K+X) q:=fun q hq=>by
 obtain⟨i,hi,rfl⟩:=List.mem_iff_getElem.1 hq;rw[←dO hi,h];exact iB kc ⟨by show nl (cf e i).natAbs≤X;exact cI ke i,by show nl 1≤X;exact Nat.le_trans (bI (m:=1) (by unfold BN;decide)) h1⟩
theorem lK {n:Int} {X:Nat} (h:nl n.natAbs≤X) (h1:1≤X):RL X (n:Rat):=⟨h,by show nl 1≤X;exact Nat.le_trans (bI (m:=1) (by unfold BN;decide)) h1⟩
theorem IK {r:List Rat} {c:Rat} {e:List Int} (h:Rl G c r e) (hG:cf G (G.length-1)=1) (hn:1≤G.length) (kG:∀q∈G,RL 43740 q) (kc:RL 1000000 c) (ke:∀n∈e,nl n.natAbs≤43740) (le:e.length≤7):
  (∀q∈r,RL (if G.length=1 then 1043740 else 400780288) q)∧r.length≤7∧(G.length≠1→r.length≤6):=by
 have hG0:cf G (G.length-1)≠0:=by rw[hG];decide
 have hl:=h.len hG0 hn;have hlen:r.length≤7∧(G.length≠1→r.length≤6):=by
  by_cases h0:r=[]
  ·rw[h0];exact⟨Nat.zero_le _,fun _=>Nat.zero_le _⟩
  ·have:=hl.2 h0;omega
 refine⟨?_,hlen⟩;by_cases h1:G.length=1
 ·rw[if_pos h1];refine pP (K:=1000000) (X:=43740) (fun i=> ?_) kc ke (by decide);rw[←h.r_ i];have hg:∀k,cf G k=if k=0 then 1 else 0:=fun k=>by
   by_cases hk:k=0
   ·rw[if_pos hk,hk,←hG,h1]
   ·rw[if_neg hk];exact aP (by omega)
  rw[jR,cO hg (fun _=>rfl) i,mY,if_pos (Nat.zero_le _),Rat.one_mul,Nat.sub_zero]
 ·rw[if_neg h1];have hp:=pP (l:=e.map (fun n:Int=>c*(n:Rat))) (fun i=>rG c e i) kc ke (by decide);have hq:=WS (P:=e.map (fun n:Int=>c*(n:Rat))) (fun i=>by rw[rG];exact h.r_ i) h.tr hG0 hn hp (eI kG (by decide)) (by decide);rw[List.length_map] at hq;have hdv:=nD (1000000+43740) 6;have hm:=jW (1000000+43740) (show e.length-G.length+1≤6 by omega);exact eI hq (by omega)
theorem WM {A B w u k r1:List Rat} {D E:Int} (hA:ComDen A D 8) (hB:ComDen B E 8) (tA:aN A) (tB:aN B) (kA:∀q∈A,RL 1 q) (kB:∀q∈B,RL 1 q) (lA:A.length≤7) (lB:B.length≤7) (hB0:B≠[]) (hX:Ext 43740 (aI A D) (aI B E) [D] [] g s)
  (hG:cf G (G.length-1)≠0) (hn:1≤G.length) (hw:∀i,conv (cf w) (cf G) i=cf B i) (hu:∀i,conv (cf u) (cf G) i=cf A i) (tw:aN w) (hw0:w≠[]) (hD:DivQ u w k r1):oH G g s w r1 [] [1]:=by
 have hD0:=fJ (show D≠0 by have:=hA.pos;omega);have hE0:=fJ (show E≠0 by have:=hB.pos;omega);have hE1:1/(E:Rat)≠0:=uT (by decide) hE0;have ty:=gR hB.pos hB.dvd tB;have kx:=iK _ D 1 _ kA hA.nl_;have ky:=iK _ E 1 _ kB hB.nl_;have lx:=eK A D;have ly:=eK B E;have kD:RL 8 (D:Rat):=lK hA.nl_ (by decide);have kE:RL 8 (E:Rat):=lK hB.nl_ (by decide);have k1:RL 1 (1:Rat):=AA (n:=1) (by decide);have R0:Rl G (1/(E:Rat)) w (aI B E):=⟨hE1,fun i=>by rw[hw,lD B E hB.dvd];grind,tw,ty⟩;generalize hx:aI A D=x at *;generalize hy:aI B E=y at *;cases hX with
 |done=>exact absurd (List.eq_nil_of_length_eq_zero (by rw[←ly];rfl)) hB0
 | @step _ _ _ _ q r' _ _ m c hb hP hc hr hnx t=>
  have hm:=fJ hP.m0;have hcr:=fJ hc;obtain⟨-,hR⟩:=IL hG hn (c0:=1/(D:Rat)) (fun i=>by rw[hu,←hx,lD A D hA.dvd];grind) R0 hw0 hP hD;have hc1:1/(D:Rat)/m*c≠0:=lL (uT (uT (by decide) hD0) hm) hcr;have hRl:Rl G (1/(D:Rat)/m*c) r1 (bK r' c):=⟨hc1,fun i=>by rw[hR,lM hr i,Rat.intCast_mul];grind,hD.r_trim,pQ hP.r_trim hr⟩;have ll:=j9 r' c;have hrl:=hP.r_lt;have hNS:=AU (s0:=[D]) (s1:=[]) (q:=q) (m:=m) (Ks:=8) (B:=43740) (fun n hn=>by rw[List.mem_singleton.1 hn];exact hA.nl_) (fun n hn=>by cases hn) hP.bq hP.bm (by have:=hP.q_len;simp;omega);have kdr:∀n∈bK r' c,nl n.natAbs≤43740:=n8 hP.br;refine⟨y,bK r' c,[],bK (cS [D] [] q m) c,1/(E:Rat),1/(D:Rat)/m*c,131229,43751,t,R0,(fun i=>by rw[bS,bS,Rat.intCast_zero,Rat.mul_zero]),bV (jX k1 kE) (by decide),fun he=>⟨hRl,fun i=> ?_,?_⟩,fun he=> ?_,⟨fun n hn=>Nat.le_trans (ky n hn) (by decide),kdr⟩,⟨(fun n hn=>by cases hn),n8 hNS⟩,by omega,by omega,⟨by simp;omega,by simp;omega,by simp;omega,?_⟩,by omega,by omega⟩
  ·have h1:=lM hnx i;have h2:cf (cS [D] [] q m) i=cf [D] i*m:=by
    rw[AS,jR,eR (fun k=>bS k)];omega
   rw[h2] at h1;have h3:((cf [D] i*m:Int):Rat)=((c*cf (bK (cS [D] [] q m) c) i:Int):Rat):=by rw[h1]
   rw[Rat.intCast_mul,Rat.intCast_mul] at h3;have h4:1/(D:Rat)/m*c*((cf (bK (cS [D] [] q m) c) i:Int):Rat)=1/(D:Rat)/m*(((cf [D] i:Int):Rat)*m):=by rw[h3];grind
   rw[h4];cases i with
   |zero=>
    show(1:Rat)=1/(D:Rat)/m*((D:Rat)*m)
    grind
   |succ i=>
    rw[aP (l:=([1]:List Rat)) (by simp),aP (l:=[D]) (by simp),Rat.intCast_zero,Rat.zero_mul,Rat.mul_zero]
  ·have hl:=(cZ he).1 hRl.te;have hle:=fJ hl;have e1:1/(D:Rat)/m*c=1/(D:Rat)/m*((cf r' ((bK r' c).length-1):Int):Rat)/((cf (bK r' c) ((bK r' c).length-1):Int):Rat):=by
    rw[lM hr,Rat.intCast_mul];grind
   rw[e1];exact bV (jX (iB (jX (jX k1 kD) (lK hP.bm (by decide))) (lK (cI hP.br _) (by decide))) (lK (cI kdr _) (by decide))) (by decide)
  ·have h1:r'=[]:=List.eq_nil_of_length_eq_zero (by rw[←ll,he];rfl);by_cases h0:r1=[]
   ·exact h0
   ·have:=(hRl.len hG hn).2 h0;rw[he] at this;have:=List.length_pos_iff.2 h0;simp at *;omega
  ·have h1:=AV [D] [] q m;have h2:=j9 (cS [D] [] q m) c;have h3:=hP.q_len;simp at h1;omega
theorem WN {Q R:List Rat} (H:oH G g s r0 r1 s0 s1) (hr1:r1≠[]) (hG:cf G (G.length-1)≠0) (hn:1≤G.length) (hD:DivQ r0 r1 Q R) (hQl:Q.length≤7):
  (∀q∈Q,RL 2087480 q)∧(∀q∈s0,RL 1306210 q)∧(∀q∈s1,RL 1306210 q)∧s0.length≤64∧s1.length≤64∧oH G g s r1 R s1 (aH aG (dL s0 (-1) (aH aG (bB Q s1)))):=by
 obtain⟨e0,e1,S0,S1,c0,c1,Kc,Ks,hX,R0,hs0,kc0,h1,h2,⟨k0,k1⟩,⟨K0,K1⟩,b1,b2,⟨b3,b4,b7,b8⟩,b5,b6⟩:=H;have he1:e1≠[]:=fun e=>hr1 (h2 e);obtain⟨R1,hs1,kc1⟩:=h1 he1;cases hX with
 |done=>exact absurd rfl he1
 | @step _ _ _ _ q r' _ _ m c hb hP hc hr hnx t=>
  have hm:=fJ hP.m0;have hcr:=fJ hc;obtain⟨hq,hR⟩:=IL hG hn R0.r_ R1 hr1 hP hD;have hc2:c0/m*c≠0:=lL (uT R0.c0 hm) hcr;have hRl:Rl G (c0/m*c) R (bK r' c):=⟨hc2,fun i=>by rw[hR,lM hr i,Rat.intCast_mul];grind,hD.r_trim,pQ hP.r_trim hr⟩;have ll:=j9 r' c;have hrl:=hP.r_lt;have kdr:∀n∈bK r' c,nl n.natAbs≤43740:=n8 hP.br;have hNS:=AU (s0:=S0) (s1:=S1) (q:=q) (m:=m) (Ks:=Ks) (B:=43740) K0 K1 hP.bq hP.bm;have hkc:Kc≤1000000:=by omega
  have hks:Ks≤306210:=by omega
  have hnl:=AV S0 S1 q m;have hdl:=j9 (cS S0 S1 q m) c;have hql:=hP.q_len;replace hNS:=hNS (by have:=hP.q_len;omega);have kq:=pP hq (jX kc0 (iB (lK hP.bm (by decide)) kc1)) hP.bq (by decide);have l1:s0.length≤64:=by omega
  have l2:s1.length≤64:=by omega
  refine⟨eI kq (by omega),eI (pP hs0 kc0 (fun n hn=>Nat.le_trans (K0 n hn) hks) (by decide)) (by omega),eI (pP hs1 kc1 (fun n hn=>Nat.le_trans (K1 n hn) hks) (by decide)) (by omega),l1,l2,?_⟩;refine⟨e1,bK r' c,S1,bK (cS S0 S1 q m) c,c1,c0/m*c,Kc+131220,Ks+43743,t,R1,hs1,bV kc1 (by omega),fun he=>⟨hRl,fun i=> ?_,?_⟩,fun he=> ?_,⟨k1,kdr⟩,⟨fun n hn=>Nat.le_trans (K1 n hn) (by omega),n8 (fun n hn=>Nat.le_trans (hNS n hn) (by omega))⟩,by omega,by omega,⟨by omega,?_,by omega,by omega⟩,b6,by omega⟩
  ·have h3:=lM hnx i;have h4:=AS S0 S1 q m i;rw[h3] at h4;have h5:((c*cf (bK (cS S0 S1 q m) c) i:Int):Rat)=((cf S0 i*m-conv (cf q) (cf S1) i:Int):Rat):=by rw[h4]
   rw[Rat.intCast_mul,Rat.intCast_sub,Rat.intCast_mul,o5] at h5;rw[dS,oG,dS,xR,hs0,cO hq hs1 i,fF,kZ];generalize conv (fun k=>((cf q k:Int):Rat)) (fun k=>((cf S1 k:Int):Rat)) i=z at *
   have h6:c0/(m*c1)*(c1*z)=c0/m*z:=by
    have h7:c0/(m*c1)*(m*c1)=c0:=Rat.div_mul_cancel (lL hm R1.c0);have h8:c0/m*m=c0:=Rat.div_mul_cancel hm;have h9:(c0/(m*c1)*c1-c0/m)*m=0:=by grind
    rcases Rat.mul_eq_zero.1 h9 with h10|h10
    ·grind
    ·exact absurd h10 hm
   rw[h6];have h8:c0/m*m=c0:=Rat.div_mul_cancel hm;grind
  ·have hl:=(cZ he).1 hRl.te;have hle:=fJ hl;have e1:c0/m*c=c0/m*((cf r' ((bK r' c).length-1):Int):Rat)/((cf (bK r' c) ((bK r' c).length-1):Int):Rat):=by
    rw[lM hr,Rat.intCast_mul];grind
   rw[e1];exact bV (jX (iB (jX kc0 (lK hP.bm (by decide))) (lK (cI hP.br _) (by decide))) (lK (cI kdr _) (by decide))) (by omega)
  ·by_cases h0:R=[]
   ·exact h0
   ·have:=(hRl.len hG hn).2 h0;rw[he] at this;have:=List.length_pos_iff.2 h0;simp at *;omega
  ·have h3:=cK aG (dL s0 (-1) (aH aG (bB Q s1)));rw[zO] at h3;have h4:=cK aG (bB Q s1);have h5:(bB Q s1).length≤Q.length+s1.length:=by unfold bB;split<;>simp<;>omega
   omega
theorem WO (H:oH G g s r0 r1 s0 s1) (hG:cf G (G.length-1)=1) (hn:1≤G.length) (kG:∀q∈G,RL 43740 q):r0.length≤7∧(r1≠[]→cf r1 (r1.length-1)≠0)∧∃KR,1≤KR∧KR≤400780288∧(∀q∈r0,RL KR q)∧(∀q∈r1,RL KR q)∧(1≤r1.length→r1.length≤r0.length→2*fI KR (r0.length-r1.length+1)≤160000000000):=by
 obtain⟨e0,e1,S0,S1,c0,c1,Kc,Ks,hX,R0,hs0,kc0,h1,h2,⟨k0,k1⟩,⟨K0,K1⟩,b1,b2,⟨b3,b4,b7,b8⟩,b5,b6⟩:=H;obtain⟨z1,z2,z3⟩:=IK R0 hG hn kG (bV kc0 (by omega)) k0 b5;have hG0:cf G (G.length-1)≠0:=by rw[hG];decide
 have hr1:(r1≠[]→cf r1 (r1.length-1)≠0)∧∀q∈r1,RL (if G.length=1 then 1043740 else 400780288) q:=by
  by_cases he:e1=[]
  ·rw[h2 he];exact⟨fun h=>absurd rfl h,fun q hq=>by cases hq⟩
  ·obtain⟨R1,hs1,kc1⟩:=h1 he;exact⟨fun h=>(cZ h).1 R1.tr,(IK R1 hG hn kG (bV kc1 (by omega)) k1 b6).1⟩
 refine⟨z2,hr1.1,_,?_,?_,z1,hr1.2,fun y1 y2=> ?_⟩
 ·split<;>decide
 ·split<;>decide
 ·split
  ·have hm:=jW 1043740 (show r0.length-r1.length+1≤7 by omega);have he:=nD 1043740 7;omega
  ·rename_i h;have:=z3 h;have hm:=jW 400780288 (show r0.length-r1.length+1≤6 by omega);have he:=nD 400780288 6;omega
theorem WP (H:oH G g s r0 [] s0 s1) (hGg:G=dB g) (hg:g≠[]) (tg:aN g) (kg:∀n∈g,nl n.natAbs≤43740) (ts:aN s):r0.length=1∧cf r0 0≠0∧RL 1043740 (cf r0 0)∧(∀q∈s0,RL 1306210 q)∧s0.length≤64∧aH aG (dL [] (1/cf r0 0) s0)=aT s (cf g (g.length-1)):=by
 obtain⟨e0,e1,S0,S1,c0,c1,Kc,Ks,hX,R0,hs0,kc0,h1,h2,⟨k0,k1⟩,⟨K0,K1⟩,b1,b2,⟨b3,b4,b7,b8⟩,b5,b6⟩:=H;have hlg:=(rH tg).1;rw[←hGg] at hlg;have hgl:=List.length_pos_iff.2 hg;have hle:=(cZ hg).1 tg;have hlr:=fJ hle;have hG1:cf G (G.length-1)=1:=by
  rw[hlg,hGg];unfold dB;rw[jB];grind
 have hG0:cf G (G.length-1)≠0:=by rw[hG1];decide
 have he1:e1=[]:=by
  by_cases he:e1=[]
  ·exact he
  ·exact absurd (((h1 he).1.len hG0 (by omega)).1 rfl) he
 subst he1;cases hX with
 |step hb=>exact absurd rfl hb
 |done=>
  have hl:=R0.len hG0 (by omega);have hr0:r0≠[]:=fun e=>hg (hl.1 e);have hlen:=hl.2 hr0;have hl1:r0.length=1:=by omega
  have hlead:=mZ (p:=cf r0) (q:=cf G) (m:=0) (n:=G.length-1) (fun i hi=>aP (by omega)) (fun i hi=>aP (by omega));rw[R0.r_,hG1,Rat.mul_one,Nat.zero_add,hlg] at hlead;have hne:cf r0 0≠0:=by rw[←hlead];exact lL R0.c0 hlr
  refine⟨hl1,hne,by rw[←hlead];exact bV (iB kc0 (lK (cI kg _) (by decide))) (by omega),eI (pP hs0 kc0 (X:=306210) (fun n hn=>Nat.le_trans (K0 n hn) (by omega)) (by decide)) (by omega),by omega,?_⟩;refine iJ (fC _) (mN hle ts) (fun i=> ?_);rw[dS,oG,bS,jB,hs0,←hlead];have:=R0.c0;grind
end
theorem WF {R:List Rat} {r:List Int} {c:Int} (h:Prp R r) (hc:c≠0) (hd:∀n∈r,c∣n):Prp R (bK r c):=by
 obtain⟨hl,ht,d,hd0,hR⟩:=h;exact⟨by rw[j9];exact hl,pQ ht hd,d*c,lL hd0 (fJ hc),fun i=>by rw[hR,lM hd i,Rat.intCast_mul];grind⟩
def uS (a b g:List Int):Prop:=∃s0 s1 s,Ext 43740 a b s0 s1 g s
theorem WG {a g:List Int} (h:uS a [] g) (_:aN a):dB a=dB g:=by
 obtain⟨s0,s1,s,h⟩:=h;cases h with
 |done=>rfl
 |step hb=>exact absurd rfl hb
theorem WH {A Bq Q R:List Rat} {a b g:List Int} (hA:Prp A a) (hB:Prp Bq b) (hb:b≠[]) (h:uS a b g) (hD:DivQ A Bq Q R):∃b',Prp R b'∧uS b b' g∧(∀n∈b',nl n.natAbs≤43740)∧b'.length<b.length:=by
 obtain⟨s0,s1,s,h⟩:=h;cases h with
 |done=>exact absurd rfl hb
 |step _ hP hc hr hn t=>exact⟨_,WF (ID hA hB hb hP hD) hc hr,⟨_,_,_,t⟩,n8 hP.br,by rw[j9];exact hP.r_lt⟩
theorem WI {w G B:List Rat} (h:∀i,conv (cf w) (cf G) i=cf B i) (tw:aN w) (tB:aN B) (hG:cf G (G.length-1)≠0) (hn:1≤G.length) (hB:B≠[]):w≠[]∧w.length+G.length=B.length+1:=by
 have hBl:=(cZ hB).1 tB;have hBp:=List.length_pos_iff.2 hB;have hw:w≠[]:=fun e=>by
  have:=h (B.length-1);rw[e,eR (fun k=>bS k)] at this;exact hBl this.symm
 refine⟨hw,?_⟩;have hwp:=List.length_pos_iff.2 hw;have hwl:=(cZ hw).1 tw;have hlead:=mZ (p:=cf w) (q:=cf G) (m:=w.length-1) (n:=G.length-1) (fun i hi=>aP (by omega)) (fun i hi=>aP (by omega));rw[h] at hlead;have hlt:w.length-1+(G.length-1)<B.length:=by
  rcases Nat.lt_or_ge (w.length-1+(G.length-1)) B.length with h1|h1
  ·exact h1
  ·rw[aP h1] at hlead;exact absurd hlead.symm (lL hwl hG)
 have htop:¬w.length+(G.length-1)<B.length:=fun h1=>by
  have h3:=o6 (p:=cf w) (q:=cf G) (m:=w.length) (n:=G.length) (fun i hi=>aP hi) (fun i hi=>aP hi) (i:=B.length-1) (by omega);rw[h] at h3;exact hBl h3
 omega
theorem IG {B G Q R:List Rat} (hU:∃U:List Rat,∀i,cf B i=conv (cf U) (cf G) i) (hG:cf G (G.length-1)≠0) (hn:1≤G.length) (h:DivQ B G Q R):aN Q∧∀i,conv (cf Q) (cf G) i=cf B i:=by
 obtain⟨U,hU⟩:=hU;have hD:DivQ B G (aH aG U) []:=⟨fun i=>by rw[bS,Rat.add_zero,hU];exact cO (dS U) (fun _=>rfl) i,fC _,(fun a ha=>by simp at ha),hn⟩;obtain⟨rfl,rfl⟩:=h.unique hD hG hn;exact⟨fC _,fun i=>by have:=hD.id_ i;rw[bS,Rat.add_zero] at this;exact this⟩
theorem WJ {A B G S T Q R:List Rat} {K K':Nat} (Z:BezRes A B G S T K K') (tB:aN B) (hB:B≠[]) (h:DivQ (aH aG (dL G (-1) (aH aG (bB S A)))) B Q R):Q=T:=by
 have hBl:=(cZ hB).1 tB
 have hD:DivQ (aH aG (dL G (-1) (aH aG (bB S A)))) B T []:=⟨fun i=>by
  rw[bS,Rat.add_zero,dS,oG,dS,xR,←Z.id_ i];grind,Z.tt,(fun a ha=>by simp at ha),List.length_pos_iff.2 hB⟩
 exact(h.unique hD hBl (List.length_pos_iff.2 hB)).1
theorem WK {A B G S T:List Rat} {K K':Nat} (Z:BezRes A B G S T K K') (tB:aN B) (hB:B≠[]) (lA:A.length≤7):(aH aG (dL G (-1) (aH aG (bB S A)))).length≤B.length+6:=by
 have h1:=cK aG (dL G (-1) (aH aG (bB S A)));rw[zO] at h1;have h2:=cK aG (bB S A);have hG0:cf G (G.length-1)≠0:=by rw[Z.last];decide
 have hGp:=List.length_pos_iff.2 Z.ne;have h3:S.length+G.length≤B.length:=Z.len.resolve_left hB;have h4:(bB S A).length≤S.length+A.length:=by unfold bB;split<;>simp<;>omega
 omega
theorem IH {A G S T:List Rat} {K K':Nat} (Z:BezRes A [] G S T K K'):A≠[]:=fun e=>by
 have:=Z.id_ (G.length-1);rw[e,Z.last,jR,eR (fun k=>bS k),jR,eR (fun k=>bS k),Rat.add_zero] at this;exact absurd this (by decide)
theorem WL {A G S T:List Rat} {K K':Nat} (h:oI A [] G S T) (Z:BezRes A [] G S T K K') (tA:aN A):G=nG A∧S=[1/cf A (A.length-1)]∧T=[]:=by
 rcases h with ⟨-,hT,D,hD,hG,hS⟩|⟨h, -⟩
 ·have hA:=IH Z;have hx:=rI hD tA;refine⟨by rw[hG];exact(AH hx).symm,?_,hT⟩;have hD0:=fJ (show D≠0 by have:=hD.pos;omega);have hl:=(cZ hA).1 tA;rw[hS];show[((D:Int):Rat)/((cf (aI A D) ((aI A D).length-1):Int):Rat)]=_
  rw[lD A D hD.dvd,eK];congr 1;grind
 ·exact absurd rfl h
theorem II {n m c d X:Nat} (h:n≤m) (hX:2*(1+m*c+d)+1≤X):2*(1+n*c+d)+1≤X:=by
 have:=Nat.mul_le_mul_right c h;omega
theorem IJ {n m c X:Nat} (h:n≤m) (hX:1+m*c≤X):1+n*c≤X:=by
 have:=Nat.mul_le_mul_right c h;omega
end Go.Proofs.YtlojjipfnejbnaaGreatDoor
namespace Go.Proofs.YtlojjipfnejbnaaGreatDoor
open Go.RowKit Sos
theorem XH (w:World):Calls Tryz.prog 146 #[.int .i64 (-1)] w (lI w (-1)):=by
 have h1:IntKind.u64.wrap (-1)=18446744073709551615:=by decide
 have h2:IntKind.u64.wrap (-18446744073709551615)=1:=by decide
 have h3:(1:Int)%4294967296=1:=by decide
 have h4:(1:Int)/4294967296=0:=by decide
 obtain⟨W,eW,hb,R⟩:=bA w [.bool false,.slice none 0 0] 94;have cM:=R.g2;go_enter Tryz.func146,Tryz.ntmps146;go_wp2_with fail;(try rw[eW]);clear eW;obtain⟨w1,e1,hA,B⟩:=bA W [.int .u32 1,.int .u32 0] 170;rw[e1];clear e1;have ht:=nB [1,0] W.heap.size 1 2 w1 B (fun d hd=>by simp at hd;unfold aC;omega) (by simp[nv]) (Nat.le_refl _) (by simp);simp only[List.length_cons,List.length_nil] at ht;refine ht.mono ?_;rintro e2 w2 ⟨v,rfl,hm,rfl⟩;replace R:=R.below hA;replace cM:=R.g2;replace hb:=aB hb hA;go_wp2_with fail;refine(oC true v 1 (-1) _ hm (Nat.le_trans (bI (m:=1) (by unfold BN;omega)) (by decide)) rfl (by simp)).mono ?_;rintro e3 w3 ⟨v3,rfl,h3,hb3⟩;obtain⟨s3,A3,k3,c3,rfl⟩:=h3.form;replace R:=R.below hb3;replace cM:=R.g2;replace hb:=aB hb hb3;go_wp2_with fail;obtain⟨W6,eW6,R,hb,hk,ff⟩:=R.mut2 hb (by omega) (.bool s3) (.slice A3 k3 c3) rfl rfl;replace h3:=h3.keep hk;rw[eW6];clear eW6;replace cM:=R.k2;exact bodyPost_ret (v:= .agg #[.bool s3,.slice A3 k3 c3]) (by simp[results,Tryz.results146,go_sem,R.k2]) rfl ⟨_,rfl,h3,hb⟩
theorem XI (w:World):Calls Tryz.prog 99 #[.int .i64 (-1)] w (fR w (-1)):=by
 have HZ:Hid ((-1:Rat).num= -1∧aS (-1:Rat)=0):=⟨rfl,dH.2 rfl⟩;obtain⟨W,eW,hb,R⟩:=bA w [.bool false,.slice none 0 0,.bool false,.slice none 0 0] 96;have cM:=R.g4;go_enter Tryz.func99,Tryz.ntmps99;go_wp2_with fail;(try rw[eW]);clear eW;refine(XH _).mono ?_;rintro e1 w1 ⟨v1,rfl,h1,hb1⟩;obtain⟨s1,A1,k1,c1,rfl⟩:=h1.form;replace R:=R.below hb1;replace cM:=R.g4;replace hb:=aB hb hb1;go_wp2_with fail;obtain⟨W6,eW6,R,hb,hk,ff⟩:=R.mut4 hb (by omega) (.bool s1) (.slice A1 k1 c1) (.bool false) (.slice none 0 0) rfl rfl;replace h1:=h1.keep hk;rw[eW6];clear eW6;replace cM:=R.k4;exact bodyPost_ret (v:= .agg #[.bool s1,.slice A1 k1 c1,.bool false,.slice none 0 0]) (by simp[results,Tryz.results99,go_sem,R.k4]) rfl ⟨_,rfl,NQ.of h1 (NI.zero _) HZ.out.1 HZ.out.2,hb⟩
theorem AJ {w:World} {s s':Bool} {A A':Option Addr} {l c l' c':Nat} {q:Rat} (h:NQ w (.agg #[.bool s,.slice A l c,.bool s',.slice A' l' c']) q):QsAt (w.alloc (.cells #[.bool s,.slice A l c,.bool s',.slice A' l' c'] 96)) (.slice (some ⟨w.heap.size,0,none⟩) 1 1) [q]:=by
 have hb:Below w.heap.size w (w.alloc (.cells #[.bool s,.slice A l c,.bool s',.slice A' l' c'] 96)):=(Below.refl _ _).alloc (Nat.le_refl _) _
 have hO:OwnQ (w.alloc (.cells #[.bool s,.slice A l c,.bool s',.slice A' l' c'] 96)) w.heap.size [q]:=
  ⟨[[.bool s,.slice A l c,.bool s',.slice A' l' c']],⟨Bx.new w [.bool s,.slice A l c,.bool s',.slice A' l' c'] 96,fun r hr=>by rw[List.mem_singleton.1 hr];rfl⟩,Nat.le_refl _,fun i x hi=>by
   cases i with
   |zero=>injection hi with hi;subst hi;exact⟨s,A,l,c,s',A',l',c',rfl,h.below hb⟩
   |succ i=>simp at hi⟩
 exact hO.nums 1 (Nat.le_refl _)
theorem WD (w:World):QsAt (w.alloc (.cells #[] 96)) (.slice (some ⟨w.heap.size,0,none⟩) 0 0) []:=
 (show OwnQ (w.alloc (.cells #[] 96)) w.heap.size [] from⟨[],⟨Bx.new w [] 96,fun r hr=>by cases hr⟩,Nat.le_refl _,fun i x hi=>by simp at hi⟩).nums 0 (Nat.le_refl _)
def AK (w:World) (G S T:List Rat) (e:Ending) (w':World):Prop:=∃v u t,e= .returned (.tuple #[v,u,t])∧QsAt w' v G∧QsAt w' u S∧QsAt w' t T∧Below w.heap.size w w'
theorem WE (A B G S T:List Rat) (va vb:Value) (w:World) (hA:QsAt w va A) (hB:QsAt w vb B) (tA:aN A) (tB:aN B) (kA:∀q∈A,RL 1 q) (kB:∀q∈B,RL 1 q) (lA:A.length≤7) (lB:B.length≤7) (Z:BezRes A B G S T 43740 2800000) (X:oI A B G S T):
  Calls Tryz.prog 79 #[va,vb] w (AK w G S T):=by
 obtain⟨P1,c1,rfl,hc1⟩:=hA.form;obtain⟨P2,c2,rfl,hc2⟩:=hB.form;have hr1:∀W,Calls Tryz.prog 99 #[.int .i64 1] W (fR W 1):=fun W=>GU 1 W (by decide);have k1:RL 1 (1:Rat):=AA (n:=1) (by decide);go_enter Tryz.func79,Tryz.ntmps79;by_cases hB0:B.length=0
 ·have r0:((B.length:Int)==0)=true:=by rw[hB0];rfl
  have hBe:B=[]:=List.eq_nil_of_length_eq_zero hB0;rw[hBe] at Z X;have hA0:=IH Z;obtain⟨e1,e2,e3⟩:=WL X Z tA;have hAl:A.length≠0:=fun e=>hA0 (List.eq_nil_of_length_eq_zero e);have r1:((A.length:Int)==0)=false:=by simpa using hAl
  obtain⟨l,hll⟩:∃l,A.length-1=l:=⟨_,rfl⟩;have hli:(A.length:Int)-1=(l:Int):=by omega
  have hlp:l<A.length:=by omega
  have hl0:(0:Int)≤(l:Int):=by omega
  have hl1:(l:Int)<(A.length:Int):=by omega
  have hwl:IntKind.i64.wrap (l:Int)=(l:Int):=IntWalk.i64_in _ ⟨by omega,by omega⟩;have hx0:=(cZ hA0).1 tA;obtain⟨bb,s3,A3,k3,c3,s4,A4,k4,c4,rfl,hbl,g0,hi⟩:=hA.cell hlp;have hmo:=fun W u h=>AI A u W h 1 kA (by decide) (fun _=>hx0) (by omega) (by decide);rw[←e1] at hmo;rw[hll] at hx0 e2;have hdv:=fun W u v h h'=>uL 1 (cf A l) u v W h h' 1 k1 (fV kA (eO (by decide)) l) (by decide) hx0;unfold fR at hr1 hdv;have HS:Hid (S=[1/cf A l]∧T=[]):=⟨e2,e3⟩;clear e1 e2 e3 hx0 hll hBe hB0 hAl hA0 Z X tA tB kA kB lB hB k1;generalize cf A l=x at *;generalize 1/x=y at *;go_wp2_with fail
  go_region_held3 (fun w'=>R4 w' bb (l*4) (.bool s3) (.slice A3 k3 c3) (.bool s4) (.slice A4 k4 c4))
   (with_reducible exact g0.up hbl)
   (first
    |(go_at_call 99;(with_reducible refine(hr1 _).mono ?_);rintro e5 w5 ⟨v5,rfl,h5,hb5⟩;obtain⟨s5,A5,k5,c5,s6,A6,k6,c6,rfl⟩:=h5.form;have:=St.mk hb5)
    |(go_at_call 128;(with_reducible refine(hdv _ _ _ h5.up hi.up).mono ?_);rintro e7 w7 ⟨v7,rfl,h7,hb7⟩;obtain⟨s7,A7,k7,c7,s8,A8,k8,c8,rfl⟩:=h7.form;have:=St.mk hb7)
    |(go_at_call 103;(with_reducible refine(hmo _ _ hA.up).mono ?_);rintro e9 w9 ⟨v9,rfl,h9,hb9⟩;have:=St.mk hb9))
  all_goals (
   go_wp2_with fail;refine bodyPost_ret (v:= .tuple #[v9,.slice (some ⟨_,0,none⟩) 1 1,.slice none 0 0]) (by simp[results,Tryz.results79,go_sem];rfl) rfl ?_;rw[HS.out.1,HS.out.2]
   first
    |exact⟨_,_,_,rfl,h9.up,(AJ h7).up,QsAt.nil _,Up.out (a:=w)⟩
    |exact⟨_,_,_,rfl,h9.up,AJ h7.up,QsAt.nil _,Up.out (a:=w)⟩)
 ·have r0:((B.length:Int)==0)=false:=by simpa using hB0
  have hBe:B≠[]:=fun e=>hB0 (by rw[e];rfl);obtain⟨D,E,g,s,hD,hE,hX,eG,eS,kg⟩:∃D E g s,ComDen A D 8∧ComDen B E 8∧Ext 43740 (aI A D) (aI B E) [D] [] g s∧G=aT g (cf g (g.length-1))∧S=aT s (cf g (g.length-1))∧(∀n∈g,nl n.natAbs≤43740):=by
   rcases X with ⟨h, -⟩|⟨-,h⟩
   ·exact absurd h hBe
   ·exact h
  have eG':G=dB g:=eG;have hRR:=IM (fun e=>hB0 (by rw[←eK B E,e];rfl)) hX (IN (fun e=>hB0 (by rw[←eK B E,e];rfl)) (gR hD.pos hD.dvd tA) (gR hE.pos hE.dvd tB) (show D≠0 by have:=hD.pos;omega));have hg:=hRR.ne;have tg:=hRR.tg;have ts:=hRR.ts;have hG1:=Z.last;have hG0:cf G (G.length-1)≠0:=by rw[hG1];decide
  have hGp:1≤G.length:=List.length_pos_iff.2 Z.ne;have lG:G.length≤7:=by have:=Z.lg;omega
  have kG:=Z.bg;have kS:=Z.bs;have lS:S.length≤8:=by have:=Z.ls;omega
  have lSG:S.length+G.length≤B.length:=Z.len.resolve_left hBe;have hco:=fun W u v h h'=>IF uS 43740 WG WH A B (aI A D) (aI B E) g u v W h h' (rI hD tA) (rI hE tB) ⟨_,_,_,hX⟩ 43740 (eI kA (by decide)) (eI kB (by decide)) (Nat.le_refl _) (by decide) (by omega) (by omega) (by decide);rw[←eG'] at hco;have hdm:=fun (L:List Rat) (hl:L.length≤7)=>jW 43740 hl;have hde:=nD 43740 7;have hd1:=fun W u v h h'=>rD B G u v W h h' 43740 (eI kB (by decide)) kG (by decide) (by omega) hGp hG0 70000000 (by have:=hdm B lB;omega) (by decide);have hd2:=fun W u v h h'=>rD A G u v W h h' 43740 (eI kA (by decide)) kG (by decide) (by omega) hGp hG0 70000000 (by have:=hdm A lA;omega) (by decide);have hrn:∀W,Calls Tryz.prog 99 #[.int .i64 (-1)] W (fR W (-1)):=XI;have kn:RL 1 (-1:Rat):=yD k1;unfold fR at hr1 hrn;clear X eG hdm hde hRR;go_wp2_with fail;refine(hco _ _ _ hA hB).mono ?_;rintro e1 w1 ⟨v1,rfl,h1,hb1⟩;clear hco;go_wp2_with fail;refine(hd1 _ _ _ (hB.below hb1) h1).mono ?_;rintro e2 w2 ⟨v2,u2,Wq,R2,rfl,h2, -,hD2,kW, -,lW, -,hb2⟩;obtain⟨tW,hW⟩:=IG Z.db hG0 hGp hD2;obtain⟨hW0,lWG⟩:=WI hW tW tB hG0 hGp hBe;have hWl:=(cZ hW0).1 tW;have hWp:=List.length_pos_iff.2 hW0;replace h1:=h1.below hb2;replace hb1:=aB hb1 hb2;obtain⟨w3,e3,hb3, -⟩:=bA w2 [] 96;replace h1:=h1.below hb3;replace h2:=h2.below hb3;replace hb1:=aB hb1 hb3;clear hd1 hD2 hb2 hb3;go_wp2_with fail;(try rw[e3]);clear e3;refine(hd2 _ _ _ (hA.below hb1) h1).mono ?_;rintro e4 w4 ⟨v4,u4,U,R4',rfl,h4, -,hD4,kU, -,lU, -,hb4⟩;obtain⟨tU,hU⟩:=IG Z.da hG0 hGp hD4;replace h1:=h1.below hb4;replace h2:=h2.below hb4;replace hb1:=aB hb1 hb4;have hd3:=fun W u v h h'=>rD U Wq u v W h h' 70000000 kU kW (by decide) (by omega) hWp hWl 60000000000 (by have:=jW 70000000 (show U.length≤7 by omega);have:=nD 70000000 7;omega) (by decide);clear hd2 hD4 hb4;go_wp2_with fail;refine(hd3 _ _ _ h4 h2).mono ?_;rintro e5 w5 ⟨v5,u5,Kq,R1,rfl, -,h5,hD5, -, -, -, -,hb5⟩;have HI0:Hid (oH G g s Wq R1 [] [1]):=WM hD hE tA tB kA kB lA lB hBe hX hG0 hGp hW hU tW hW0 hD5;replace h1:=h1.below hb5;replace h2:=h2.below hb5;replace hb1:=aB hb1 hb5;have n6:=WD w5;obtain⟨w6,e6,hb6, -⟩:=bA w5 [] 96;have e6':w5.alloc (.cells #[] 96)=w6:=e6;rw[e6'] at n6;replace h1:=h1.below hb6;replace h2:=h2.below hb6;replace h5:=h5.below hb6;replace hb1:=aB hb1 hb6;clear hd3 h4 hD5 hb5 hb6 hU hX hD hE kU lU e6';go_wp2_with fail;(try rw[e6]);clear e6;refine(hr1 _).mono ?_;rintro e7 w7 ⟨v7,rfl,h7,hb7⟩;obtain⟨s7,A7,k7,c7,s8,A8,k8,c8,rfl⟩:=h7.form;have o8:=AJ h7;obtain⟨w8,e8,hb8, -⟩:=bA w7 [.bool s7,.slice A7 k7 c7,.bool s8,.slice A8 k8 c8] 96;have e8':w7.alloc (.cells #[.bool s7,.slice A7 k7 c7,.bool s8,.slice A8 k8 c8] 96)=w8:=e8;rw[e8'] at o8;replace h1:=(h1.below hb7).below hb8;replace h2:=(h2.below hb7).below hb8;replace h5:=(h5.below hb7).below hb8;replace n6:=(n6.below hb7).below hb8;replace hb1:=aB hb1 hb7;replace hb1:=aB hb1 hb8;clear h7 hb7 hb8 e8';go_wp2_with fail;(try rw[e8]);clear e8;go_loopg [10,11,14,15] R1.length (fun k x0 x1 y0 y1 wr=>∃r0 r1 s0 s1:List Rat,Hid (r1.length=k)∧QsAt wr x0 r0∧QsAt wr x1 r1∧QsAt wr y0 s0∧QsAt wr y1 s1∧Hid (oH G g s r0 r1 s0 s1)∧QsAt wr v1 G∧QsAt wr v2 Wq∧Below w.heap.size w wr)
  case atStart=>exact⟨Wq,R1,[],[1],rfl,h2,h5,n6,o8,HI0,h1,h2,hb1⟩
  case round=>
   clear h1 h2 h5 n6 o8 HI0 hb1;obtain⟨r0,r1,s0,s1,HL,x0,x1,y0,y1,HI,h1,h2,hb⟩:=hrel;generalize wr=wx at *;obtain⟨Q0,d0,rfl,hd0⟩:=x0.form;obtain⟨Q1,d1,rfl,hd1⟩:=x1.form;cases gk with
   |zero=>
    have q0:¬(0:Int)<(r1.length:Int):=by have:=HL.out;omega
    have hr1e:r1=[]:=List.eq_nil_of_length_eq_zero HL.out;have hI:=HI.out;rw[hr1e] at hI;obtain⟨z1,z2,z3,z4,z5,z6⟩:=WP hI eG' hg tg kg ts;rw[←eS] at z6;obtain⟨bb,s3,A3,k3,c3,s4,A4,k4,c4,rfl,hbl,g0,hi⟩:=x0.cell (i:=0) (by omega);simp only[Nat.zero_mul,Nat.zero_add] at g0;have q1:(0:Int)<(r0.length:Int):=by omega
    have q2:0<r0.length:=by omega
    have hdv:=fun W u v h h'=>uL 1 (cf r0 0) u v W h h' 1043740 (bV k1 (by decide)) z3 (by decide) z2;have hpl:=fun W u v x h h' h''=>qZ [] (1/cf r0 0) s0 u v x W h h' h'' 1306210 1043741 (fun q hq=>by cases hq) z4 (bV (jX k1 z3) (by decide)) (by decide) (by simp) (by omega) (by decide);rw[z6] at hpl;unfold fR at hdv;have hd4:=fun W u v h h'=>uQ S Wq u v W h h' 70000000 (eI kS (by decide)) kW (by decide) (by omega) hWp hWl 70000000 (Nat.le_refl _) (fun h=>absurd h (by omega)) (by decide);have htm:=fun W u v h h'=>yG S A u v W h h' 2800000 kS (eI kA (by decide)) (by decide) (by omega) (by omega) (II lS (by decide));have kSA:∀q∈aH aG (bB S A),RL 84000016 q:=fun q hq=>bV (yF kS (eI kA (by decide)) (by decide) q (fQ hq)) (IJ (show S.length+A.length≤15 by omega) (by decide));have lSA:(aH aG (bB S A)).length≤15:=Nat.le_trans (cK _ _) (by unfold bB;split<;>simp<;>omega);have hp2:=fun W u v x h h' h''=>qZ G (-1) (aH aG (bB S A)) u v x W h h' h'' 84000016 1 (eI kG (by decide)) kSA kn (by decide) (by omega) (by omega) (by decide);have kP:∀q∈aH aG (dL G (-1) (aH aG (bB S A))),RL 168000034 q:=fun q hq=>by
     obtain⟨j,_,rfl⟩:=List.mem_map.1 (fQ hq);exact bV (zU (eI kG (by decide)) kSA kn (by decide) j) (by decide)
    have lP:=WK Z tB hBe lA;have hd5:=fun W u v h h'=>uQ (aH aG (dL G (-1) (aH aG (bB S A)))) B u v W h h' 168000034 kP (eI kB (by decide)) (by decide) (by omega) (List.length_pos_iff.2 hBe) ((cZ hBe).1 tB) 160000000000 (by decide) (fun h=>by have:=jW 168000034 (show(aH aG (dL G (-1) (aH aG (bB S A)))).length-B.length+1≤7 by omega);have:=nD 168000034 7;omega) (by decide);have HC:Hid (∀Q R,DivQ (aH aG (dL G (-1) (aH aG (bB S A)))) B Q R→Q=T):=fun Q R h=>WJ Z tB hBe h;have HS4:Hid (∀Q R,DivQ S Wq Q R→R=S):=fun Q R h=>by
     rw[(h.unique (DivQ.short (by omega)) hWl hWp).2,nZ Z.ts]
    clear hI HI hr1e z1 z2 z3 z4 z5 z6 x1 y1 kSA kP lP lSA;generalize aH aG (dL G (-1) (aH aG (bB S A)))=PP at *;generalize aH aG (bB S A)=SA at *;generalize cf r0 0=x at *;generalize 1/x=y at *;go_wp2_with fail
    go_region_held3 (fun w'=>R4 w' bb 0 (.bool s3) (.slice A3 k3 c3) (.bool s4) (.slice A4 k4 c4))
     (with_reducible exact g0.up hbl)
     (first
      |(go_at_call 99;(with_reducible refine(hr1 _).mono ?_);rintro e5 w5 ⟨v5,rfl,h5,hb5⟩;obtain⟨s5,A5,k5,c5,s6,A6,k6,c6,rfl⟩:=h5.form;have:=St.mk hb5)
      |(go_at_call 128;(with_reducible refine(hdv _ _ _ h5.up hi.up).mono ?_);rintro e7 w7 ⟨v7,rfl,h7,hb7⟩;obtain⟨s7,A7,k7,c7,s8,A8,k8,c8,rfl⟩:=h7.form;have:=St.mk hb7)
      |(go_at_call 82;(with_reducible refine(hpl _ _ _ _ (QsAt.nil _) h7.up y0.up).mono ?_);rintro e9 w9 ⟨v9,rfl,h9,hb9⟩;have:=St.mk hb9))
    all_goals (
     go_wp2_with fail;replace h1:=h1.up (b:=w9);replace h2:=h2.up (b:=w9);replace hb:=mL (b:=w9) hb;clear hpl hdv hr1 y0 x0 h5 h7 g0 hi;refine(hd4 _ _ _ h9 h2).mono ?_;rintro e10 w10 ⟨v10,u10,Q10,R10,rfl, -,h10,hD10, -, -, -, -,hb10⟩;obtain rfl:=HS4.out _ _ hD10;replace h1:=h1.below hb10;replace hb:=aB hb hb10;clear hd4 HS4;go_wp2_with fail;refine(hrn _).mono ?_;rintro e11 w11 ⟨v11,rfl,h11,hb11⟩;obtain⟨sa,Aa,ka,ca,sb,Ab,kb,cb,rfl⟩:=h11.form;replace h1:=h1.below hb11;replace h10:=h10.below hb11;replace hb:=aB hb hb11;go_wp2_with fail;refine(htm _ _ _ h10 (hA.below hb)).mono ?_;rintro e12 w12 ⟨v12,rfl,h12,hb12⟩;replace h1:=h1.below hb12;replace h10:=h10.below hb12;replace h11:=h11.below hb12;replace hb:=aB hb hb12;go_wp2_with fail;refine(hp2 _ _ _ _ h1 h11 h12).mono ?_;rintro e13 w13 ⟨v13,rfl,h13,hb13⟩;replace h1:=h1.below hb13;replace h10:=h10.below hb13;replace hb:=aB hb hb13;go_wp2_with fail;refine(hd5 _ _ _ h13 (hB.below hb)).mono ?_;rintro e14 w14 ⟨v14,u14,Q14,R14,rfl,h14, -,hD14, -, -, -, -,hb14⟩;obtain rfl:=HC.out _ _ hD14;replace h1:=h1.below hb14;replace h10:=h10.below hb14;replace hb:=aB hb hb14;go_wp2_with fail;exact bodyPost_ret (v:= .tuple #[v1,u10,v14]) (by simp[results,Tryz.results79,go_sem]) rfl ⟨_,_,_,rfl,h1,h10,h14,hb⟩)
   |succ k=>
    have q0:(0:Int)<(r1.length:Int):=by have:=HL.out;omega
    have hr1l:1≤r1.length:=by omega
    have hr1e:r1≠[]:=fun e=>by rw[e] at hr1l;simp at hr1l
    obtain⟨z1,z2,KR,z3,z4,z5,z6,z7⟩:=WO HI.out hG1 hGp kG;have hdv:=fun W u v h h'=>uQ r0 r1 u v W h h' KR z5 z6 z3 (by omega) hr1l (z2 hr1e) 160000000000 (by omega) (z7 hr1l) (by decide);clear z2 z5 z6 z7;go_wp2_with fail;refine(hdv _ _ _ x0 x1).mono ?_;rintro e3 w3 ⟨v3,u3,Q,R,rfl,h3,i3,hDQ, -, -,lQ, -,hb3⟩;obtain⟨kQ,ks0,ks1,ls0,ls1,hnx⟩:=WN HI.out hr1e hG0 hGp hDQ (by omega);have HN:=Lib.hid hnx;have hRl:=hDQ.r_lt;replace x1:=x1.below hb3;replace y0:=y0.below hb3;replace y1:=y1.below hb3;replace h1:=h1.below hb3;replace h2:=h2.below hb3;replace hb:=aB hb hb3;have htm:=fun W u v h h'=>yG Q s1 u v W h h' 2087480 kQ (eI ks1 (by decide)) (by decide) (by omega) (by omega) (II (show Q.length≤7 by omega) (by decide));have kT:∀q∈aH aG (bB Q s1),RL 300000000 q:=fun q hq=>bV (yF kQ (eI ks1 (by decide)) (by decide) q (fQ hq)) (IJ (show Q.length+s1.length≤71 by omega) (by decide));have lT:(aH aG (bB Q s1)).length≤71:=Nat.le_trans (cK _ _) (by unfold bB;split<;>simp<;>omega);have hpl:=fun W u v x h h' h''=>qZ s0 (-1) (aH aG (bB Q s1)) u v x W h h' h'' 300000000 1 (eI ks0 (by decide)) kT kn (by decide) (by omega) (by omega) (by decide);clear hdv hDQ kQ ks0 ks1 hnx HI kT x0;generalize aH aG (dL s0 (-1) (aH aG (bB Q s1)))=SN at *;generalize aH aG (bB Q s1)=TN at *;go_wp2_with fail;refine(hrn _).mono ?_;rintro e4 w4 ⟨v4,rfl,h4,hb4⟩;obtain⟨sa,Aa,ka,ca,sb,Ab,kb,cb,rfl⟩:=h4.form;replace x1:=x1.below hb4;replace y0:=y0.below hb4;replace y1:=y1.below hb4;replace h1:=h1.below hb4;replace h2:=h2.below hb4;replace h3:=h3.below hb4;replace i3:=i3.below hb4;replace hb:=aB hb hb4;go_wp2_with fail;refine(htm _ _ _ h3 y1).mono ?_;rintro e5 w5 ⟨v5,rfl,h5,hb5⟩;replace x1:=x1.below hb5;replace y0:=y0.below hb5;replace y1:=y1.below hb5;replace h1:=h1.below hb5;replace h2:=h2.below hb5;replace i3:=i3.below hb5;replace h4:=h4.below hb5;replace hb:=aB hb hb5;go_wp2_with fail;refine(hpl _ _ _ _ y0 h4 h5).mono ?_;rintro e6 w6 ⟨v6,rfl,h6,hb6⟩;replace x1:=x1.below hb6;replace y1:=y1.below hb6;replace h1:=h1.below hb6;replace h2:=h2.below hb6;replace i3:=i3.below hb6;replace hb:=aB hb hb6;go_wp2_with fail;go_roundg R.length
    case rel=>exact⟨r1,R,s1,SN,rfl,x1,i3,y1,h6,HN,h1,h2,hb⟩
    case measure=>have:=HL.out;omega
theorem VZ (va vb:Value) (w:World) (hA:QsAt w va []) (hB:QsAt w vb []):Calls Tryz.prog 79 #[va,vb] w (AK w [] [] []):=by
 obtain⟨P1,c1,rfl,hc1⟩:=hA.form;obtain⟨P2,c2,rfl,hc2⟩:=hB.form;go_enter Tryz.func79,Tryz.ntmps79;go_wp2_with fail;exact bodyPost_ret (v:= .tuple #[.slice none 0 0,.slice none 0 0,.slice none 0 0]) (by simp[results,Tryz.results79,go_sem]) rfl ⟨_,_,_,rfl,QsAt.nil _,QsAt.nil _,QsAt.nil _,Below.refl _ _⟩
def WA (w:World) (L1 L2 L3:List (List UInt8)) (c:Int) (e:Ending) (w':World):Prop:=∃v u t,e= .returned (.tuple #[v,u,t,.int .i64 c])∧StrsAt w' v L1∧StrsAt w' u L2∧StrsAt w' t L3∧Below w.heap.size w w'
section
variable (a b:List (List UInt8)) (va vb:Value) (w:World) (ha:StrsAt w va a) (hb':StrsAt w vb b) (hla:a.length≤7) (hlb:b.length≤7) (hsa:∀l∈a,l.length≤6) (hsb:∀l∈b,l.length≤6)
include ha hb' hla hlb hsa hsb
theorem WB (hv:¬(vl a=true∧vl b=true)):Calls Tryz.prog 30 #[va,vb] w fun e w'=>e= .returned (.tuple #[.slice none 0 0,.slice none 0 0,.slice none 0 0,.int .i64 1])∧Below w.heap.size w w':=by
 have hv':(vl a&&vl b)=false:=by
  cases h:vl a with
  |false=>rfl
  |true=>
   cases h':vl b with
   |false=>rfl
   |true=>exact absurd ⟨h,h'⟩ hv
 have hKa:∀q∈aE a,RL 1 q:=fU (fun l hl=>Nat.le_trans (hsa l hl) (by decide));have hKb:∀q∈aE b,RL 1 q:=fU (fun l hl=>Nat.le_trans (hsb l hl) (by decide));have hpa:=pG a b va vb w ha hb' (by omega) (by omega) (fun l hl=>Nat.le_trans (hsa l hl) (by decide)) (fun l hl=>Nat.le_trans (hsb l hl) (by decide)) 1 hKa hKb (by decide);obtain⟨A,ca,rfl,hc⟩:=ha.form;obtain⟨A',cb,rfl,hc'⟩:=hb'.form;go_enter Tryz.func30,Tryz.ntmps30;go_wp2_with fail;refine hpa.mono ?_;rintro e1 w1 ⟨v1,u1,rfl,h1,i1,hb1⟩;clear hpa;rw[hv'];clear hv hv' h1 i1;go_wp2_with fail;exact bodyPost_ret (v:= .tuple #[.slice none 0 0,.slice none 0 0,.slice none 0 0,.int .i64 1]) (by simp[results,Tryz.results30,go_sem]) rfl ⟨rfl,hb1⟩
theorem WC (G S T:List Rat) (hva:vl a=true) (hvb:vl b=true) (hZ:a=[]∧b=[]∧G=[]∧S=[]∧T=[]∨BezRes (aE a) (aE b) G S T 43740 2800000∧oI (aE a) (aE b) G S T):
  Calls Tryz.prog 30 #[va,vb] w (WA w (G.map aO) (S.map aO) (T.map aO) 0):=by
 have hal:=dD a;have hbl:=dD b;have htx:(∀W v,QsAt W v G→Calls Tryz.prog 49 #[v] W fun e w'=>∃v',e= .returned v'∧StrsAt w' v' (G.map aO)∧Below W.heap.size W w')∧(∀W v,QsAt W v S→Calls Tryz.prog 49 #[v] W fun e w'=>∃v',e= .returned v'∧StrsAt w' v' (S.map aO)∧Below W.heap.size W w')∧∀W v,QsAt W v T→Calls Tryz.prog 49 #[v] W fun e w'=>∃v',e= .returned v'∧StrsAt w' v' (T.map aO)∧Below W.heap.size W w':=by
  rcases hZ with ⟨-, -,rfl,rfl,rfl⟩|⟨Z, -⟩
  ·have h:=fun W v h=>oB [] v W h 1 (fun q hq=>by cases hq) (by decide) (by simp);exact⟨h,h,h⟩
  ·have h1:=Z.lg;have h2:=Z.ls;have h3:=Z.lt;exact⟨fun W v h=>oB G v W h 43740 Z.bg (by decide) (by omega),fun W v h=>oB S v W h 2800000 Z.bs (by decide) (by omega),fun W v h=>oB T v W h 2800000 Z.bt (by decide) (by omega)⟩
 have hbz:∀W v u,QsAt W v (aE a)→QsAt W u (aE b)→Calls Tryz.prog 79 #[v,u] W (AK W G S T):=fun W v u h h'=>by
  rcases hZ with ⟨rfl,rfl,rfl,rfl,rfl⟩|⟨Z,X⟩
  ·exact VZ v u W h h'
  ·exact WE (aE a) (aE b) G S T v u W h h' (fD hva).2.2 (fD hvb).2.2 (fU (fun l hl=>Nat.le_trans (hsa l hl) (by decide))) (fU (fun l hl=>Nat.le_trans (hsb l hl) (by decide))) (by omega) (by omega) Z X
 obtain⟨t1,t2,t3⟩:=htx;clear hZ;have hKa:∀q∈aE a,RL 1 q:=fU (fun l hl=>Nat.le_trans (hsa l hl) (by decide));have hKb:∀q∈aE b,RL 1 q:=fU (fun l hl=>Nat.le_trans (hsb l hl) (by decide));have hpa:=pG a b va vb w ha hb' (by omega) (by omega) (fun l hl=>Nat.le_trans (hsa l hl) (by decide)) (fun l hl=>Nat.le_trans (hsb l hl) (by decide)) 1 hKa hKb (by decide);obtain⟨A,ca,rfl,hc⟩:=ha.form;obtain⟨A',cb,rfl,hc'⟩:=hb'.form;go_enter Tryz.func30,Tryz.ntmps30;go_wp2_with fail;refine hpa.mono ?_;rintro e1 w1 ⟨v1,u1,rfl,h1,i1,hb1⟩;clear hpa;rw[hva,hvb];rw[jE hva] at h1;rw[jE hvb] at i1;clear hKa hKb hal hbl hva hvb hsa hsb;go_wp2_with fail;refine(hbz _ _ _ h1 i1).mono ?_;rintro e2 w2 ⟨v2,u2,y2,rfl,h2,i2,j2,hb2⟩;replace hb1:=aB hb1 hb2;clear hbz h1 i1;go_wp2_with fail;refine(t1 _ _ h2).mono ?_;rintro e3 w3 ⟨v3,rfl,h3,hb3⟩;replace i2:=i2.below hb3;replace j2:=j2.below hb3;replace hb1:=aB hb1 hb3;go_wp2_with fail;refine(t2 _ _ i2).mono ?_;rintro e4 w4 ⟨v4,rfl,h4,hb4⟩;replace h3:=h3.below hb4;replace j2:=j2.below hb4;replace hb1:=aB hb1 hb4;go_wp2_with fail;refine(t3 _ _ j2).mono ?_;rintro e5 w5 ⟨v5,rfl,h5,hb5⟩;replace h3:=h3.below hb5;replace h4:=h4.below hb5;replace hb1:=aB hb1 hb5;go_wp2_with fail;exact bodyPost_ret (v:= .tuple #[v3,v4,v5,.int .i64 0]) (by simp[results,Tryz.results30,go_sem]) rfl ⟨_,_,_,rfl,h3,h4,h5,hb1⟩
end
theorem VP (a b:List (List UInt8)) (va vb:Value) (w:World) (hG:Glob w) (ha:StrsAt w va a) (hb':StrsAt w vb b) (hca:∀l∈a,l.length≤9223372036854775807) (hcb:∀l∈b,l.length≤9223372036854775807):
  Calls Tryz.prog 6 #[va,vb] w fun e w'=>e= .returned (.bool true)∧Below w.heap.size w w':=by
 obtain⟨A,c,rfl,hc⟩:=ha.form;obtain⟨A',c',rfl,hc'⟩:=hb'.form;have hp:=FK ha hb' 22;have hb:Below w.heap.size w (w.alloc (.cells #[.slice A a.length c,.slice A' b.length c'] 22)):=(Below.refl _ _).alloc (Nat.le_refl _) _
 have hsm:=fun W v (hp:uD W v [a,b])=>show Calls Tryz.prog 8 #[.int .i64 7,.int .i64 6,v] W fun e w'=>e= .returned (.bool (iN 7 6 [a,b]))∧W=w' from FI 7 6 [a,b] v W hp (by decide) (by decide) (by show 2≤1073741824;decide) (fun p hp=>by
  simp only[List.mem_cons,List.not_mem_nil,or_false] at hp;rcases hp with rfl|rfl
  ·exact hca
  ·exact hcb)
 clear hca hcb;go_enter Tryz.func6,Tryz.ntmps6;go_wp2_with fail;replace ha:=ha.below hb;replace hb':=hb'.below hb;generalize w.alloc (.cells #[.slice A a.length c,.slice A' b.length c'] 22)=W at *;refine(hsm _ _ hp).mono ?_;rintro e1 w1 ⟨rfl,rfl⟩;clear hsm hp;cases hs:iN 7 6 [a,b] with
 |false=>
  clear hs;go_wp2_with fail;refine(mP _ (hG.below hb)).mono ?_;rintro e9 w9 ⟨rfl,hb9⟩;go_wp2_with fail;go_ret;exact⟨rfl,aB hb hb9⟩
 |true=>
  obtain⟨la,sa⟩:=uE hs (p:=a) (by simp);obtain⟨lb,sb⟩:=uE hs (p:=b) (by simp);have p1:=fun W v u hG h h'=>VS a b v u W hG h h' la lb sa sb;have r1:=fun g hT W v u h h'=>VQ a b g v u W h h' la lb sa sb hT;by_cases hv:vl a=true∧vl b=true
  ·have p2:=fun W v u hG h h'=>XG a b v u W hG h h' hv.1 hv.2 la lb sa sb;have r2:=fun G S T hZ W v u h h'=>WC a b v u W h h' la lb sa sb G S T hv.1 hv.2 hZ;have HV:=Lib.hid hv;have hKa:∀q∈aE a,RL 1 q:=fU (fun l hl=>Nat.le_trans (sa l hl) (by decide));have hKb:∀q∈aE b,RL 1 q:=fU (fun l hl=>Nat.le_trans (sb l hl) (by decide));have HOK:Hid (∀g,GcT (aE a) (aE b) g→((dB g).map aO).length≤1099511627776):=fun g h=>by
    obtain⟨-,t, -,l⟩:=h.ok (fD hv.1).2.2 (fD hv.2).2.2 hKa hKb (by rw[dD];exact la) (by rw[dD];exact lb);rw[List.length_map,(rH t).1];omega
   have HOZ:Hid (∀G S T,(a=[]∧b=[]∧G=[]∧S=[]∧T=[]∨BezRes (aE a) (aE b) G S T 43740 2800000∧oI (aE a) (aE b) G S T)→(G.map aO).length≤1099511627776∧(S.map aO).length≤1099511627776∧(T.map aO).length≤1099511627776):=fun G S T h=>by
    have h1:=dD a;have h2:=dD b;rw[List.length_map,List.length_map,List.length_map];rcases h with ⟨-, -,rfl,rfl,rfl⟩|⟨Z, -⟩
    ·simp
    ·have:=Z.lg;have:=Z.ls;have:=Z.lt;omega
   clear hs sa sb la lb hKa hKb hv;go_wp2_with fail;refine(p1 _ _ _ (hG.below hb) ha hb').mono ?_;rintro e2 w2 ⟨v2,n2,rfl,hb2, -,hok⟩;obtain⟨rfl,g,hg,h2⟩:=hok HV.out.1 HV.out.2;replace r1:=r1 g (fun _ _=>hg);unfold rF at r1;simp only[if_pos HV.out] at r1;have l1:=HOK.out g hg;replace ha:=ha.below hb2;replace hb':=hb'.below hb2;replace hb:=aB hb hb2;clear p1 hok hg HOK;generalize (dB g).map aO=L1 at *;go_wp2_with fail;refine(r1 _ _ _ ha hb').mono ?_;rintro e3 w3 ⟨v3,rfl,h3,hb3⟩;replace ha:=ha.below hb3;replace hb':=hb'.below hb3;replace h2:=h2.below hb3;replace hb:=aB hb hb3;clear r1;go_wp2_with fail;refine(p2 _ _ _ (hG.below hb) ha hb').mono ?_;rintro e4 w4 ⟨v4,u4,t4,G,S,T,rfl,h4,i4,j4,hZ,hb4⟩;replace r2:=r2 G S T hZ;obtain⟨lG,lS,lT⟩:=HOZ.out G S T hZ;replace ha:=ha.below hb4;replace hb':=hb'.below hb4;replace h2:=h2.below hb4;replace h3:=h3.below hb4;replace hb:=aB hb hb4;clear p2 hZ HOZ;generalize G.map aO=L2 at *;generalize S.map aO=L3 at *;generalize T.map aO=L4 at *;go_wp2_with fail;refine(r2 _ _ _ ha hb').mono ?_;rintro e5 w5 ⟨v5,u5,t5,rfl,h5,i5,j5,hb5⟩;replace h2:=h2.below hb5;replace h3:=h3.below hb5;replace h4:=h4.below hb5;replace i4:=i4.below hb5;replace j4:=j4.below hb5;replace hb:=aB hb hb5;clear r2 ha hb';go_wp2_with fail;refine(fW L1 _ _ _ h2 h3 l1).mono ?_;rintro e6 w6 ⟨rfl,hb6⟩;replace h4:=h4.below hb6;replace i4:=i4.below hb6;replace j4:=j4.below hb6;replace h5:=h5.below hb6;replace i5:=i5.below hb6;replace j5:=j5.below hb6;replace hb:=aB hb hb6;go_wp2_with fail;refine(fW L2 _ _ _ h4 h5 lG).mono ?_;rintro e7 w7 ⟨rfl,hb7⟩;replace i4:=i4.below hb7;replace j4:=j4.below hb7;replace i5:=i5.below hb7;replace j5:=j5.below hb7;replace hb:=aB hb hb7;go_wp2_with fail;refine(fW L3 _ _ _ i4 i5 lS).mono ?_;rintro e8 w8 ⟨rfl,hb8⟩;replace j4:=j4.below hb8;replace j5:=j5.below hb8;replace hb:=aB hb hb8;go_wp2_with fail;refine(fW L4 _ _ _ j4 j5 lT).mono ?_;rintro e10 w10 ⟨rfl,hb10⟩;replace hb:=aB hb hb10;go_wp2_with fail;refine(mP _ (hG.below hb)).mono ?_;rintro e9 w9 ⟨rfl,hb9⟩;go_wp2_with fail;go_ret;exact⟨rfl,aB hb hb9⟩
  ·have p2:=fun W v u hG h h'=>VT a b v u W hG h h' la lb sa sb hv;have r2:=fun W v u h h'=>WB a b v u W h h' la lb sa sb hv;replace r1:=r1 [] (fun h h'=>absurd ⟨h,h'⟩ hv);unfold rF at r1;simp only[if_neg hv] at r1;have HV:=Lib.hid hv;clear hs sa sb la lb hv;go_wp2_with fail;refine(p1 _ _ _ (hG.below hb) ha hb').mono ?_;rintro e2 w2 ⟨v2,n2,rfl,hb2,hok, -⟩;obtain⟨rfl,h2⟩:=hok HV.out;replace ha:=ha.below hb2;replace hb':=hb'.below hb2;replace hb:=aB hb hb2;clear p1 hok;go_wp2_with fail;refine(r1 _ _ _ ha hb').mono ?_;rintro e3 w3 ⟨v3,rfl,h3,hb3⟩;replace ha:=ha.below hb3;replace hb':=hb'.below hb3;replace h2:=h2.below hb3;replace hb:=aB hb hb3;clear r1;go_wp2_with fail;refine(p2 _ _ _ (hG.below hb) ha hb').mono ?_;rintro e4 w4 ⟨rfl,hb4⟩;replace ha:=ha.below hb4;replace hb':=hb'.below hb4;replace h2:=h2.below hb4;replace h3:=h3.below hb4;replace hb:=aB hb hb4;clear p2;go_wp2_with fail;refine(r2 _ _ _ ha hb').mono ?_;rintro e5 w5 ⟨rfl,hb5⟩;replace h2:=h2.below hb5;replace h3:=h3.below hb5;replace hb:=aB hb hb5;clear r2 ha hb';have n4:∀W,StrsAt W (.slice none 0 0) []:=fun W=>StrsAt.nil _ _ _;go_wp2_with fail;refine(fW [] _ _ _ h2 h3 (by simp)).mono ?_;rintro e6 w6 ⟨rfl,hb6⟩;replace hb:=aB hb hb6;go_wp2_with fail;refine(fW [] _ _ _ (n4 _) (n4 _) (by simp)).mono ?_;rintro e7 w7 ⟨rfl,hb7⟩;replace hb:=aB hb hb7;go_wp2_with fail;refine(fW [] _ _ _ (n4 _) (n4 _) (by simp)).mono ?_;rintro e8 w8 ⟨rfl,hb8⟩;replace hb:=aB hb hb8;go_wp2_with fail;refine(fW [] _ _ _ (n4 _) (n4 _) (by simp)).mono ?_;rintro e10 w10 ⟨rfl,hb10⟩;replace hb:=aB hb hb10;go_wp2_with fail;refine(mP _ (hG.below hb)).mono ?_;rintro e9 w9 ⟨rfl,hb9⟩;go_wp2_with fail;go_ret;exact⟨rfl,aB hb hb9⟩
end Go.Proofs.YtlojjipfnejbnaaGreatDoor
