/-
  Contracts of functions that the statement reaches, and plain laws: CmpP, ExtA, PolyU, BezP, BezQ, TraQ, StuP, GauP, GcA, SqpP, SqpQ, StvP, RatW, CntP, RooA, SqpA, SqfA, RooB, RooC, ShiA, BouP, ExaP, ExiP, RooE, RowM, RooF.
-/
import Derived.Test.YtbhplgdbfmifkaaGreatDoorI09
import Derived.Test.YtbhplgdbfmifkaaGreatDoorI17
import Derived.Test.YtbhplgdbfmifkaaGreatDoorI18
import Derived.Test.YtbhplgdbfmifkaaGreatDoorI19
import Derived.Test.YtbhplgdbfmifkaaGreatDoorI25
import Derived.Test.YtbhplgdbfmifkaaGreatDoorI26
import Derived.Test.YtbhplgdbfmifkaaGreatDoorI28
import Derived.Test.YtbhplgdbfmifkaaGreatDoorI31
import Derived.Test.YtbhplgdbfmifkaaGreatDoorI32
import Derived.Test.YtbhplgdbfmifkaaGreatDoorI36
import Derived.Test.YtbhplgdbfmifkaaGreatDoorI37
set_option linter.unusedVariables false
set_option linter.unusedSimpArgs false
set_option maxHeartbeats 8000000
set_option maxRecDepth 100000
namespace Go.Proofs.YtbhplgdbfmifkaaGreatDoor
open Sos
end Go.Proofs.YtbhplgdbfmifkaaGreatDoor
namespace Go.Proofs.YtbhplgdbfmifkaaGreatDoor
open Go.RowKit Sos
def cS (s0 s1 q:List Int) (m:Int):List Int:=aH aG (dG (aH aG (s0.map (·*m))) (aY q s1) (-1))
inductive Ext (B:Nat):List Int→List Int→List Int→List Int→List Int→List Int→Prop
 |done (a s0 s1:List Int):Ext B a [] s0 s1 a s0
 |step {a b s0 s1 q r g s:List Int} {m c:Int} (hb:b≠[]) (h:PQRes a b B m q r) (hc:c≠0) (hr:∀n∈r,c∣n) (hn:∀n∈cS s0 s1 q m,c∣n) (t:Ext B b (bK r c) s1 (bK (cS s0 s1 q m) c) g s):Ext B a b s0 s1 g s
theorem xM {d:Nat→Int} {ys:List Int} {L:Nat} (hy0:ys≠[]) (ty:aN ys) (hd:∀i,L≤i→d i=0) (h:∀i,ys.length≤i+1→conv d (cf ys) i=0):∀i,d i=0:=by
 induction L with
 |zero=>exact fun i=>hd i (Nat.zero_le _)
 |succ L ih=>
  refine ih (fun i hi=> ?_);by_cases hL:L+1≤i
  ·exact hd i hL
  ·have e:i=L:=by omega
   subst e;have h1:=mZ (p:=d) (q:=cf ys) (m:=i) (n:=ys.length-1) (fun j hj=>hd j (by omega)) (fun j hj=>aP (by omega));rw[h _ (by omega)] at h1;rcases Int.mul_eq_zero.1 h1.symm with h2|h2
   ·exact h2
   ·exact absurd h2 ((cZ hy0).1 ty)
theorem DQ {r:List Int} (ht:aN r) (h:∀i,cf r i=0):r=[]:=iJ ht (fun a ha=>by simp at ha) (fun i=>by rw[h,bS])
def xO (q ys r xs:List Int) (m0:Int) (n:Nat):Bool:=(List.range n).all (fun i=>m0*cf xs i==conv (cf q) (cf ys) i+cf r i)
theorem eT {l:List Int} (h:(match l.getLast? with|none=>true|some a=>a != 0)=true):aN l:=fun a ha=>by
 rw[ha] at h;simpa using h
theorem O2 {B:Nat} {a g:List Int} (h:Euc B a [] g):g=a:=by
 cases h with
 |done=>rfl
 |one hb=>simp at hb
 |step hb _ _=>simp at hb
end Go.Proofs.YtbhplgdbfmifkaaGreatDoor
namespace Go.Proofs.YtbhplgdbfmifkaaGreatDoor
open Sos
section
variable {R:Type} [Add R] [Mul R] [Sub R] [OfNat R 0] [CR R]
theorem WU (p q:Nat→R) {n i:Nat} (h:i≤n):conv p q i=aU (fun k=>p k*(if k≤i then q (i-k) else 0)) (n+1):=by
 obtain⟨d,rfl⟩:∃d,n=i+d:=⟨n-i,by omega⟩;rw[show i+d+1=i+1+d by omega,qH,mH (n:=d) (fun k _=>by rw[if_neg (by omega),CR.mul_zero]),CR.add_zero];exact jQ (fun k hk=>by rw[if_pos (by omega)])
theorem AO (p q r:Nat→R) (i:Nat):conv (conv p q) r i=conv p (conv q r) i:=by
 have e1:conv (conv p q) r i=aU (fun k=>aU (fun j=>p j*((if j≤k then q (k-j) else 0)*r (i-k))) (i+1)) (i+1):=by
  refine jQ (fun k hk=> ?_);rw[WU p q (show k≤i by omega),CR.mul_comm,←xL];refine jQ (fun j _=> ?_);rw[CR.mul_comm (r (i-k)),CR.mul_assoc]
 rw[e1,NW];refine jQ (fun j hj=> ?_);rw[xL];congr 1;obtain⟨d,hd⟩:∃d,i+1=j+d:=⟨i+1-j,by omega⟩;rw[hd,qH,mH (n:=j) (fun k hk=>by rw[if_neg (by omega),oY]),xK];have e2:d=i-j+1:=by omega
 rw[e2];refine jQ (fun k hk=> ?_);rw[if_pos (by omega),show j+k-j=k by omega,show i-(j+k)=i-j-k by omega]
end
theorem AQ (xs ys:List Int) (y:Int) (i:Nat):cf (dG xs ys y) i=cf xs i+cf ys i*y:=by
 unfold dG;rw[oX];split
 ·rfl
 ·rw[aP (show xs.length≤i by omega),aP (show ys.length≤i by omega)];simp
def Dv (f:Nat→Int) (d:List Int):Prop:=∃(k:Int) (u:List Int),k≠0∧∀i,k*f i=conv (cf u) (cf d) i
section
variable {f g:Nat→Int} {d e:List Int}
theorem Dv.congr (h:Dv f d) (he:∀i,g i=f i):Dv g d:=by
 obtain⟨k,u,hk,hu⟩:=h;exact⟨k,u,hk,fun i=>by rw[he,hu]⟩
theorem Dv.self (d:List Int) (c:Int):Dv (fun i=>c*cf d i) d:=⟨1,[c],by decide,fun i=>by
 have h:∀k,cf [c] k=if k=0 then c else 0:=fun k=>by
  cases k with
  |zero=>rfl
  |succ k=>rw[aP (by simp)];rfl
 rw[cO h (fun _=>rfl),mY,if_pos (Nat.zero_le _),Int.one_mul];rfl⟩
theorem Dv.zero (d:List Int):Dv (fun _=>0) d:=⟨1,[],by decide,fun i=>by rw[eR (fun k=>bS k)];simp⟩
theorem Dv.lin (h:Dv f d) (h':Dv g d) (q:List Int) (c c':Int):Dv (fun i=>c*f i+c'*conv (cf q) g i) d:=by
 obtain⟨k,u,hk,hu⟩:=h;obtain⟨l,v,hl,hv⟩:=h';refine⟨k*l,dG (u.map (·*(l*c))) (aY q v) (k*c'),Int.mul_ne_zero hk hl,fun i=> ?_⟩;have e:∀j,cf (dG (u.map (·*(l*c))) (aY q v) (k*c')) j=(l*c)*cf u j+(k*c')*conv (cf q) (cf v) j:=fun j=>by
  rw[AQ,qV,xJ,Int.mul_comm (cf u j),Int.mul_comm (conv _ _ _)]
 rw[cO e (fun _=>rfl),j7,fF,fF,←hu,AO,cO (fun _=>rfl) (fun j=>(hv j).symm),kZ];grind
theorem Dv.cancel {c:Int} (hc:c≠0) (h:Dv (fun i=>c*f i) d):Dv f d:=by
 obtain⟨k,u,hk,hu⟩:=h;exact⟨k*c,u,Int.mul_ne_zero hk hc,fun i=>by rw[Int.mul_assoc];exact hu i⟩
theorem Dv.none {r y:List Int} (h:Dv (cf r) y) (hl:r.length<y.length) (ty:aN y):∀i,cf r i=0:=by
 obtain⟨k,u,hk,hu⟩:=h;have y0:y≠[]:=fun e=>by rw[e] at hl;simp at hl
 have hz:=xM (d:=cf u) (L:=u.length) y0 ty (fun i hi=>aP hi) (fun i hi=>by rw[←hu,aP (by omega)];simp);intro i;have h1:=hu i;rw[eR hz] at h1;rcases Int.mul_eq_zero.1 h1 with h2|h2
 ·exact absurd h2 hk
 ·exact h2
end
structure ExtI (x y:List Int) (D:Int) (a b s0 s1:List Int):Prop where
 c0:Dv (fun i=>D*cf a i+ -1*conv (cf s0) (cf x) i) y
 c1:Dv (fun i=>D*cf b i+ -1*conv (cf s1) (cf x) i) y
 dv:∀d,Dv (cf a) d→Dv (cf b) d→Dv (cf x) d∧Dv (cf y) d
 ne:a≠[]∨b≠[]
 ta:aN a
 tb:aN b
 t0:aN s0
 t1:aN s1
 len:(s1=[]∧a=x∧b=y∧s0.length≤1)∨(s1.length+a.length≤y.length+1∧s0.length+a.length≤y.length∧b.length<a.length)
structure ExtR (x y:List Int) (D:Int) (g s:List Int):Prop where
 c:Dv (fun i=>D*cf g i+ -1*conv (cf s) (cf x) i) y
 dx:Dv (cf x) g
 dy:Dv (cf y) g
 ne:g≠[]
 tg:aN g
 ts:aN s
 len:s.length+g.length≤y.length
structure BezRes (A B G S T:List Rat) (Kg K:Nat):Prop where
 id_:∀i,conv (cf S) (cf A) i+conv (cf T) (cf B) i=cf G i
 da:∃U:List Rat,∀i,cf A i=conv (cf U) (cf G) i
 db:∃U:List Rat,∀i,cf B i=conv (cf U) (cf G) i
 ne:G≠[]
 tg:aN G
 ts:aN S
 tt:aN T
 last:cf G (G.length-1)=1
 len:B=[]∨S.length+G.length≤B.length
 lg:G.length≤max A.length B.length
 ls:S.length≤B.length+1
 lt:T.length≤A.length+B.length
 bg:∀q∈G,RL Kg q
 bs:∀q∈S,RL K q
 bt:∀q∈T,RL K q
 bsa:∀i,i≤1000→RL K (conv (cf S) (cf A) i)
 btb:∀i,i≤1000→RL K (conv (cf T) (cf B) i)
theorem WQ {c:Rat} (h:c≠0):c⁻¹≠0:=fun e=>h (by have:=Rat.inv_inv c;rw[e,Rat.inv_zero] at this;exact this.symm)
theorem lL {c d:Rat} (h:c≠0) (k:d≠0):c*d≠0:=fun e=>(Rat.mul_eq_zero.1 e).elim h k
theorem uT {c d:Rat} (h:c≠0) (k:d≠0):c/d≠0:=by rw[Rat.div_def];exact lL h (WQ k)
structure Rl (G:List Rat) (c:Rat) (r:List Rat) (e:List Int):Prop where
 c0:c≠0
 r_:∀i,conv (cf r) (cf G) i=c*cf e i
 tr:aN r
 te:aN e
theorem Rl.len {G r:List Rat} {c:Rat} {e:List Int} (h:Rl G c r e) (hG:cf G (G.length-1)≠0) (hn:1≤G.length):(r=[]→e=[])∧(r≠[]→r.length+G.length=e.length+1):=by
 constructor
 ·rintro rfl;refine DQ h.te (fun i=> ?_);have:=h.r_ i;rw[eR (fun k=>bS k)] at this;rcases Rat.mul_eq_zero.1 this.symm with h1|h1
  ·exact absurd h1 h.c0
  ·exact Rat.intCast_inj.1 h1
 ·intro h0;have hr:=List.length_pos_iff.2 h0;have hlr:=(cZ h0).1 h.tr;have hlead:=mZ (p:=cf r) (q:=cf G) (m:=r.length-1) (n:=G.length-1) (fun i hi=>aP (by omega)) (fun i hi=>aP (by omega));rw[h.r_] at hlead;have hne:cf e (r.length-1+(G.length-1))≠0:=fun e0=>by
   rw[e0,Rat.intCast_zero,Rat.mul_zero] at hlead;exact lL hlr hG hlead.symm
  have hlt:r.length-1+(G.length-1)<e.length:=by
   rcases Nat.lt_or_ge (r.length-1+(G.length-1)) e.length with h1|h1
   ·exact h1
   ·exact absurd (aP h1) hne
  have he0:e≠[]:=fun e0=>by rw[e0] at hlt;simp at hlt
  have htop:¬r.length+(G.length-1)<e.length:=fun h1=>by
   have h2:=(cZ he0).1 h.te;have h3:=o6 (p:=cf r) (q:=cf G) (m:=r.length) (n:=G.length) (fun i hi=>aP hi) (fun i hi=>aP hi) (i:=e.length-1) (by omega);rw[h.r_] at h3;exact lL h.c0 (fJ h2) h3
  omega
def cL (f:Rat) (b:List Int):List Rat:=b.map (fun n:Int=>f*(n:Rat))
theorem dV (f:Rat) (b:List Int):(cL f b).length=b.length:=List.length_map _
theorem d6 (f:Rat) (b:List Int) (i:Nat):cf (cL f b) i=f*cf b i:=rG f b i
theorem zQ {f:Rat} {b:List Int} (h:f≠0∨b=[]) (tb:aN b):aN (cL f b):=by
 rcases h with h|rfl
 ·exact(AF h tb).trim
 ·intro x hx;cases hx
theorem XV {A Bq Q R:List Rat} {a b q r:List Int} {KB:Nat} {m:Int} {c:Rat} (hA:∀i,cf A i=c*cf a i) (hc:c≠0) (hB:Prp Bq b) (hb:b≠[]) (h:PQRes a b KB m q r) (hD:DivQ A Bq Q R):R.length=r.length∧∀i,cf R i=c/m*cf r i:=by
 have hBn:=hB.ne hb;obtain⟨hBl, -,d,hd,hB⟩:=hB;have hm:=fJ h.m0;have hcm:c/m≠0:=uT hc hm;have hq:DivQ A Bq (q.map (fun n:Int=>(c/m/d)*(n:Rat))) (r.map (fun n:Int=>(c/m)*(n:Rat))):=by
  refine⟨fun i=> ?_,(AF (uT hcm hd) h.q_trim).trim,(AF hcm h.r_trim).trim,by rw[List.length_map,hBl];exact h.r_lt⟩;rw[cO (rG _ q) hB i,fF,kZ,rG,hA];have h1:((m*cf a i:Int):Rat)=((conv (cf q) (cf b) i+cf r i:Int):Rat):=by rw[h.id_ i]
  rw[Rat.intCast_mul,Rat.intCast_add,o5] at h1;generalize conv (fun k=>((cf q k:Int):Rat)) (fun k=>((cf b k:Int):Rat)) i=z at *
  have h2:c/m/d*(d*z)=c/m*z:=by rw[←Rat.mul_assoc,Rat.div_mul_cancel hd]
  rw[h2];have h3:c/m*z+c/m*((cf r i:Int):Rat)=c/m*(m*cf a i):=by rw[h1];grind
  rw[h3,←Rat.mul_assoc,Rat.div_mul_cancel hm]
 obtain⟨-,rfl⟩:=hD.unique hq hBn (by rw[hBl];exact List.length_pos_iff.2 hb);exact⟨List.length_map _,rG _ r⟩
inductive ChT (B:Nat):List Int→Rat→List Int→Rat→List (List Rat)→Prop
 |done (a:List Int) (fa fb:Rat):ChT B a fa [] fb []
 |step {a b q r r':List Int} {fa fb f':Rat} {m:Int} {C:List (List Rat)} (hb:b≠[]) (h:PQRes a b B m q r) (h0:fa≠0∧fb≠0∧aN b) (ht:aN r') (hl:r'.length=r.length) (hf:f'≠0∨r'=[]) (he:∀i,f'*cf r' i= -(fa/m)*cf r i)
   (hR:∀F,RL F fa→RL (F+B) f') (hn:∀n∈r',nl n.natAbs≤B) (t:ChT B b fb r' f' C):ChT B a fa b fb (cL fb b :: C)
theorem zX {a b q r r':List Int} {fa fb f':Rat} {m:Int} {B:Nat} {Q R:List Rat} (hb:b≠[]) (h:PQRes a b B m q r) (h0:fa≠0∧fb≠0∧aN b) (ht:aN r') (hf:f'≠0∨r'=[]) (he:∀i,f'*cf r' i= -(fa/m)*cf r i) (hD:DivQ (cL fa a) (cL fb b) Q R):
  aH aG (dL [] (-1) R)=cL f' r':=by
 obtain⟨-,h2⟩:=XV (d6 fa a) h0.1 (AF h0.2.1 h0.2.2) hb h hD;refine iJ (fC _) (zQ hf ht) (fun i=> ?_);rw[dS,oG,bS,h2,d6,he];grind
theorem ChT.len {B:Nat} {a b:List Int} {fa fb:Rat} {C:List (List Rat)} (h:ChT B a fa b fb C):C.length≤b.length:=by
 induction h with
 |done a fa fb=>exact Nat.le_refl 0
 |step hb h h0 ht hl hf he hR hn t ih=>
  have:=h.r_lt;rw[List.length_cons];omega
theorem zY {a b q r:List Int} {B:Nat} {m:Int} {fa fb:Rat} (h:PQRes a b B m q r) (h0:fa≠0∧fb≠0):∃Q R,DivQ (cL fa a) (cL fb b) Q R:=by
 have hm:=fJ h.m0;refine⟨cL (fa/m/fb) q,cL (fa/m) r,fun i=> ?_,(AF (uT (uT h0.1 hm) h0.2) h.q_trim).trim,(AF (uT h0.1 hm) h.r_trim).trim,by rw[dV,dV];exact h.r_lt⟩;rw[cO (d6 _ q) (d6 _ b) i,fF,kZ,d6,d6];have h1:((m*cf a i:Int):Rat)=((conv (cf q) (cf b) i+cf r i:Int):Rat):=by rw[h.id_ i]
 rw[Rat.intCast_mul,Rat.intCast_add,o5] at h1;generalize conv (fun k=>((cf q k:Int):Rat)) (fun k=>((cf b k:Int):Rat)) i=z at *
 have h2:fa/m/fb*(fb*z)=fa/m*z:=by rw[←Rat.mul_assoc,Rat.div_mul_cancel h0.2]
 rw[h2];have h3:fa/m*z+fa/m*((cf r i:Int):Rat)=fa/m*(m*cf a i):=by rw[h1];grind
 rw[h3,←Rat.mul_assoc,Rat.div_mul_cancel hm]
theorem ChT.unique {B:Nat} {a b:List Int} {fa fb:Rat} {C:List (List Rat)} (h:ChT B a fa b fb C):∀{B':Nat} {a' b':List Int} {fa' fb':Rat} {C':List (List Rat)},ChT B' a' fa' b' fb' C'→cL fa a=cL fa' a'→cL fb b=cL fb' b'→C=C':=by
 induction h with
 |done a fa fb=>
  intro B' a' b' fa' fb' C' h' _ e;cases h' with
  |done=>rfl
  |step hb=>exact absurd (List.eq_nil_of_length_eq_zero (by rw[←dV fb',←e];rfl)) hb
 |step hb h h0 ht hl hf he hR hn t ih=>
  intro B' a' b' fa' fb' C' h' e1 e2;cases h' with
  |done=>exact absurd (List.eq_nil_of_length_eq_zero (by rw[←dV,e2];rfl)) hb
  |step hb' h' h0' ht' hl' hf' he' hR' hn' t'=>
   obtain⟨Q,R,hD⟩:=zY h ⟨h0.1,h0.2.1⟩;have k1:=zX hb h h0 ht hf he hD;rw[e1,e2] at hD;have k2:=zX hb' h' h0' ht' hf' he' hD;rw[e2,ih t' e2 (k1.symm.trans k2)]
inductive StT (B:Nat):List Int→List Int→List (List Int)→Prop
 |done (a:List Int):StT B a [] []
 |step {a b q r:List Int} {m:Int} {c:List (List Int)} (hb:b≠[]) (h:PQRes a b B m q r) (t:StT B b (if 0<m then (aZ r).map (·*(-1)) else aZ r) c):StT B a b (b :: c)
inductive All2 {α β:Type} (P:α→β→Prop):List α→List β→Prop
 |nil:All2 P [] []
 |cons {a:α} {b:β} {l:List α} {m:List β} (h:P a b) (t:All2 P l m):All2 P (a :: l) (b :: m)
def Sg (e:Rat) (A:List Rat) (a:List Int):Prop:=a≠[]∧aN a∧∃f,0<e*f∧A=cL f a
theorem eM {e f:Rat} (h:0<e*f):f≠0:=fun h0=>by rw[h0,Rat.mul_zero] at h;exact absurd h (by decide)
theorem XW {K:Nat} {a b:List Int} {c:List (List Int)} (h:StT K a b c) (e:Rat) (hK:1≤K):∀fa fb:Rat,0<e*fa→(b≠[]→0<e*fb)→aN b→∃C,ChT K a fa b fb C∧All2 (Sg e) C c:=by
 induction h with
 |done a=>exact fun fa fb _ _ _=>⟨[],.done a fa fb,.nil⟩
 | @step a b q r m c hb h t ih=>
  intro fa fb ha hfb tb;have hB:=hfb hb;have hm:=fJ h.m0;have tp:=j8 h.r_trim;by_cases h0:r=[]
  ·have hr':(if 0<m then (aZ r).map (·*(-1)) else aZ r)=[]:=by
    have:aZ r=[]:=List.eq_nil_of_length_eq_zero (by rw[gA,h0];rfl);rw[this];split<;>rfl
   rw[hr'] at t ih;obtain⟨C,h1,h2⟩:=ih fb fa hB (fun e=>absurd rfl e) (fun x hx=>by cases hx);exact⟨_,.step hb h ⟨eM ha,eM hB,tb⟩ (fun x hx=>by cases hx) (by rw[h0]) (.inr rfl) (fun i=>by rw[h0,bS,Rat.intCast_zero,Rat.mul_zero,Rat.mul_zero]) (fun F hF=>bV hF (by omega)) (fun n hn=>by cases hn) h1,.cons ⟨hb,tb,fb,hB,rfl⟩ h2⟩
  ·have hg0:=DZ h.r_trim h0;have hg:0<((cA r:Int):Rat):=by
    have:(0:Int)<(cA r:Int):=by omega
    exact_mod_cast this
   have hgn:nl (cA r:Int).natAbs≤K:=by rw[Int.natAbs_natCast];exact tO h.br
   have hma:(0:Int)<(m.natAbs:Int):=by have:=h.m0;omega
   have hmr:0<((m.natAbs:Int):Rat):=by exact_mod_cast hma
   have hpos:0<e*(fa*(((cA r:Int):Rat)/((m.natAbs:Int):Rat))):=by
    rw[←Rat.mul_assoc,Rat.div_def];exact Rat.mul_pos ha (Rat.mul_pos hg (Rat.inv_pos.2 hmr))
   have hRL:∀F,RL F fa→RL (F+K) (fa*(((cA r:Int):Rat)/((m.natAbs:Int):Rat))):=fun F hF=>iB hF (zV hgn (by rw[Int.natAbs_natCast];exact h.bm) hK);have hms:((m.natAbs:Int):Rat)≠0:=fJ (by omega);by_cases hmp:0<m
   ·rw[if_pos hmp] at t ih;have hmm:(m.natAbs:Int)=m:=by omega
    rw[hmm] at hRL hpos;have ht2:aN ((aZ r).map (·*(-1))):=FD (by decide) tp;obtain⟨C,h1,h2⟩:=ih fb _ hB (fun _=>hpos) ht2;refine⟨_,.step hb h ⟨eM ha,eM hB,tb⟩ ht2 (by rw[List.length_map,gA]) (.inl (eM hpos)) (fun i=> ?_) hRL (fun n hn=> ?_) h1,.cons ⟨hb,tb,fb,hB,rfl⟩ h2⟩
    ·rw[qV,←E6 r i,Rat.intCast_mul,Rat.intCast_mul];have:((-1:Int):Rat)= -1:=rfl;rw[this];grind
    ·obtain⟨k,hk,rfl⟩:=List.mem_map.1 hn;rw[Int.natAbs_mul];simpa using mI h.br k hk
   ·rw[if_neg hmp] at t ih;have hmm:(m.natAbs:Int)= -m:=by omega
    rw[hmm,Rat.intCast_neg] at hRL hpos;obtain⟨C,h1,h2⟩:=ih fb _ hB (fun _=>hpos) tp;refine⟨_,.step hb h ⟨eM ha,eM hB,tb⟩ tp (by rw[gA]) (.inl (eM hpos)) (fun i=> ?_) hRL (mI h.br) h1,.cons ⟨hb,tb,fb,hB,rfl⟩ h2⟩;rw[←E6 r i,Rat.intCast_mul];grind
def cE:Int→List Int→Nat
 |_,[]=>0
 |l,s :: t=>if s=0 then cE l t else (if l≠0∧s≠l then 1 else 0)+cE s t
theorem XX (t:List Int):∀l,cE (-l) (t.map (fun s=> -s))=cE l t:=by
 induction t with
 |nil=>intro l;rfl
 |cons s t ih=>
  intro l;show(if -s=0 then cE (-l) (t.map (fun s=> -s)) else (if -l≠0∧ -s≠ -l then 1 else 0)+cE (-s) (t.map (fun s=> -s)))=if s=0 then cE l t else (if l≠0∧s≠l then 1 else 0)+cE s t
  rw[ih l,ih s];by_cases h0:s=0
  ·rw[if_pos h0,if_pos (by omega)]
  ·rw[if_neg h0,if_neg (by omega)];congr 1;by_cases h1:l≠0∧s≠l
   ·rw[if_pos h1,if_pos (by omega)]
   ·rw[if_neg h1,if_neg (by omega)]
def kR (A:List Rat) (i:Int) (x:Rat):Int:=if i=0 then (eP A x).num.sign else if i<0∧A.length%2=0 then -(cf A (A.length-1)).num.sign else (cf A (A.length-1)).num.sign
def bD (a:List Int) (i:Int) (x:Rat):Int:=if i=0 then (d5 a x.num x.den).sign else if i<0∧a.length%2=0 then -(cf a (a.length-1)).sign else (cf a (a.length-1)).sign
theorem vA (f:Rat) (a:List Int) (x:Rat):eP (cL f a) x=f*eP (a.map (fun n:Int=>(n:Rat))) x:=by
 induction a with
 |nil=>show(0:Rat)=f*0;rw[Rat.mul_zero]
 |cons n a ih=>
  show eP (cL f a) x*x+f*n=f*(eP (a.map (fun n:Int=>(n:Rat))) x*x+n)
  rw[ih];grind
theorem XY (a:List Int) (x:Rat):(d5 a x.num x.den).sign=(eP (a.map (fun n:Int=>(n:Rat))) x).num.sign:=by
 have hb0:(x.den:Int)≠0:=by have:=x.den_nz;omega
 have hbp:0<((x.den:Int):Rat):=by
  have:(0:Int)<(x.den:Int):=by omega
  exact_mod_cast this
 have h:=XA a x.num x.den hb0;have hx:((x.num:Int):Rat)/((x.den:Int):Rat)=x:=by rw[Rat.intCast_natCast,←pM]
 rw[hx] at h;have hp:0<((dR a x.num x.den:Int):Rat):=by
  rw[X4];have:(0:Int)<(x.den:Int)^a.length:=Int.pow_pos (by omega);exact_mod_cast this
 rw[←lR,←kQ hbp,Rat.mul_comm,h,kQ hp]
theorem vB {f:Rat} (hf:0<f) (a:List Int) (i:Int) (x:Rat):kR (cL f a) i x=bD a i x:=by
 unfold kR bD;rw[dV,d6,kQ hf,lR,vA,kQ hf,XY]
theorem AE {f:Rat} (hf:f<0) (a:List Int) (i:Int) (x:Rat):kR (cL f a) i x= -bD a i x:=by
 have h:=vB (f:= -f) (by grind) a i x;have e:∀y:Rat,(-f*y).num.sign= -(f*y).num.sign:=fun y=>by
  have: -f*y= -(f*y):=by grind
  rw[this,Rat.neg_num,Int.sign_neg]
 unfold kR bD at *;rw[dV,d6,e,vA,e] at h;rw[dV,d6,vA];by_cases h1:i=0
 ·simp only[if_pos h1] at h⊢;omega
 ·simp only[if_neg h1] at h⊢;by_cases h2:i<0∧a.length%2=0
  ·simp only[if_pos h2] at h⊢;omega
  ·simp only[if_neg h2] at h⊢;omega
theorem All2.map_eq {α β γ:Type} {P:α→β→Prop} {l:List α} {m:List β} (h:All2 P l m) {f:α→γ} {g:β→γ} (hp:∀a b,P a b→f a=g b):l.map f=m.map g:=by
 induction h with
 |nil=>rfl
 |cons h t ih=>rw[List.map_cons,List.map_cons,hp _ _ h,ih]
theorem AL {e:Rat} {C:List (List Rat)} {c:List (List Int)} (h:All2 (Sg e) C c) (i:Int) (x:Rat):cE 0 (C.map (fun A=>kR A i x))=cE 0 (c.map (fun a=>bD a i x)):=by
 by_cases he:0<e
 ·rw[h.map_eq (g:=fun a=>bD a i x) (fun A a hs=>by
   obtain⟨-, -,f,hf,rfl⟩:=hs
   exact vB (by rcases eL f with k|k|k
                ·have:=Rat.mul_pos he (show 0< -f by grind);grind
                ·exact absurd k (eM hf)
                ·exact k) a i x)]
 ·rw[h.map_eq (g:=fun a=> -bD a i x) (fun A a hs=>by
   obtain⟨-, -,f,hf,rfl⟩:=hs
   exact AE (by rcases eL f with k|k|k
                ·exact k
                ·exact absurd k (eM hf)
                ·rcases eL e with k'|k'|k'
                 ·have:=Rat.mul_pos k (show 0< -e by grind);grind
                 ·rw[k',Rat.zero_mul] at hf;exact absurd hf (by decide)
                 ·exact absurd k' he) a i x)]
  have:=XX (c.map (fun a=>bD a i x)) 0;rw[List.map_map] at this;exact this
theorem AN {P:Nat→Prop} (h:∃n,P n):∃n,P n∧∀m,P m→n≤m:=by
 obtain⟨n,hn⟩:=h;induction n using Nat.strongRecOn with
 |ind n ih=>
  by_cases h:∃m,m<n∧P m
  ·obtain⟨m,h1,h2⟩:=h;exact ih m h1 h2
  ·exact⟨n,hn,fun m hm=>Nat.le_of_not_lt (fun hl=>h ⟨m,hl,hm⟩)⟩
def Pm (p:Nat):Prop:=1<p∧∀a b:Int,(p:Int)∣a*b→(p:Int)∣a∨(p:Int)∣b
theorem AP {n:Nat} (h:1<n):∃p,Pm p∧p∣n:=by
 obtain⟨d,⟨h1,h2⟩,h3⟩:=AN (P:=fun d=>1<d∧d∣n) ⟨n,h,Nat.dvd_refl n⟩;refine⟨d,⟨h1,fun a b hab=> ?_⟩,h2⟩;have hg:=Nat.gcd_dvd_left d a.natAbs;have hp:=Nat.gcd_pos_of_pos_left a.natAbs (show 0<d by omega);rcases Nat.lt_or_ge 1 (Nat.gcd d a.natAbs) with hl|hl
 ·left;have h4:=h3 _ ⟨hl,Nat.dvd_trans hg h2⟩;have h5:Nat.gcd d a.natAbs=d:=Nat.le_antisymm (Nat.le_of_dvd (by omega) hg) h4;have h6:=Nat.gcd_dvd_right d a.natAbs;rw[h5] at h6;exact Int.ofNat_dvd_left.2 h6
 ·right;have h5:Nat.Coprime d a.natAbs:=by unfold Nat.Coprime;omega
  have h6:=Int.ofNat_dvd_left.1 hab;rw[Int.natAbs_mul] at h6;exact Int.ofNat_dvd_left.2 (h5.dvd_of_dvd_mul_left h6)
theorem XZ {p:Int} {t:Nat→Int} {n:Nat} (h:∀k,k<n→p∣t k):p∣aU t n:=by
 induction n with
 |zero=>exact Int.dvd_zero p
 |succ n ih=>exact Int.dvd_add (ih (fun k hk=>h k (by omega))) (h n (by omega))
theorem Y0 {p:Int} {t:Nat→Int} {n j:Nat} (hj:j<n) (h:∀k,k<n→k≠j→p∣t k):p∣aU t n-t j:=by
 induction n with
 |zero=>omega
 |succ n ih=>
  rw[aU];by_cases e:j=n
  ·subst e;have:=XZ (p:=p) (t:=t) (n:=j) (fun k hk=>h k (by omega) (by omega));rw[show aU t j+t j-t j=aU t j by omega];exact this
  ·have h1:=ih (by omega) (fun k hk=>h k (by omega));have h2:=h n (by omega) (fun e'=>e e'.symm);rw[show aU t n+t n-t j=aU t n-t j+t n by omega];exact Int.dvd_add h1 h2
theorem Y1 {p:Nat} (hp:Pm p) {f g:Nat→Int} {i j:Nat} (hi:¬(p:Int)∣f i) (hi':∀k,k<i→(p:Int)∣f k) (hj:¬(p:Int)∣g j) (hj':∀k,k<j→(p:Int)∣g k):¬(p:Int)∣conv f g (i+j):=fun h=>by
 have h1:=Y0 (p:=(p:Int)) (t:=fun k=>f k*g (i+j-k)) (n:=i+j+1) (j:=i) (by omega) (fun k hk hne=>by
  rcases Nat.lt_or_ge k i with hl|hl
  ·exact Int.dvd_trans (hi' k hl) (Int.dvd_mul_right _ _)
  ·exact Int.dvd_trans (hj' (i+j-k) (by omega)) (Int.dvd_mul_left _ _))
 have h2:(p:Int)∣f i*g (i+j-i):=by
  have h3:=Int.dvd_sub h h1;have e:conv f g (i+j)-(aU (fun k=>f k*g (i+j-k)) (i+j+1)-f i*g (i+j-i))=f i*g (i+j-i):=by
   show aU (fun k=>f k*g (i+j-k)) (i+j+1)-_=_
   omega
  rw[e] at h3;exact h3
 rw[Nat.add_sub_cancel_left] at h2;rcases hp.2 _ _ h2 with h3|h3
 ·exact hi h3
 ·exact hj h3
theorem AR {p:Nat} (hp:1<p) {f:List Int} (hf:cA f=1):∃i,¬(p:Int)∣cf f i∧∀k,k<i→(p:Int)∣cf f k:=by
 obtain⟨i,h1,h2⟩:=AN (P:=fun i=>¬(p:Int)∣cf f i) (by
  by_cases h:∃i,¬(p:Int)∣cf f i
  ·exact h
  ·exfalso
   have h1:p∣cA f:=tU (fun n hn=>by
    obtain⟨i,hi,rfl⟩:=List.mem_iff_getElem.1 hn;rw[←dO hi];by_cases h':(p:Int)∣cf f i
    ·exact h'
    ·exact absurd ⟨i,h'⟩ h)
   rw[hf] at h1;have:=Nat.le_of_dvd (by decide) h1;omega)
 refine⟨i,h1,fun k hk=> ?_⟩;by_cases h:(p:Int)∣cf f k
 ·exact h
 ·have:=h2 k h;omega
theorem Y2 {f g:List Int} (hf:cA f=1) (hg:cA g=1) {d:Nat} (h:∀i,(d:Int)∣conv (cf f) (cf g) i):d=1:=by
 by_cases h1:d=1
 ·exact h1
 ·exfalso;obtain⟨p,hp,hpd⟩:∃p,Pm p∧p∣d:=by
   rcases Nat.eq_zero_or_pos d with h0|h0
   ·obtain⟨p,hp, -⟩:=AP (n:=2) (by decide);exact⟨p,hp,by rw[h0];exact Nat.dvd_zero p⟩
   ·exact AP (by omega)
  obtain⟨i,i1,i2⟩:=AR hp.1 hf;obtain⟨j,j1,j2⟩:=AR hp.1 hg;exact Y1 hp i1 i2 j1 j2 (Int.dvd_trans (Int.ofNat_dvd.2 hpd) (h (i+j)))
theorem lU {ns:List Int} (h:(cA ns:Int)≠0):cA (aZ ns)=1:=by
 have h1:cA (aZ ns)*cA ns∣cA ns:=tU (fun n hn=>by
  obtain⟨i,hi,rfl⟩:=List.mem_iff_getElem.1 hn;rw[←dO hi,←E6 ns i,Int.natCast_mul];refine Int.mul_dvd_mul ?_ (Int.dvd_refl _);have hi':i<(aZ ns).length:=by rw[gA];exact hi
  rw[dO hi'];exact tN (List.getElem_mem hi'))
 have h2:0<cA ns:=by omega
 have h3:=Nat.le_of_dvd h2 h1;rcases Nat.lt_or_ge 1 (cA (aZ ns)) with h4|h4
 ·have:=Nat.mul_le_mul_right (cA ns) h4;omega
 ·rcases Nat.eq_zero_or_pos (cA (aZ ns)) with h5|h5
  ·exfalso;have h6:∀i,cf ns i=0:=fun i=>by
    rw[←E6 ns i];by_cases hi:i<(aZ ns).length
    ·rw[dO hi,OC h5 _ (List.getElem_mem hi),Int.zero_mul]
    ·rw[aP (by omega),Int.zero_mul]
   have h7:∀n∈ns,((cA ns+cA ns:Nat):Int)∣n:=fun n hn=>by
    obtain⟨i,hi,rfl⟩:=List.mem_iff_getElem.1 hn;rw[←dO hi,h6];exact Int.dvd_zero _
   have h8:=Nat.le_of_dvd h2 (tU h7);omega
  ·omega
theorem Y3 (Q:List Rat):∃D:Nat,0<D∧∀q∈Q,(q.den:Int)∣(D:Int):=by
 induction Q with
 |nil=>exact⟨1,by decide,fun q hq=>by cases hq⟩
 |cons a Q ih=>
  obtain⟨D,h1,h2⟩:=ih;refine⟨a.den*D,Nat.mul_pos a.den_pos h1,fun q hq=> ?_⟩;rw[Int.natCast_mul];rcases List.mem_cons.1 hq with rfl|hq
  ·exact Int.dvd_mul_right _ _
  ·exact Int.dvd_trans (h2 q hq) (Int.dvd_mul_left _ _)
theorem Y4 {xs g:List Int} {Q:List Rat} (hg:cA g=1) (h:∀i,((cf xs i:Int):Rat)=conv (cf Q) (fun k=>((cf g k:Int):Rat)) i):∃q:List Int,q.length=Q.length∧∀i,cf Q i=((cf q i:Int):Rat):=by
 obtain⟨D,hD,hd⟩:=Y3 Q;have hn:=lD Q (D:Int) hd;have hD0:((D:Int):Rat)≠0:=fJ (by omega);have hl:=eK Q (D:Int);generalize hN:aI Q (D:Int)=N at *;by_cases hc:(cA N:Int)=0
 ·refine⟨N,hl,fun i=> ?_⟩;have h1:cf N i=0:=by
   rw[←E6 N i,hc,Int.mul_zero]
  have h2:=hn i;rw[h1] at h2⊢;have h3:cf Q i*((D:Int):Rat)=0:=by rw[←h2,Rat.intCast_zero]
  rcases Rat.mul_eq_zero.1 h3 with h4|h4
  ·rw[h4,Rat.intCast_zero]
  ·exact absurd h4 hD0
 ·have hp:=lU hc;have key:∀i,(D:Int)*cf xs i=(cA N:Int)*conv (cf (aZ N)) (cf g) i:=fun i=>by
   have h1:(((D:Int)*cf xs i:Int):Rat)=(((cA N:Int)*conv (cf (aZ N)) (cf g) i:Int):Rat):=by
    rw[Rat.intCast_mul,Rat.intCast_mul,o5,h i,←fF,←fF];refine cO (fun k=> ?_) (fun _=>rfl) i;have h2:=hn k;rw[←E6 N k,Rat.intCast_mul] at h2;grind
   exact Rat.intCast_inj.1 h1
  have hDc:D∣cA N:=by
   have e1:=Nat.gcd_dvd_left D (cA N);have e2:=Nat.gcd_dvd_right D (cA N);have e0:=Nat.gcd_pos_of_pos_left (cA N) hD;obtain⟨a,ha⟩:=e1;obtain⟨b,hb⟩:=e2;have hcop:Nat.Coprime a b:=by
    have:=Nat.coprime_div_gcd_div_gcd (m:=D) (n:=cA N) e0;rwa [Nat.div_eq_of_eq_mul_right e0 ha,Nat.div_eq_of_eq_mul_right e0 hb] at this
   have ha1:a=1:=Y2 hp hg (fun i=>by
    have h1:=key i;have h2:((Nat.gcd D (cA N):Nat):Int)*((a:Int)*cf xs i)=((Nat.gcd D (cA N):Nat):Int)*((b:Int)*conv (cf (aZ N)) (cf g) i):=by
     rw[←Int.mul_assoc,←Int.mul_assoc,←Int.natCast_mul,←Int.natCast_mul,←ha,←hb];exact h1
    have h3:=Int.eq_of_mul_eq_mul_left (by omega) h2;have h4:(a:Int)∣(b:Int)*conv (cf (aZ N)) (cf g) i:=⟨_,h3.symm⟩
    have h5:=Int.ofNat_dvd_left.1 h4;rw[Int.natAbs_mul,Int.natAbs_natCast] at h5;exact Int.ofNat_dvd_left.2 (hcop.dvd_of_dvd_mul_left h5))
   rw[ha1,Nat.mul_one] at ha;rw[ha];exact Nat.gcd_dvd_right _ _
  obtain⟨k,hk⟩:=hDc;refine⟨(aZ N).map (·*(k:Int)),by rw[List.length_map,gA];exact hl,fun i=> ?_⟩;rw[qV,Rat.intCast_mul];have h2:=hn i;rw[←E6 N i,hk,Int.natCast_mul,Rat.intCast_mul,Rat.intCast_mul] at h2;have h3:(((cf (aZ N) i:Int):Rat)*((k:Int):Rat)-cf Q i)*((D:Int):Rat)=0:=by grind
  rcases Rat.mul_eq_zero.1 h3 with h4|h4
  ·grind
  ·exact absurd h4 hD0
end Go.Proofs.YtbhplgdbfmifkaaGreatDoor
namespace Go.Proofs.YtbhplgdbfmifkaaGreatDoor
open Go.RowKit Sos
theorem IC {B:Nat} {a b g:List Int} (h:Euc B a b g) (hB:1≤B):aN a→aN b→(∀n∈a,nl n.natAbs≤B)→(∀n∈b,nl n.natAbs≤B)→aN g∧(∀n∈g,nl n.natAbs≤B)∧g.length≤max a.length b.length:=by
 induction h with
 |done a=>exact fun ta _ ka _=>⟨ta,ka,Nat.le_max_left _ _⟩
 |one hb=>exact fun _ _ _ _=>⟨eT rfl,fun n hn=>by rw[List.mem_singleton.1 hn];exact Nat.le_trans (bI (m:=1) (by unfold BN;decide)) hB,by rw[hb];exact Nat.le_max_right _ _⟩
 |step hb h t ih=>
  intro _ tb _ kb;obtain⟨h1,h2,h3⟩:=ih tb (j8 h.r_trim) kb (mI h.br);rw[gA] at h3;have:=h.r_lt;exact⟨h1,h2,by omega⟩
def GcT (A B:List Rat) (g:List Int):Prop:=∃D E,ComDen A D 8∧ComDen B E 8∧fL 43740 (aI A D) (aI B E) g
theorem GcT.ok {A B:List Rat} {g:List Int} (h:GcT A B g) (tA:aN A) (tB:aN B) (kA:∀q∈A,RL 1 q) (kB:∀q∈B,RL 1 q) (lA:A.length≤7) (lB:B.length≤7):(∃a b,Prp A a∧Prp B b∧Trc 43740 a b g)∧aN g∧(∀n∈g,nl n.natAbs≤43740)∧g.length≤7:=by
 obtain⟨D,E,hD,hE,h⟩:=h;have tx:=gR hD.pos hD.dvd tA;have ty:=gR hE.pos hE.dvd tB;have kx:=mI (K:=43740) (fun n hn=>Nat.le_trans (iK _ D 1 _ kA hD.nl_ n hn) (by decide));have ky:=mI (K:=43740) (fun n hn=>Nat.le_trans (iK _ E 1 _ kB hE.nl_ n hn) (by decide));have pA:=AG (rI hD tA);have pB:=AG (rI hE tB);have lx:=eK A D;have ly:=eK B E;unfold fL at h;split at h
 ·rename_i hlt;obtain⟨h1,h2,h3⟩:=IC h (by decide) (j8 ty) (j8 tx) ky kx;rw[gA,gA] at h3;exact⟨⟨_,_,pA,pB,.inr (.inr ⟨by rw[gA,gA];exact hlt,h,kx⟩)⟩,h1,h2,by omega⟩
 ·obtain⟨h1,h2,h3⟩:=IC h (by decide) (j8 tx) (j8 ty) kx ky;rw[gA,gA] at h3;exact⟨⟨_,_,pA,pB,.inl h⟩,h1,h2,by omega⟩
section
variable (a b:List (List UInt8)) (va vb:Value) (w:World) (hG:Glob w) (ha:StrsAt w va a) (hb':StrsAt w vb b) (hla:a.length≤7) (hlb:b.length≤7) (hsa:∀l∈a,l.length≤6) (hsb:∀l∈b,l.length≤6)
include hG ha hb' hla hlb hsa hsb
end
end Go.Proofs.YtbhplgdbfmifkaaGreatDoor
namespace Go.Proofs.YtbhplgdbfmifkaaGreatDoor
open Sos
theorem u4 (f:Nat→Int) (i:Nat):conv f (cf [1]) i=f i:=by
 have h:∀k,cf [(1:Int)] k=if k=0 then 1 else 0:=fun k=>by
  cases k with
  |zero=>rfl
  |succ k=>rw[aP (by simp)];rfl
 rw[jR,cO h (fun _=>rfl),mY,if_pos (Nat.zero_le _),Int.one_mul];rfl
theorem XO {B:Nat} {a b g:List Int} (h:Euc B a b g):Dv (cf a) g∧Dv (cf b) g:=by
 induction h with
 |done a=>exact⟨(Dv.self a 1).congr (fun i=>(Int.one_mul _).symm),(Dv.zero a).congr (fun i=>bS i)⟩
 | @one a b hb=>exact⟨⟨1,a,by decide,fun i=>by rw[u4,Int.one_mul]⟩,⟨1,b,by decide,fun i=>by rw[u4,Int.one_mul]⟩⟩
 | @step a b q r g m hb h t ih=>
  refine⟨Dv.cancel h.m0 ((ih.2.lin ih.1 q (cA r:Int) 1).congr (fun i=> ?_)),ih.1⟩;rw[h.id_ i,Int.mul_comm (cA r:Int),E6 r i];omega
theorem XP {B:Nat} {a b g:List Int} (h:Euc B a b g):cA a=1→(b=[]∨cA b=1)→cA g=1:=by
 induction h with
 |done a=>exact fun h _=>h
 |one hb=>exact fun _ _=>rfl
 | @step a b q r g m hb h t ih=>
  intro _ h2;have hb0:b≠[]:=fun e=>by rw[e] at hb;simp at hb
  refine ih (h2.resolve_left hb0) ?_;by_cases h0:r=[]
  ·exact .inl (List.eq_nil_of_length_eq_zero (by rw[gA,h0];rfl))
  ·exact .inr (lU (DZ h.r_trim h0))
theorem XQ {w:List Int} (h:cA w=1):aZ w=w:=by
 refine List.ext_getElem (gA w) (fun i h1 h2=> ?_);have:=E6 w i;rw[h,dO h1,dO h2] at this;simpa using this
theorem gP {w:List Int} (h:aN w):aN (fT w):=by
 by_cases h0:fT w=[]
 ·rw[h0];exact fun a ha=>by simp at ha
 ·have hl:=gI w;have hp:(fT w).length≠0:=fun e=>h0 (List.eq_nil_of_length_eq_zero e);have hw:w≠[]:=fun e=>h0 (by rw[e];rfl);rw[cZ h0,lT,show(fT w).length-1+1=w.length-1 by omega];exact Int.mul_ne_zero ((cZ hw).1 h) (by omega)
structure Sqp (B:Nat) (w s:List Int):Prop where
 out:∃g,Euc B w (aZ (fT w)) g∧g≠[]∧aN g∧cA g=1∧s.length+g.length=w.length+1∧∀i,cf w i=conv (cf s) (cf g) i
 ne:s≠[]
 ts:aN s
theorem XR {B:Nat} {w g:List Int} (hw:w≠[]) (tw:aN w) (pw:cA w=1) (h:Euc B w (aZ (fT w)) g) (tg:aN g):cA g=1∧g≠[]∧∃s,s≠[]∧aN s∧s.length+g.length=w.length+1∧∀i,cf w i=conv (cf s) (cf g) i:=by
 have td:=gP tw
 have hg:cA g=1:=XP h pw (by
  by_cases h0:fT w=[]
  ·exact .inl (List.eq_nil_of_length_eq_zero (by rw[gA,h0];rfl))
  ·exact .inr (lU (DZ td h0)))
 have hg0:g≠[]:=fun e=>by rw[e] at hg;cases hg
 refine⟨hg,hg0,?_⟩;obtain⟨k,u,hk,hu⟩:=(XO h).1;have hk':=fJ hk
 obtain⟨q, -,hq⟩:=Y4 (xs:=w) (Q:=cL (1/(k:Rat)) u) hg (fun i=>by
  rw[cO (d6 _ u) (fun _=>rfl),fF,←o5,←hu i,Rat.intCast_mul];grind)
 have hid:∀i,cf w i=conv (cf (aH aG q)) (cf g) i:=fun i=>by
  rw[cO (dS q) (fun _=>rfl)];have h1:=hu i;have h2:((k*cf w i:Int):Rat)=((k*conv (cf q) (cf g) i:Int):Rat):=by
   rw[h1,Rat.intCast_mul,o5,o5,cO (fun j=>(hq j).symm) (fun _=>rfl),cO (d6 _ u) (fun _=>rfl),fF];grind
  exact Int.eq_of_mul_eq_mul_left hk (Rat.intCast_inj.1 h2)
 have hs:=fC q;obtain⟨l1,l2⟩:=RP hs tw tg hg0 hid;have hne:aH aG q≠[]:=fun e=>hw (l1 e);exact⟨_,hne,hs,(l2 hne).symm,hid⟩
theorem XS {w s g:List Int} {K L:Nat} (tg:aN g) (hg:g≠[]) (kw:∀n∈w,nl n.natAbs≤K) (kg:∀n∈g,nl n.natAbs≤L) (hid:∀i,cf w i=conv (cf s) (cf g) i) (hl:s.length+g.length≤1073741824):
  ∀j i,s.length≤i+j→nl (cf s i).natAbs≤K+j*(L+2):=by
 intro j;induction j with
 |zero=>intro i hi;rw[aP (by omega)];show nl 0≤_;rw[cC];omega
 |succ j ih=>
  intro i hi;have hgt:=(cZ hg).1 tg;have hgl:=List.length_pos_iff.2 hg;rw[Nat.add_mul,Nat.one_mul,←Nat.add_assoc];by_cases his:s.length≤i
  ·rw[aP his];show nl 0≤_;rw[cC];omega
  ·have hc:conv (cf s) (cf g) (i+(g.length-1))=cf s i*cf g (g.length-1)+conv (fun k=>if i<k then cf s k else 0) (cf g) (i+(g.length-1)):=by
    have e:∀k,cf s k=((fun k=>if k=i then cf s i else 0) k+(fun k=>if i<k then cf s k else 0) k)+(fun k=>if k<i then cf s k else 0) k:=fun k=>by
     rcases Nat.lt_trichotomy k i with h|h|h
     ·simp only[if_neg (Nat.ne_of_lt h),if_neg (Nat.not_lt.2 (Nat.le_of_lt h)),if_pos h];omega
     ·subst h;simp
     ·simp only[if_neg (show¬k=i by omega),if_pos h,if_neg (show¬k<i by omega)];omega
    rw[cO e (fun _=>rfl),j7,j7,mY,if_pos (by omega),show i+(g.length-1)-i=g.length-1 by omega,
     o6 (p:=fun k=>if k<i then cf s k else 0) (m:=i) (n:=g.length) (fun k hk=>if_neg (by omega)) (fun k hk=>aP hk) (by omega)]
    omega
   have h1:=hid (i+(g.length-1));rw[hc] at h1
   have h2:nl (conv (fun k=>if i<k then cf s k else 0) (cf g) (i+(g.length-1))).natAbs≤(K+j*(L+2))+L+1:=uC (fun k=>by
    by_cases h:i<k
    ·simp only[if_pos h];exact ih k (by omega)
    ·simp only[if_neg h];show nl 0≤_;rw[cC];omega) (cI kg) (by omega)
   have h3:=PX (cf w (i+(g.length-1))) (conv (fun k=>if i<k then cf s k else 0) (cf g) (i+(g.length-1))) (K+j*(L+2)+L+1) (Nat.le_trans (cI kw _) (by omega)) h2;have h4:cf s i*cf g (g.length-1)=cf w (i+(g.length-1))-conv (fun k=>if i<k then cf s k else 0) (cf g) (i+(g.length-1)):=by omega
   rw[←h4,Int.natAbs_mul] at h3;have h5:1≤(cf g (g.length-1)).natAbs:=by omega
   have h6:=aX (Nat.le_mul_of_pos_right (cf s i).natAbs h5);omega
theorem XT {B:Nat} {a b g:List Int} (h:Euc B a b g):∀{B':Nat} {a' b' g':List Int},Euc B' a' b' g'→∀{A Bq:List Rat},Prp A a→Prp A a'→Prp Bq b→Prp Bq b'→dB g=dB g':=by
 induction h with
 |done a=>
  intro B' a' b' g' h' A Bq h1 h1' h2 h2';have hb:b'=[]:=List.eq_nil_of_length_eq_zero (by rw[←h2'.1,h2.1];rfl);subst hb;rw[O2 h',←AH h1,←AH h1']
 | @one a b hb=>
  intro B' a' b' g' h' A Bq h1 h1' h2 h2';have hb':b'.length=1:=by rw[←h2'.1,h2.1,hb]
  cases h' with
  |done=>simp at hb'
  |one=>rfl
  |step h=>omega
 | @step a b q r g m hb h t ih=>
  intro B' a' b' g' h' A Bq h1 h1' h2 h2';have hb':1<b'.length:=by rw[←h2'.1,h2.1];exact hb
  have hb0:b≠[]:=fun e=>by rw[e] at hb;simp at hb
  cases h' with
  |done=>simp at hb'
  |one h=>omega
  | @step _ _ q' r' _ m' _ h' t'=>
   obtain⟨Q,R,hD⟩:∃Q R,DivQ A Bq Q R:=by
    obtain⟨l1, -,c,hc,e1⟩:=h1;obtain⟨l2, -,d,hd,e2⟩:=h2;have:A=cL c a:=H4 (by rw[dV];exact l1) (fun i=>by rw[e1,d6]);rw[this];have:Bq=cL d b:=H4 (by rw[dV];exact l2) (fun i=>by rw[e2,d6]);rw[this];exact zY h ⟨hc,hd⟩
   have hb0':b'≠[]:=fun e=>by rw[e] at hb';simp at hb'
   exact ih t' h2 h2' (AG (ID h1 h2 hb0 h hD)) (AG (ID h1' h2' hb0' h' hD))
theorem Prp.eq_smul {A:List Rat} {a:List Int} (h:Prp A a):∃c,c≠0∧A=cL c a:=by
 obtain⟨l1, -,c,hc,e1⟩:=h;exact⟨c,hc,H4 (by rw[dV];exact l1) (fun i=>by rw[e1,d6])⟩
theorem XU {c c':Rat} {w w':List Int} (h:cL c w=cL c' w'):cL c (fT w)=cL c' (fT w'):=by
 have hl:w.length=w'.length:=by rw[←dV c w,h,dV]
 refine H4 (by rw[dV,dV,gI,gI,hl]) (fun i=> ?_);have h1:cf (cL c w) (i+1)=cf (cL c' w') (i+1):=by rw[h]
 rw[d6,d6] at h1;rw[d6,d6,lT,lT,Rat.intCast_mul,Rat.intCast_mul,←Rat.mul_assoc,←Rat.mul_assoc,h1]
theorem zN {s g w:List Int} {c:Rat} (hc:c≠0) (ts:aN s) (tg:aN g) (hg:g≠[]) (hid:∀i,cf w i=conv (cf s) (cf g) i):∃f,f≠0∧DivQ (cL c w) (dB g) (cL f s) []:=by
 have hlg:=fJ ((cZ hg).1 tg);refine⟨c*((cf g (g.length-1):Int):Rat),lL hc hlg,fun i=> ?_,zQ (.inl (lL hc hlg)) ts,(fun a ha=>by simp at ha),by rw[(rH tg).1];exact List.length_pos_iff.2 hg⟩;have e:∀k,cf (dB g) k=(1/((cf g (g.length-1):Int):Rat))*cf g k:=fun k=>by unfold dB;rw[jB];grind
 rw[bS,Rat.add_zero,cO (d6 _ s) e,fF,kZ,d6,←o5,←hid i];grind
theorem Sqp.unique {B B':Nat} {w w' s s':List Int} (h:Sqp B w s) (h':Sqp B' w' s') {A:List Rat} (hA:Prp A w) (hA':Prp A w'):dB s=dB s':=by
 obtain⟨g,h1,hg,tg, -, -,hid⟩:=h.out;obtain⟨g',h1',hg',tg', -, -,hid'⟩:=h'.out;obtain⟨c,hc,e⟩:=hA.eq_smul;obtain⟨c',hc',e'⟩:=hA'.eq_smul;have hd:=XU (e.symm.trans e');have p1:Prp (cL c (fT w)) (fT w):=AF hc (gP hA.2.1);have p2:Prp (cL c (fT w)) (fT w'):=by rw[hd];exact AF hc' (gP hA'.2.1)
 have hm:=XT h1 h1' hA hA' (AG p1) (AG p2);obtain⟨f,hf,d1⟩:=zN hc h.ts tg hg hid;obtain⟨f',hf',d2⟩:=zN hc' h'.ts tg' hg' hid';rw[←e] at d1;rw[←e',←hm] at d2;have pg:=rH tg;obtain⟨e1, -⟩:=d1.unique d2 (pg.ne hg) (by rw[pg.1];exact List.length_pos_iff.2 hg);have k1:=AH (AF hf h.ts);have k2:=AH (AF hf' h'.ts);rw[←k1,←k2];exact congrArg nG e1
structure Cn (B:Nat) (w s:List Int) (c:List (List Int)):Prop where
 sq:Sqp B w s
 st:StT B s (aZ (fT s)) c
def eS (s:List Int) (c:List (List Int)) (i:Int) (x:Rat) (j:Int) (y:Rat):Int:=(cE 0 ((s :: c).map (fun a=>bD a i x)):Int)-(cE 0 ((s :: c).map (fun a=>bD a j y)):Int)
theorem kW (s:List Int):dB s=cL (1/((cf s (s.length-1):Int):Rat)) s:=H4 (by rw[dV];exact List.length_map _) (fun i=>by rw[d6];unfold dB;rw[jB];grind)
theorem zF (f:Rat) (s:List Int):kU (cL f s)=cL (f*((cA (fT s):Int):Rat)) (aZ (fT s)):=by
 refine H4 (by rw[dV,gA,gI,VY,dV]) (fun i=> ?_);have h:=E6 (fT s) i;have h2:(((cf (aZ (fT s)) i:Int):Rat))*((cA (fT s):Int):Rat)=((cf s (i+1):Int):Rat)*((i+1:Nat):Rat):=by
  rw[←Rat.intCast_mul,h,lT,Rat.intCast_mul];congr 1
 rw[VX,d6,d6,Rat.mul_assoc f _ ((i+1:Nat):Rat),←h2];grind
theorem Cn.rat {B:Nat} {w s:List Int} {c:List (List Int)} (h:Cn B w s c) (hB:1≤B):∃C,ChT B s (1/((cf s (s.length-1):Int):Rat)) (aZ (fT s)) (1/((cf s (s.length-1):Int):Rat)*((cA (fT s):Int):Rat)) C∧All2 (Sg ((cf s (s.length-1):Int):Rat)) (dB s :: C) (s :: c):=by
 have hl:=fJ ((cZ h.sq.ne).1 h.sq.ts);have h1:0<((cf s (s.length-1):Int):Rat)*(1/((cf s (s.length-1):Int):Rat)):=by
  have:((cf s (s.length-1):Int):Rat)*(1/((cf s (s.length-1):Int):Rat))=1:=by grind
  rw[this];decide
 obtain⟨C,e1,e2⟩:=XW h.st ((cf s (s.length-1):Int):Rat) hB _ (1/((cf s (s.length-1):Int):Rat)*((cA (fT s):Int):Rat)) h1 (fun hb=>by
  have h0:fT s≠[]:=fun e=>hb (List.eq_nil_of_length_eq_zero (by rw[gA,e];rfl));have h3:=DZ (gP h.sq.ts) h0;have h4:0<((cA (fT s):Int):Rat):=by
   have:(0:Int)<(cA (fT s):Int):=by omega
   exact_mod_cast this
  rw[←Rat.mul_assoc];exact Rat.mul_pos h1 h4) (j8 (gP h.sq.ts))
 exact⟨C,e1,.cons ⟨h.sq.ne,h.sq.ts,_,h1,kW s⟩ e2⟩
theorem Sg.zero {e:Rat} {A:List Rat} {a:List Int} (h:Sg e A a) (i:Int) (x:Rat):kR A i x=0↔bD a i x=0:=by
 obtain⟨-, -,f,hf,rfl⟩:=h;rcases eL f with k|k|k
 ·rw[AE k];omega
 ·exact absurd k (eM hf)
 ·rw[vB k]
theorem Cn.both {B B':Nat} {w w' s s':List Int} {c c':List (List Int)} (h:Cn B w s c) (h':Cn B' w' s' c') (hB:1≤B) (hB':1≤B') {A:List Rat} (hA:Prp A w) (hA':Prp A w'):∃C e e',All2 (Sg e) C (s :: c)∧All2 (Sg e') C (s' :: c'):=by
 have hm:=h.sq.unique h'.sq hA hA';obtain⟨C,t1,a1⟩:=h.rat hB;obtain⟨C',t2,a2⟩:=h'.rat hB';have e:C=C':=t1.unique t2 (by rw[←kW,←kW,hm]) (by rw[←zF,←zF,←kW,←kW,hm]);exact⟨_,_,_,a1,by rw[hm,e];exact a2⟩
theorem Cn.same {B B':Nat} {w w' s s':List Int} {c c':List (List Int)} (h:Cn B w s c) (h':Cn B' w' s' c') (hB:1≤B) (hB':1≤B') {A:List Rat} (hA:Prp A w) (hA':Prp A w') (i:Int) (x:Rat):cE 0 ((s :: c).map (fun a=>bD a i x))=cE 0 ((s' :: c').map (fun a=>bD a i x))∧(bD s i x=0↔bD s' i x=0):=by
 obtain⟨C,e,e',a1,a2⟩:=h.both h' hB hB' hA hA';refine⟨by rw[←AL a1,AL a2],?_⟩;cases a1 with
 |cons h1 _=>cases a2 with
  |cons h2 _=>exact(h1.zero i x).symm.trans (h2.zero i x)
theorem Cn.unique {B B':Nat} {w w' s s':List Int} {c c':List (List Int)} (h:Cn B w s c) (h':Cn B' w' s' c') (hB:1≤B) (hB':1≤B') {A:List Rat} (hA:Prp A w) (hA':Prp A w') (i:Int) (x:Rat) (j:Int) (y:Rat):eS s c i x j y=eS s' c' i x j y:=by
 unfold eS;rw[(h.same h' hB hB' hA hA' i x).1,(h.same h' hB hB' hA hA' j y).1]
theorem vC (n:Int): -1≤n.sign∧n.sign≤1:=by
 rcases Int.lt_trichotomy n 0 with h|h|h
 ·rw[Int.sign_eq_neg_one_of_neg h];decide
 ·rw[h];decide
 ·rw[Int.sign_eq_one_of_pos h];decide
theorem Y5 (a:List Int) (i:Int) (x:Rat): -1≤bD a i x∧bD a i x≤1:=by
 have h1:=vC (d5 a x.num x.den);have h2:=vC (cf a (a.length-1));unfold bD;split
 ·exact h1
 ·split<;>omega
theorem Y6 {α:Type} (f:α→Int) {ls:List α} {j:Nat} {a:α} (h:ls[j]? =some a) (l:Int):cE l ((ls.drop j).map f)=if f a=0 then cE l ((ls.drop (j+1)).map f) else (if l≠0∧f a≠l then 1 else 0)+cE (f a) ((ls.drop (j+1)).map f):=by
 obtain⟨hj,rfl⟩:=List.getElem?_eq_some_iff.1 h;rw[List.drop_eq_getElem_cons hj];rfl
theorem YA {K la lb lr B:Nat} (h:(K+1)*(la-lb+2)*3^(lb-1)≤B) (hr:lr<lb) (hab:lb≤la) (h0:lr≠0):(K+(la+1-lb)*(K+1)+1)*(lb-lr+2)*3^(lr-1)≤B:=by
 have e1:K+(la+1-lb)*(K+1)+1=(K+1)*(la-lb+2):=by
  rw[show la+1-lb=la-lb+1 by omega,Nat.add_mul (la-lb) 1 (K+1),Nat.mul_add (K+1) (la-lb) 2,Nat.mul_comm (la-lb) (K+1)];omega
 have e2:lb-1=(lb-lr)+(lr-1):=by omega
 have h2:=DW (d:=lb-lr) (by omega);rw[e2,Nat.pow_add,←Nat.mul_assoc] at h;rw[e1];exact Nat.le_trans (Nat.mul_le_mul_right _ (Nat.mul_le_mul_left _ h2)) h
theorem YB {K la lb B:Nat} (h:(K+1)*(la-lb+2)*3^(lb-1)≤B) (hab:lb≤la):K+(la+1-lb)*(K+1)+1≤B:=by
 have e1:K+(la+1-lb)*(K+1)+1=(K+1)*(la-lb+2):=by
  rw[show la+1-lb=la-lb+1 by omega,Nat.add_mul (la-lb) 1 (K+1),Nat.mul_add (K+1) (la-lb) 2,Nat.mul_comm (la-lb) (K+1)];omega
 rw[e1];exact Nat.le_trans (Nat.le_mul_of_pos_right _ (Nat.pow_pos (by decide))) h
theorem YC {m:Int} {r:List Int} {K:Nat} (tr:aN r) (kr:∀n∈r,nl n.natAbs≤K):aN (if 0<m then (aZ r).map (·*(-1)) else aZ r)∧(∀n∈(if 0<m then (aZ r).map (·*(-1)) else aZ r),nl n.natAbs≤K)∧(if 0<m then (aZ r).map (·*(-1)) else aZ r).length=r.length:=by
 have tp:=j8 tr;have kp:=mI kr;split
 ·refine⟨FD (by decide) tp,fun n hn=> ?_,by rw[List.length_map,gA]⟩;obtain⟨k,hk,rfl⟩:=List.mem_map.1 hn;rw[Int.natAbs_mul];simpa using kp k hk
 ·exact⟨tp,kp,gA r⟩
theorem StT.mem {K:Nat} {a b:List Int} {c:List (List Int)} (h:StT K a b c):aN b→(∀n∈b,nl n.natAbs≤K)→∀x∈c,x≠[]∧aN x∧x.length≤b.length∧∀n∈x,nl n.natAbs≤K:=by
 induction h with
 |done a=>intro _ _ x hx;cases hx
 |step hb h t ih=>
  intro tb kb x hx;rcases List.mem_cons.1 hx with rfl|hx
  ·exact⟨hb,tb,Nat.le_refl _,kb⟩
  ·obtain⟨t1,t2,t3⟩:=YC h.r_trim h.br;obtain⟨i1,i2,i3,i4⟩:=ih t1 t2 x hx;have:=h.r_lt;rw[t3] at i3;exact⟨i1,i2,by omega,i4⟩
theorem StT.len {K:Nat} {a b:List Int} {c:List (List Int)} (h:StT K a b c):c.length≤b.length:=by
 induction h with
 |done a=>exact Nat.le_refl 0
 | @step a b q r m c hb h t ih=>
  have:=h.r_lt;have hl:(if 0<m then (aZ r).map (·*(-1)) else aZ r).length=r.length:=by
   split
   ·rw[List.length_map,gA]
   ·exact gA r
  rw[hl] at ih;rw[List.length_cons];omega
def Sz (s:List Int):Prop:=s.length≤7∧((∀n∈s,nl n.natAbs≤9)∨s.length≤6∧∀n∈s,nl n.natAbs≤144363)
theorem Sz.nums {s:List Int} (h:Sz s):∀n∈s,nl n.natAbs≤144363:=fun n hn=>by
 rcases h.2 with k|k
 ·exact Nat.le_trans (k n hn) (by decide)
 ·exact k.2 n hn
theorem Sz.ex {s:List Int} (h:Sz s):∃K,(∀n∈s,nl n.natAbs≤K)∧1≤K∧K≤144363∧(K+2)*3*3^(s.length-2)≤35080695:=by
 rcases h.2 with k|k
 ·refine⟨9,k,by decide,by decide,Nat.le_trans (Nat.mul_le_mul_left _ (Nat.pow_le_pow_right (by decide) (show s.length-2≤5 by have:=h.1;omega))) (by decide)⟩
 ·exact⟨144363,k.2,by decide,by decide,Nat.le_trans (Nat.mul_le_mul_left _ (Nat.pow_le_pow_right (by decide) (show s.length-2≤4 by omega))) (by decide)⟩
end Go.Proofs.YtbhplgdbfmifkaaGreatDoor
namespace Go.Proofs.YtbhplgdbfmifkaaGreatDoor
open Go.RowKit Sos
theorem AT {n:List UInt8} (h:Digs n):nl (aL n)≤n.length:=by
 refine bI (Nat.lt_of_lt_of_le (qE h) (Nat.pow_le_pow_left (by decide) _))
theorem vE (l:List UInt8) (w:World) (hG:Glob w) (hl:l.length≤1073741824):
  Calls Tryz.prog 17 #[.string ⟨l.toArray⟩] w fun e w'=>e= .returned (.bool (rd l))∧Below w.heap.size w w':=by
 go_enter Tryz.func17,Tryz.ntmps17;go_wp2_with fail;refine(vM l w (by omega)).mono ?_;rintro e1 w1 ⟨x,y,ok,rfl,hok,hb⟩;cases ok with
 |true=>
  have HR:Hid (rd l=true):=(hok rfl).1;clear hok;go_wp2_with fail;go_ret;rw[HR.out];exact⟨rfl,hb.alloc hb.size _⟩
 |false=>
  clear hok;go_wp2_with fail;replace hb:=hb.alloc hb.size (.cells #[.int .i64 x,.int .i64 y] 91);generalize w1.alloc (.cells #[.int .i64 x,.int .i64 y] 91)=w2 at *;refine(PV l w2 (by omega)).mono ?_;rintro e3 w3 ⟨neg,n,d,ok,rfl,hok,hno,hb3⟩;replace hb:=aB hb hb3;cases ok with
  |false=>
   have HR:Hid (rd l=false):=by unfold Hid rd;rw[PO (hno rfl)];rfl
   clear hok hno;go_wp2_with fail;go_ret;rw[HR.out];exact⟨rfl,hb.alloc hb.size _⟩
  |true=>
   have hs:=hok rfl;obtain⟨hp,hj⟩:=DK hs;have hnd:=hp.n_digs;have hdd:=hp.d_digs;obtain⟨ln,ld⟩:=PS hj;clear hok hno hp hj;cases d with
   |nil=>
    have HR:Hid (rd l=true):=BS hs;clear hs;go_wp2_with fail;go_ret;rw[HR.out];exact⟨rfl,hb.alloc hb.size _⟩
   |cons c0 d0=>
    have HR:Hid (rd l=decide (Nat.gcd (aL n) (aL (c0 :: d0))=1)):=D1 hs (by simp);have hne:(⟨(c0 :: d0).toArray⟩:ByteArray)≠⟨#[]⟩:=fun h=>by injection h with h;simp at h
    have bn:=Nat.le_trans (AT hnd) ln;have bd:=Nat.le_trans (AT hdd) ld;have hp1:=fun W=>BJ ⟨n.toArray⟩ W (by simpa using hnd) (by simp[ByteArray.size];omega);have hp2:=fun W=>BJ ⟨(c0 :: d0).toArray⟩ W (by simpa using hdd) (by show(c0 :: d0).toArray.size≤_;rw[List.size_toArray];omega);have hgc:=fun W v u hG h1 h2=>mT ((aL n:Nat):Int) ((aL (c0 :: d0):Nat):Int) v u W hG h1 h2 1073741824 (by rw[Int.natAbs_natCast];omega) (by rw[Int.natAbs_natCast];omega) (by unfold aF;omega);simp only[Int.natAbs_natCast] at hgc;have bg:nl (Nat.gcd (aL n) (aL (c0 :: d0)))≤17592186044416:=by
     rcases Nat.eq_zero_or_pos (aL n) with h0|h0
     ·rw[h0,Nat.gcd_zero_left];omega
     ·exact Nat.le_trans (qN _ _ _ (by omega) bn) (by omega)
    have hio:=fun W v h=>jL ((Nat.gcd (aL n) (aL (c0 :: d0)):Nat):Int) v W h (by rw[Int.natAbs_natCast];exact bg);have hde:decide (((Nat.gcd (aL n) (aL (c0 :: d0)):Nat):Int)=1)=rd l:=by rw[HR.out];exact decide_eq_decide.2 ⟨fun h=>by omega,fun h=>by omega⟩
    rw[hde] at hio;have e1:(⟨n.toArray⟩:ByteArray).data.toList=n:=rfl;have e2:(⟨(c0 :: d0).toArray⟩:ByteArray).data.toList=c0 :: d0:=rfl;rw[e1] at hp1;rw[e2] at hp2;obtain⟨gg,hgg⟩:∃gg,gg=Nat.gcd (aL n) (aL (c0 :: d0)):=⟨_,rfl⟩;rw[←hgg] at hgc hio;clear hs hnd hdd ln ld bn bd e1 e2 hde HR bg hgg;go_wp2_with fail;have F:=Bx.new w3 [.bool neg,.string ⟨n.toArray⟩,.string ⟨(c0 :: d0).toArray⟩] 95;replace hb:=hb.alloc hb.size (.cells #[.bool neg,.string ⟨n.toArray⟩,.string ⟨(c0 :: d0).toArray⟩] 95);have hG4:=hG.below hb;generalize hf:w3.heap.size=f at *;generalize w3.alloc (.cells #[.bool neg,.string ⟨n.toArray⟩,.string ⟨(c0 :: d0).toArray⟩] 95)=w4 at *;clear hf;have F_1:=F.cell 1 rfl;have F_2:=F.cell 2 rfl;have F_ltw4:=F.lt;have KS:=Lib.hid (show∀w',Below w4.heap.size w4 w'→(w'.cell? ⟨f,1,none⟩=some (.string ⟨n.toArray⟩)∧w'.cell? ⟨f,2,none⟩=some (.string ⟨(c0 :: d0).toArray⟩)) from fun w' hU=>⟨(hU.cell (p:=⟨f,1,none⟩) F_ltw4).trans (F.cell 1 rfl),(hU.cell (p:=⟨f,2,none⟩) F_ltw4).trans (F.cell 2 rfl)⟩)
    go_region_held3 (fun w'=>w'.cell? ⟨f,1,none⟩=some (.string ⟨n.toArray⟩)∧w'.cell? ⟨f,2,none⟩=some (.string ⟨(c0 :: d0).toArray⟩))
     (exact KS.out _ (by with_reducible (repeat (first|exact Below.refl _ _|refine ua ?_|refine ud ?_|refine ut ?_ hb5|refine ut ?_ hb6|refine ut ?_ hb7|refine ut ?_ hb8|refine us ?_ (by omega)))))
     (first
      |(go_at_call 44;(with_reducible refine(hp1 _).mono ?_);rintro e5 w5 ⟨v5,rfl,h5,hb5⟩;have l5:=hb5.size;(try simp at l5);have TT5:Below w4.heap.size w4 w5:=(by with_reducible (repeat (first|exact Below.refl _ _|refine ua ?_|refine ud ?_|refine ut ?_ hb5|refine ut ?_ hb6|refine ut ?_ hb7|refine ut ?_ hb8|refine us ?_ (by omega))));have ll5:=TT5.size;obtain⟨s5,A5,k5,c5,rfl⟩:=h5.form)
      |(go_at_call 44;(with_reducible refine(hp2 _).mono ?_);rintro e6 w6 ⟨v6,rfl,h6,hb6⟩;have l6:=hb6.size;(try simp at l6);have TT6:Below w4.heap.size w4 w6:=(by with_reducible (repeat (first|exact Below.refl _ _|refine ua ?_|refine ud ?_|refine ut ?_ hb5|refine ut ?_ hb6|refine ut ?_ hb7|refine ut ?_ hb8|refine us ?_ (by omega))));have ll6:=TT6.size;obtain⟨s6,A6,k6,c6,rfl⟩:=h6.form)
      |(go_at_call 45;(with_reducible refine(hgc _ _ _ (hG4.below (by with_reducible (repeat (first|exact Below.refl _ _|refine ua ?_|refine ud ?_|refine ut ?_ hb5|refine ut ?_ hb6|refine ut ?_ hb7|refine ut ?_ hb8|refine us ?_ (by omega))))) (h5.below (by with_reducible (repeat (first|exact Below.refl _ _|refine ua ?_|refine ud ?_|refine ut ?_ hb5|refine ut ?_ hb6|refine ut ?_ hb7|refine ut ?_ hb8|refine us ?_ (by omega))))) (h6.below (by with_reducible (repeat (first|exact Below.refl _ _|refine ua ?_|refine ud ?_|refine ut ?_ hb5|refine ut ?_ hb6|refine ut ?_ hb7|refine ut ?_ hb8|refine us ?_ (by omega)))))).mono ?_);rintro e7 w7 ⟨v7,rfl,h7,hb7⟩;have l7:=hb7.size;(try simp at l7);have TT7:Below w4.heap.size w4 w7:=(by with_reducible (repeat (first|exact Below.refl _ _|refine ua ?_|refine ud ?_|refine ut ?_ hb5|refine ut ?_ hb6|refine ut ?_ hb7|refine ut ?_ hb8|refine us ?_ (by omega))));have ll7:=TT7.size;obtain⟨s7,A7,k7,c7,rfl⟩:=h7.form)
      |(go_at_call 46;(with_reducible refine(hio _ _ (h7.below (by with_reducible (repeat (first|exact Below.refl _ _|refine ua ?_|refine ud ?_|refine ut ?_ hb5|refine ut ?_ hb6|refine ut ?_ hb7|refine ut ?_ hb8|refine us ?_ (by omega)))))).mono ?_);rintro e8 w8 ⟨rfl,hb8⟩;have l8:=hb8.size;(try simp at l8);have TT8:Below w4.heap.size w4 w8:=(by with_reducible (repeat (first|exact Below.refl _ _|refine ua ?_|refine ud ?_|refine ut ?_ hb5|refine ut ?_ hb6|refine ut ?_ hb7|refine ut ?_ hb8|refine us ?_ (by omega))));have ll8:=TT8.size;have hU8:Below w4.heap.size w4 w8:=(by with_reducible (repeat (first|exact Below.refl _ _|refine ua ?_|refine ud ?_|refine ut ?_ hb5|refine ut ?_ hb6|refine ut ?_ hb7|refine ut ?_ hb8|refine us ?_ (by omega))));have Z8:=F.below hU8;skip))
    all_goals (
     go_wp2_with fail;go_ret;exact⟨rfl,aB hb hU8⟩)
end Go.Proofs.YtbhplgdbfmifkaaGreatDoor
namespace Go.Proofs.YtbhplgdbfmifkaaGreatDoor
open Sos
def dA (l:List UInt8) (d:Int):Int:=if l=[] then d else 0
def dU (l:List UInt8):Rat:=if l=[] then 0 else (aR l).getD 0
def dZ (l:List UInt8):Bool:=l=[]||rd l
def dQ (i:Int) (x:Rat) (j:Int) (y:Rat):Bool:=if i≠j∨i≠0 then decide (i<j) else decide (x<y)
theorem tW (t:List Int):∀l,cE l t≤t.length:=by
 induction t with
 |nil=>intro l;exact Nat.le_refl 0
 |cons s t ih=>
  intro l;show(if s=0 then cE l t else (if l≠0∧s≠l then 1 else 0)+cE s t)≤t.length+1
  have h1:=ih l;have h2:=ih s;split
  ·omega
  ·split<;>omega
def CntR (A:List Rat) (i:Int) (x:Rat) (j:Int) (y:Rat) (n:Int):Prop:=(dQ i x j y=false→n=0)∧(dQ i x j y=true→∃B w s c,1≤B∧Prp A w∧Cn B w s c∧n=eS s c i x j y)
theorem CntR.get {A:List Rat} {B:Nat} {w s:List Int} {c:List (List Int)} (hB:1≤B) (hA:Prp A w) (hc:Cn B w s c) {i:Int} {x:Rat} {j:Int} {y:Rat} {n:Int} (h:CntR A i x j y n) (hl:dQ i x j y=true):n=eS s c i x j y:=by
 obtain⟨B',w',s',c',hB',hA',hc',rfl⟩:=h.2 hl;exact hc'.unique hc hB' hB hA' hA i x j y
theorem XN {A:List Rat} {a b c:Rat} (hab:a<b) (hbc:b<c) {x y z u v t:Int} (hx:CntR A 0 a 0 b x) (hy:CntR A 0 b 0 c y) (hz:CntR A 0 a 0 c z) (hu:CntR A (-1) 0 0 a u) (hv:CntR A 0 c 1 0 v) (ht:CntR A (-1) 0 1 0 t):z=x+y∧t=u+z+v:=by
 have hac:a<c:=by grind
 have l0:∀{p q:Rat},p<q→dQ 0 p 0 q=true:=fun h=>by unfold dQ;rw[if_neg (by decide)];exact decide_eq_true h
 obtain⟨B,w,s,ch,hB,hA,hc, -⟩:=hx.2 (l0 hab);have e1:=hx.get hB hA hc (l0 hab);have e2:=hy.get hB hA hc (l0 hbc);have e3:=hz.get hB hA hc (l0 hac);have e4:=hu.get hB hA hc (by unfold dQ;rw[if_pos (by decide)];decide);have e5:=hv.get hB hA hc (by unfold dQ;rw[if_pos (by decide)];decide);have e6:=ht.get hB hA hc (by unfold dQ;rw[if_pos (by decide)];decide);unfold eS at e1 e2 e3 e4 e5 e6;omega
end Go.Proofs.YtbhplgdbfmifkaaGreatDoor
namespace Go.Proofs.YtbhplgdbfmifkaaGreatDoor
open Go.RowKit Sos
def wP (w:World) (l:List UInt8) (d:Int) (e:Ending) (w':World):Prop:=∃v,e= .returned (.tuple #[v,.bool (dZ l)])∧EndAt w' v (dA l d) (dU l)∧Below w.heap.size w w'
theorem TL (w:World):RatAt w (.agg #[.bool false,.slice none 0 0,.bool false,.slice none 0 0]) 0:=RatAt.of (IntAt.zero _) (IntAt.zero _) rfl rfl
theorem wS (l:List UInt8) (d:Int) (w:World) (hG:Glob w) (hl:l.length≤1073741824):Calls Tryz.prog 31 #[.string ⟨l.toArray⟩,.int .i64 d] w (wP w l d):=by
 have hr:=fun W hG=>EU l W hG hl;by_cases h0:l=[]
 ·have HR:Hid (dA l d=d∧dU l=0∧dZ l=true):=by unfold Hid dA dU dZ;simp[h0]
  subst h0;obtain⟨W,eW,hb,R⟩:=bA w [.bool false,.slice none 0 0,.bool false,.slice none 0 0,.int .i64 0] 70;have cM:=R.g5;go_enter Tryz.func31,Tryz.ntmps31;go_wp2_with fail;(try rw[eW]);clear eW;obtain⟨W6,e6,R,hb,hk,ff⟩:=R.put5 hb (by omega) (.bool false) (.slice none 0 0) (.bool false) (.slice none 0 0) (.int .i64 d) rfl rfl;rw[e6];clear e6;refine bodyPost_ret (v:= .tuple #[.agg #[.bool false,.slice none 0 0,.bool false,.slice none 0 0,.int .i64 d],.bool true]) (by simp[results,Tryz.results31,go_sem,R.k5]) rfl ⟨.agg #[.bool false,.slice none 0 0,.bool false,.slice none 0 0,.int .i64 d],by rw[HR.out.2.2],by rw[HR.out.1,HR.out.2.1];exact EndAt.of (TL _),hb⟩
 ·have HR:Hid (dA l d=0∧dU l=(aR l).getD 0∧dZ l=(aR l).isSome):=by unfold Hid dA dU dZ;simp[h0];rfl
  have hE:l.isEmpty=false:=by cases l with
   |nil=>exact absurd rfl h0
   |cons a t=>rfl
  clear h0;obtain⟨W,eW,hb,R⟩:=bA w [.bool false,.slice none 0 0,.bool false,.slice none 0 0,.int .i64 0] 70;have cM:=R.g5;go_enter Tryz.func31,Tryz.ntmps31;go_wp2_with fail;(try rw[eW]);clear eW;refine(hr _ (hG.below hb)).mono ?_;rintro e1 w1 ⟨v1,rfl,h1,hb1⟩;obtain⟨s1,A1,k1,c1,s2,A2,k2,c2,rfl⟩:=h1.form;replace R:=R.below hb1;have hR:=R.lt;replace hb:=aB hb hb1;obtain⟨w2,e2,hb2,P⟩:=bA w1 [.bool s1,.slice A1 k1 c1,.bool s2,.slice A2 k2 c2] 54;replace R:=R.below hb2;replace h1:=h1.below hb2;replace hb:=aB hb hb2;have cM:=aa R.g5 P.k4;go_wp2_with fail;(try rw[e2]);clear e2;obtain⟨W6,e6,R,hb,hk,ff⟩:=R.put5 hb (by omega) (.bool s1) (.slice A1 k1 c1) (.bool s2) (.slice A2 k2 c2) (.int .i64 0) rfl rfl;rw[e6];clear e6;refine bodyPost_ret (v:= .tuple #[.agg #[.bool s1,.slice A1 k1 c1,.bool s2,.slice A2 k2 c2,.int .i64 0],.bool (aR l).isSome]) (by simp[results,Tryz.results31,go_sem,R.k5]) rfl ⟨.agg #[.bool s1,.slice A1 k1 c1,.bool s2,.slice A2 k2 c2,.int .i64 0],by rw[HR.out.2.2],by rw[HR.out.1,HR.out.2.1];exact EndAt.of (h1.keep hk),hb⟩
theorem TN (i j:Int) (x y:Rat) (v u:Value) (w:World) (hx:EndAt w v i x) (hy:EndAt w u j y) (hi: -1≤i∧i≤1) (hj: -1≤j∧j≤1) (K:Nat) (kx:RL K x) (ky:RL K y) (hK:4*K+8≤17592186044416):
  Calls Tryz.prog 78 #[v,u] w fun e w'=>e= .returned (.bool (dQ i x j y))∧Below w.heap.size w w':=by
 obtain⟨s1,A1,k1,c1,s2,A2,k2,c2,rfl⟩:=hx.form;obtain⟨s3,A3,k3,c3,s4,A4,k4,c4,rfl⟩:=hy.form;replace hx:=hx.rat;replace hy:=hy.rat;have hcm:=fun W h h'=>sN x y (.agg #[.bool s1,.slice A1 k1 c1,.bool s2,.slice A2 k2 c2]) (.agg #[.bool s3,.slice A3 k3 c3,.bool s4,.slice A4 k4 c4]) W h h' K kx ky hK;by_cases hij:i=j
 ·subst hij;have q0:(i != i)=false:=by simp
  by_cases h0:i=0
  ·subst h0;have HL:Hid (dQ 0 x 0 y=decide ((x-y).num.sign<0)):=by
    unfold Hid dQ;rw[if_neg (by simp)];rcases eL (x-y) with h|h|h
    ·rw[(d7 _).2 h,decide_eq_true (show x<y by grind)];rfl
    ·rw[h,decide_eq_false (show¬x<y by grind)];rfl
    ·rw[(d7 _).1 h,decide_eq_false (show¬x<y by grind)];rfl
   obtain⟨S,hS⟩:∃S,(x-y).num.sign=S:=⟨_,rfl⟩;rw[hS] at hcm HL;unfold sS at hcm;clear hS;obtain⟨W,eW,hb,X,Y⟩:=j6 w [.bool s1,.slice A1 k1 c1,.bool s2,.slice A2 k2 c2,.int .i64 0] 70 [.bool s3,.slice A3 k3 c3,.bool s4,.slice A4 k4 c4,.int .i64 0] 70;have cM:=aa X.g5 Y.g5;go_enter Tryz.func78,Tryz.ntmps78;go_wp2_with fail;(try rw[eW]);clear eW;refine(hcm _ (hx.below hb) (hy.below hb)).mono ?_;rintro e1 w1 ⟨rfl,hb1⟩;replace hb:=aB hb hb1;go_wp2_with fail;go_ret;exact⟨by rw[HL.out];rfl,hb⟩
  ·have HL:Hid (dQ i x i y=false):=by unfold Hid dQ;rw[if_pos (.inr h0)];simp
   have q1:(i != 0)=true:=by simpa using h0
   have q2:¬i<i:=by omega
   clear h0 hcm;obtain⟨W,eW,hb,X,Y⟩:=j6 w [.bool s1,.slice A1 k1 c1,.bool s2,.slice A2 k2 c2,.int .i64 i] 70 [.bool s3,.slice A3 k3 c3,.bool s4,.slice A4 k4 c4,.int .i64 i] 70;have cM:=aa X.g5 Y.g5;go_enter Tryz.func78,Tryz.ntmps78;go_wp2_with fail;(try rw[eW]);clear eW;go_ret;exact⟨by rw[HL.out];simp,hb⟩
 ·have HL:Hid (dQ i x j y=decide (i<j)):=by unfold Hid dQ;rw[if_pos (.inl hij)]
  have q1:(i != j)=true:=by simpa using hij
  clear hij hcm;obtain⟨W,eW,hb,X,Y⟩:=j6 w [.bool s1,.slice A1 k1 c1,.bool s2,.slice A2 k2 c2,.int .i64 i] 70 [.bool s3,.slice A3 k3 c3,.bool s4,.slice A4 k4 c4,.int .i64 j] 70;have cM:=aa X.g5 Y.g5;go_enter Tryz.func78,Tryz.ntmps78;go_wp2_with fail;(try rw[eW]);clear eW;go_ret;exact⟨by rw[HL.out];rfl,hb⟩
theorem TR (i:Int) (x:Rat) (a:List Int) (v u:Value) (w:World) (hx:EndAt w v i x) (ha:WholeAt w u a) (hi: -1≤i∧i≤1) (h0:a≠[]) (hl:a.length≤65) (K:Nat) (hK:∀n∈a,nl n.natAbs≤K) (kx:RL K x) (hK2:140*K+10≤17592186044416):
  Calls Tryz.prog 134 #[v,u] w (sS w (bD a i x)):=by
 obtain⟨s1,A1,k1,c1,s2,A2,k2,c2,rfl⟩:=hx.form;obtain⟨A,c,rfl,hc⟩:=ha.form;replace hx:=hx.rat;have hat:=fun W h h'=>z8 a x (.slice A a.length c) (.agg #[.bool s1,.slice A1 k1 c1,.bool s2,.slice A2 k2 c2]) W h h' K hK kx hl hK2;have bho:=sP (ns:=a) (a:=x.num) (b:=x.den) (T:=BN^K) (fun n h=>fX (hK n h)) (fX kx.1) (fX kx.2);have bnv:nl (d5 a x.num x.den).natAbs≤K*65+1:=by
  refine bI (Nat.lt_of_le_of_lt bho.1 (Nat.lt_of_lt_of_le (tD (by omega)).1 (Nat.pow_le_pow_right (by decide) ?_)));have:=Nat.mul_le_mul_left K (show a.length≤65 by omega);omega
 have hsg:=fun W u h=>JP (d5 a x.num x.den) u W h (by omega);have hle:=fun W h=>mR a (.slice A a.length c) W h h0 (by omega);have hlp:=List.length_pos_iff.2 h0;have bl:=cI hK (a.length-1);have hsl:=fun W u h=>JP (cf a (a.length-1)) u W h (by omega);have hdg:=fun W=>oZ a.length c A W (by omega);unfold bW at hat hle;unfold sS;have S1:=vC (cf a (a.length-1));obtain⟨S,hS⟩:∃S,(cf a (a.length-1)).sign=S:=⟨_,rfl⟩;obtain⟨T,hT⟩:∃T,(d5 a x.num x.den).sign=T:=⟨_,rfl⟩;have HS:Hid (bD a i x=if i=0 then T else if i<0∧a.length%2=0 then -S else S):=by unfold Hid bD;rw[hS,hT]
 rw[hS] at S1 hsl;rw[hT] at hsg;clear bho bnv bl hS hT h0 kx;generalize d5 a x.num x.den=hv at *;generalize cf a (a.length-1)=cl at *;by_cases h0:i=0
 ·subst h0;have HR:Hid (bD a 0 x=T):=by unfold Hid;rw[HS.out,if_pos rfl]
  clear hle hsl hdg HS;obtain⟨W,eW,hb,X⟩:=bA w [.bool s1,.slice A1 k1 c1,.bool s2,.slice A2 k2 c2,.int .i64 0] 70;have cM:=X.g5;go_enter Tryz.func134,Tryz.ntmps134;go_wp2_with fail;(try rw[eW]);clear eW;refine(hat _ (ha.below hb) (hx.below hb)).mono ?_;rintro e1 w1 ⟨v1,rfl,h1,hb1⟩;replace hb:=aB hb hb1;go_wp2_with fail;refine(hsg _ _ h1).mono ?_;rintro e2 w2 ⟨rfl,hb2⟩;go_wp2_with fail;go_ret;exact⟨by rw[HR.out];rfl,aB hb hb2⟩
 ·have hi2:i= -1∨i=1:=by omega
  rcases hi2 with rfl|rfl
  ·by_cases hm:a.length%2=0
   ·have HR:Hid (bD a (-1) x= -S):=by unfold Hid;rw[HS.out,if_neg h0,if_pos ⟨by decide,hm⟩]
    have r0:((a.length:Int)-1).tmod 2=1:=by rw[Int.tmod_eq_emod_of_nonneg (by omega)];omega
    clear hat hsg HS hm h0;obtain⟨W,eW,hb,X⟩:=bA w [.bool s1,.slice A1 k1 c1,.bool s2,.slice A2 k2 c2,.int .i64 (-1)] 70;have cM:=X.g5;go_enter Tryz.func134,Tryz.ntmps134;go_wp2_with fail;(try rw[eW]);clear eW;refine(hle _ (ha.below hb)).mono ?_;rintro e1 w1 ⟨v1,rfl,h1,hb1⟩;replace X:=X.below hb1;replace hb:=aB hb hb1;go_wp2_with fail;refine(hsl _ _ h1).mono ?_;rintro e2 w2 ⟨rfl,hb2⟩;replace X:=X.below hb2;replace hb:=aB hb hb2;have cX2:=X.k5;go_wp2_with fail;refine(hdg _).mono ?_;rintro e3 w3 ⟨rfl,rfl⟩;go_wp2_with fail;go_ret;exact⟨by rw[HR.out];rfl,hb⟩
   ·have HR:Hid (bD a (-1) x=S):=by unfold Hid;rw[HS.out,if_neg h0,if_neg (fun h=>hm h.2)]
    have r0:((a.length:Int)-1).tmod 2=0:=by rw[Int.tmod_eq_emod_of_nonneg (by omega)];omega
    clear hat hsg HS hm h0;obtain⟨W,eW,hb,X⟩:=bA w [.bool s1,.slice A1 k1 c1,.bool s2,.slice A2 k2 c2,.int .i64 (-1)] 70;have cM:=X.g5;go_enter Tryz.func134,Tryz.ntmps134;go_wp2_with fail;(try rw[eW]);clear eW;refine(hle _ (ha.below hb)).mono ?_;rintro e1 w1 ⟨v1,rfl,h1,hb1⟩;replace X:=X.below hb1;replace hb:=aB hb hb1;go_wp2_with fail;refine(hsl _ _ h1).mono ?_;rintro e2 w2 ⟨rfl,hb2⟩;replace X:=X.below hb2;replace hb:=aB hb hb2;have cX2:=X.k5;go_wp2_with fail;refine(hdg _).mono ?_;rintro e3 w3 ⟨rfl,rfl⟩;go_wp2_with fail;go_ret;exact⟨by rw[HR.out];rfl,hb⟩
  ·have HR:Hid (bD a 1 x=S):=by unfold Hid;rw[HS.out,if_neg h0,if_neg (fun h=>absurd h.1 (by decide))]
   clear hat hsg hdg HS h0;obtain⟨W,eW,hb,X⟩:=bA w [.bool s1,.slice A1 k1 c1,.bool s2,.slice A2 k2 c2,.int .i64 1] 70;have cM:=X.g5;go_enter Tryz.func134,Tryz.ntmps134;go_wp2_with fail;(try rw[eW]);clear eW;refine(hle _ (ha.below hb)).mono ?_;rintro e1 w1 ⟨v1,rfl,h1,hb1⟩;replace X:=X.below hb1;replace hb:=aB hb hb1;go_wp2_with fail;refine(hsl _ _ h1).mono ?_;rintro e2 w2 ⟨rfl,hb2⟩;replace X:=X.below hb2;replace hb:=aB hb hb2;have cX2:=X.k5;go_wp2_with fail;go_ret;exact⟨by rw[HR.out];rfl,hb⟩
theorem YJ {p s g:List Int} (tg:aN g) (hg:g≠[]) (kp:∀n∈p,nl n.natAbs≤9) (kg:∀n∈g,nl n.natAbs≤24057) (hid:∀i,cf p i=conv (cf s) (cf g) i) (hl:s.length+g.length=p.length+1) (hp:p.length≤7):Sz s:=by
 have hgl:=List.length_pos_iff.2 hg;refine⟨by omega,?_⟩;by_cases h1:g.length=1
 ·obtain⟨y,rfl⟩:=List.length_eq_one_iff.1 h1;have hy:=tg y rfl;refine .inl (fun n hn=> ?_);obtain⟨i,hi,rfl⟩:=List.mem_iff_getElem.1 hn;have h:∀k,cf [y] k=if k=0 then y else 0:=fun k=>by
   cases k with
   |zero=>rfl
   |succ k=>rw[aP (by simp)];rfl
  have e:=hid i;rw[jR,cO h (fun _=>rfl),mY,if_pos (Nat.zero_le _),Nat.sub_zero,dO hi] at e;have k:=cI kp i;rw[e,Int.natAbs_mul] at k;exact Nat.le_trans (aX (Nat.le_mul_of_pos_left s[i].natAbs (show 0<y.natAbs by omega))) k
 ·refine .inr ⟨by omega,fun n hn=> ?_⟩;obtain⟨i,hi,rfl⟩:=List.mem_iff_getElem.1 hn;have k:=XS tg hg kp kg hid (by omega) s.length i (by omega);rw[dO hi] at k;have:s.length*(24057+2)≤6*(24057+2):=Nat.mul_le_mul_right _ (by omega);omega
theorem DE (w0:List Int) (v:Value) (w:World) (hG:Glob w) (hv:WholeAt w v w0) (ht:aN w0) (h0:w0≠[]) (hl:w0.length≤7) (hK:∀n∈w0,nl n.natAbs≤9):
  Calls Tryz.prog 33 #[v] w fun e w'=>∃v' s,e= .returned v'∧WholeAt w' v' s∧Sqp 24057 (aZ w0) s∧Sz s∧Below w.heap.size w w':=by
 obtain⟨A,c,rfl,hc⟩:=hv.form;have hpr:=qJ w0 _ w hG hv ht 9 hK (by unfold aF;decide) (by omega);have hpl:=gA w0;have hpk:=mI hK;have htp:=j8 ht;have hp1:=lU (DZ ht h0);have hp0:aZ w0≠[]:=fun e=>h0 (List.eq_nil_of_length_eq_zero (by rw[←hpl,e];rfl));generalize aZ w0=p at *;have hlp:p.length≤7:=by omega
 have hder:=fun W v h=>OA p v W h 9 hpk (by unfold aF;decide) (by omega);have hdk:=lS hpk (by omega);have hdl:=gI p;have htd:=gP htp;have hpw:11*(p.length-(fT p).length+2)*3^(fT p).length≤24057:=by
  have h1:=List.length_pos_iff.2 hp0;have h2:∀x,x≤6→11*3*3^x≤24057:=by decide
  rw[show p.length-(fT p).length+2=3 by omega];exact h2 _ (by omega)
 have hgc:=fun W v u hG h1 h2=>DY p (fT p) v u W hG h1 h2 htp htd 10 24057 (fun n hn=>Nat.le_trans (hpk n hn) (by decide)) hdk (by decide) (fun h=>absurd h (by omega)) (fun _=>hpw) (by unfold aF;decide) (by omega) (by omega);have hex:∀g,fL 24057 p (fT p) g→∃s,Sqp 24057 p s∧Sz s∧g≠[]∧aN g∧(∀n∈g,nl n.natAbs≤24057)∧g.length≤8∧∀i,cf p i=conv (cf s) (cf g) i:=fun g hgt=>by
  unfold fL at hgt;rw[if_neg (by omega),XQ hp1] at hgt;obtain⟨o1,o2,o3⟩:=IC hgt (by decide) htp (j8 htd) (fun n hn=>Nat.le_trans (hpk n hn) (by decide)) (mI (fun n hn=>Nat.le_trans (hdk n hn) (by decide)));rw[gA] at o3;obtain⟨e1,e2,s,e3,e4,e5,e6⟩:=XR hp0 htp hp1 hgt o1;exact⟨s,⟨⟨g,hgt,e2,o1,e1,e5,e6⟩,e3,e4⟩,YJ o1 e2 hpk o2 e6 e5 hlp,e2,o1,o2,by omega,e6⟩
 clear hdk hdl htd hpw hp1 hp0 hK h0 ht hpl;generalize fT p=d at *;go_enter Tryz.func33,Tryz.ntmps33;go_wp2_with fail;refine hpr.mono ?_;rintro e1 w1 ⟨v1,rfl,h1,hb⟩;obtain⟨A1,c1,rfl,hc1⟩:=h1.form;clear hpr;go_wp2_with fail;refine(hder _ _ h1).mono ?_;rintro e2 w2 ⟨v2,rfl,h2,hb2⟩;obtain⟨A2,c2,rfl,hc2⟩:=h2.form;replace h1:=h1.below hb2;replace hb:=aB hb hb2;clear hder;go_wp2_with fail;refine(hgc _ _ _ (hG.below hb) h1 h2).mono ?_;rintro e3 w3 ⟨v3,g,rfl,h3,hgt,hb3⟩;obtain⟨A3,c3,rfl,hc3⟩:=h3.form;replace h1:=h1.below hb3;replace hb:=aB hb hb3;obtain⟨s,hS,hz,g0,tg,kg,lg,hid⟩:=hex g hgt;have hqw:=fun W h1 h2=>yC s p g (.slice A1 p.length c1) (.slice A3 g.length c3) W h1 h2 g0 hS.ts htp tg hid 144363 hz.nums (fun n hn=>Nat.le_trans (kg n hn) (by decide)) (by unfold aF;decide) (by omega) (by omega);have HS:=Lib.hid (And.intro hS hz);clear hgt hex hgc h2 hS hz hid htp hpk;go_wp2_with fail;refine(hqw _ h1 h3).mono ?_;rintro e4 w4 ⟨v4,rfl,h4,hb4⟩;go_wp2_with fail;go_ret;exact⟨_,s,rfl,h4,HS.out.1,HS.out.2,aB hb hb4⟩
structure QuoOf (x c Q:List Int):Prop where
 trim:aN Q
 ne:c≠[]
 tc:aN c
 id_:∀i,cf x i=conv (cf Q) (cf c) i
inductive Sqf (B:Nat):List Int→List Int→List (List Int)→Prop
 |done {p r:List Int} (h:p.length≤1):Sqf B p r []
 |step {p r c Qp Qr:List Int} {l:List (List Int)} (h:1<p.length) (hg:fL B p r c) (hp:QuoOf p c Qp) (hr:QuoOf r c Qr) (t:Sqf B c Qr l):Sqf B p r (Qp :: l)
structure GcdFit (K B:Nat) (xs ys:List Int):Prop where
 tx:aN xs
 ty:aN ys
 kx:∀n∈xs,nl n.natAbs≤K
 ky:∀n∈ys,nl n.natAbs≤K
 b1:xs.length<ys.length→(K+1)*(ys.length-xs.length+2)*3^xs.length≤B
 b2:¬xs.length<ys.length→(K+1)*(xs.length-ys.length+2)*3^ys.length≤B
 lx:xs.length≤1073741824
 ly:ys.length≤1073741824
structure SqfInv (K B:Nat) (Inv:Nat→List Int→List Int→Prop):Prop where
 fit:∀n p r,Inv n p r→GcdFit K B p r
 go:∀n p r c,Inv n p r→1<p.length→fL B p r c→∃Qp Qr n',n'<n∧QuoOf p c Qp∧QuoOf r c Qr∧(∀x∈c,nl x.natAbs≤K)∧(∀x∈Qp,nl x.natAbs≤K)∧(∀x∈Qr,nl x.natAbs≤K)∧c.length≤1073741824∧Inv n' c Qr
theorem WsAt.mono {w:World} {B B':Nat} {v:Value} {ls:List (List Int)} (h:WsAt w B 47 v ls) (hB:B'≤B):WsAt w B' 47 v ls:=by
 obtain⟨vals,h1,h2,h3⟩:=h;refine⟨vals,?_,h2,h3⟩;rcases h1 with h|⟨g,cap,cur,hv,hb,h⟩
 ·exact .inl h
 ·exact .inr ⟨g,cap,cur,hv,Nat.le_trans hB hb,h⟩
theorem WsAt.grown {w w':World} {B B':Nat} {v u:Value} {vals:List Value} {ls:List (List Int)} (h:WsAt w B' 47 u ls) (hr:PRow w B 22 v vals) (hk:Keep w w') (hg:w.grownBy w' v.ownBlock):WsAt w' B' 47 u ls:=by
 have hne:∀(b:Nat) (cs:Array Value) (t:TypeId),w.heap[b]? =some (Obj.cells cs t (0,0))→t≠22→w'.heap[b]? =w.heap[b]? :=fun b cs t hb ht=>by
  refine hg.block b (Array.getElem?_eq_some_iff.1 hb).1 (fun e=> ?_);rcases hr with ⟨rfl,_⟩|⟨g,cap,cur,rfl,_,hgg,_⟩
  ·simp[Value.ownBlock] at e
  ·simp[Value.ownBlock] at e;subst e;rw[hgg] at hb;injection hb with hb;injection hb with _ hb;exact ht hb.symm
 obtain⟨us,h1,h2,h3⟩:=h;refine⟨us,?_,h2,fun i x l hx hl=> ?_⟩
 ·rcases h1 with h|⟨g,cap,cur,hv,hb,hgg,h⟩
  ·exact .inl h
  ·exact .inr ⟨g,cap,cur,hv,hb,(hne g cur 47 hgg (by decide)).trans hgg,h⟩
 ·obtain⟨A,c,e,hc,h⟩:=h3 i x l hx hl;refine⟨A,c,e,hc,?_⟩;rcases h with h|⟨b,rows,e',hr',hi⟩
  ·exact .inl h
  ·exact .inr ⟨b,rows,e',⟨(hne b _ 50 hr'.1 (by decide)).trans hr'.1,hr'.2⟩,hi.keep hk⟩
theorem WsAt.one {w:World} {B:Nat} {A:Option Addr} {k c:Nat} {l:List Int} (h:WholeAt w (.slice A k c) l) (hB:B≤w.heap.size):WsAt (w.alloc (.cells #[.slice A k c] 47)) B 47 (.slice (some ⟨w.heap.size,0,none⟩) 1 1) [l]:=by
 refine⟨[.slice A k c],.inr ⟨w.heap.size,1,#[.slice A k c],rfl,hB,heap_alloc_new w _,Nat.le_refl _,by decide,rfl,rfl,fun u hu=> ?_⟩,rfl,fun i u l' hu hl=> ?_⟩
 ·exact⟨A,k,c,by simpa using hu⟩
 ·cases i with
  |zero=>
   injection hu with hu;injection hl with hl;subst hu hl;exact h.below ((Below.refl _ _).alloc (Nat.le_refl _) _)
  |succ i=>simp at hu
def lW (w:World) (s:List Int) (e:Ending) (w':World):Prop:=∃v' c,e= .returned v'∧WsAt w' w.heap.size 47 v' (s :: c)∧StT 35080695 s (aZ (fT s)) c∧Below w.heap.size w w'
theorem YI {P:List Int} (h:aN P):aH aG (P.map (·*(-1)))=P.map (·*(-1)):=iJ (fC _) (FD (by decide) h) (fun i=>dS _ i)
theorem D7 (s:List Int) (v:Value) (w:World) (hG:Glob w) (hv:WholeAt w v s) (ts:aN s) (h0:s≠[]) (hs:Sz s):
  Calls Tryz.prog 79 #[v] w (lW w s):=by
 obtain⟨A,c,rfl,hc⟩:=hv.form;obtain⟨K,hK,hK1,hK2,hKB⟩:=hs.ex;have hl:=hs.1;have hls:=List.length_pos_iff.2 h0;have hder:=fun W h=>OA s (.slice A s.length c) W h K hK (by unfold aF;omega) (by omega);have td:=gP ts;have kd:=lS hK (by omega);have ld:=gI s;have hpr:=fun W u hG h=>qJ (fT s) u W hG h td (K+1) kd (by unfold aF;omega) (by omega);have tp:=j8 td;have kp:=mI kd;have lp:=gA (fT s);have ks:∀n∈s,nl n.natAbs≤K+1:=fun n hn=>Nat.le_trans (hK n hn) (Nat.le_succ _);unfold lW;generalize aZ (fT s)=d at *;generalize fT s=ds at *;have hdl:d.length=s.length-1:=by omega
 have hP0:d.length≠0→(K+1+1)*(s.length-d.length+2)*3^(d.length-1)≤35080695:=fun h=>by
  rw[show s.length-d.length+2=3 by omega,show d.length-1=s.length-2 by omega];exact hKB
 have HP0:=Lib.hid hP0;obtain⟨w0,e0,hb,X⟩:=bA w [.slice A s.length c] 47;have hf:=WsAt.one hv (Nat.le_refl _);have e0':w.alloc (.cells #[.slice A s.length c] 47)=w0:=e0;rw[e0'] at hf;replace hv:=hv.below hb;have hdle:d.length≤s.length:=by omega
 have hdl8:d.length+1≤8:=by omega
 clear hP0 hKB hs h0 X hK kd ld lp hdl;go_enter Tryz.func79,Tryz.ntmps79;go_wp2_with fail;(try rw[e0']);clear e0 e0';refine(hder _ hv).mono ?_;rintro e1 w1 ⟨v1,rfl,h1,hb1⟩;obtain⟨A1,c1,rfl,hc1⟩:=h1.form;replace hv:=hv.below hb1;replace hf:=hf.below hb1;replace hb:=aB hb hb1;clear hder;go_wp2_with fail;refine(hpr _ _ (hG.below hb) h1).mono ?_;rintro e2 w2 ⟨v2,rfl,h2,hb2⟩;obtain⟨A2,c2,rfl,hc2⟩:=h2.form;replace hv:=hv.below hb2;replace hf:=hf.below hb2;replace hb:=aB hb hb2;clear hpr h1;go_wp2_with fail
 go_loopg [3,4,5] d.length (fun k vc vb vl wr=>∃a b Aa ca Ab cb K' ls,Hid (b.length=k)∧vb= .slice Aa a.length ca∧vl= .slice Ab b.length cb∧WholeAt wr (.slice Aa a.length ca) a∧WholeAt wr (.slice Ab b.length cb) b∧WsAt wr w.heap.size 47 vc ls∧Hid (aN a)∧Hid (aN b)∧Hid (∃cs,ls=s :: cs∧∀c,StT 35080695 a b c→StT 35080695 s d (cs++c))∧
  (∀n∈a,nl n.natAbs≤K')∧(∀n∈b,nl n.natAbs≤K')∧1≤K'∧b.length≤a.length∧a.length≤7∧ls.length+b.length≤8∧Hid (b.length≠0→(K'+1)*(a.length-b.length+2)*3^(b.length-1)≤35080695)∧Below w.heap.size w wr)
 case atStart=>exact⟨s,d,A,c,A2,c2,K+1,[s],rfl,rfl,rfl,hv,h2,hf,ts,tp,⟨[],rfl,fun c h=>h⟩,ks,kp,by omega,hdle,hl,by rw[List.length_singleton];omega,HP0,hb⟩
 case round=>
  clear h2 hv hf hb HP0 tp kp ks ts hls hl hc hc1 hc2 hdle hdl8;obtain⟨a,b,Aa,ca,Ab,cb,K',ls,HL,rfl,rfl,ha,hbb,hf,HTa,HTb,HE,ka,kb,hK1',hab,hla,hll,HP,hb⟩:=hrel;generalize wr=wy at *;obtain⟨Af,cf',rfl,hcf⟩:=hf.form;by_cases h0:b.length=0
  ·have q0:¬(0:Int)<(b.length:Int):=by omega
   have hb0:b=[]:=List.eq_nil_of_length_eq_zero h0;obtain⟨cs,hls,hE⟩:=HE.out;have hE:=hE [] (by rw[hb0];exact .done a);rw[List.append_nil] at hE;have HEE:=Lib.hid (And.intro hls hE);clear hb0 h0 hE hls;go_wp2_with fail;go_ret
   first
    |exact⟨_,cs,rfl,by rw[HEE.out.1] at hf;rw[HEE.out.1];exact hf,HEE.out.2,hb⟩
    |exact⟨_,rfl,cs,by rw[HEE.out.1] at hf;rw[HEE.out.1];exact hf,HEE.out.2,hb⟩
  ·have q0:(0:Int)<(b.length:Int):=by omega
   have hb0:b≠[]:=fun e=>h0 (by rw[e];rfl);have hKB':=YB (HP.out h0) hab;have pq:=fun W ha hbb=>pE a b (.slice Aa a.length ca) (.slice Ab b.length cb) W ha hbb hb0 HTa.out HTb.out K' _ ka kb hK1' (Nat.le_refl _) (by unfold aF;omega) (by omega) (by omega);unfold oA at pq;have hbX:Below wy.heap.size wy (wy.alloc (.cells #[.slice Ab b.length cb] 47)):=(Below.refl _ _).alloc (Nat.le_refl _) _;have X:=Bx.new wy [.slice Ab b.length cb] 47;replace ha:=ha.below hbX;replace hbb:=hbb.below hbX;replace hf:=hf.below hbX;have hwz:w.heap.size≤wy.heap.size:=hb.size;replace hb:=aB hb hbX;have X_0:=X.cell 0 rfl;obtain⟨vals,hpw,hvl,hvs⟩:=id hf;go_wp2_with (at_builtin;refine FG rfl rfl 47 24 Tryz.underlying133 RB w.heap.size _ vals rfl hpw wy.heap.size (.slice Ab b.length cb) rfl X_0 ⟨_,_,_,rfl⟩ (by rw[hvl];omega) (by rw[hvl];unfold maxLen;omega) hb.size ?_;intro v8 w8 hp8 hk8 hg8);have zf:=WsAt.push hpw hvl hvs hbb hp8 hk8 hg8;have za:=ha.grown hpw hk8 hg8;have zz:=FH hb hg8 hpw (Nat.le_refl _);have zbb:=hbb.grown hpw hk8 hg8;obtain⟨A8,c8,rfl,hc8⟩:=zf.form;have hE2:∃cs',ls++[b]=s :: cs'∧∀q r m c,PQRes a b 35080695 m q r→StT 35080695 b (if 0<m then (aZ r).map (·*(-1)) else aZ r) c→StT 35080695 s d (cs'++c):=by
    obtain⟨cs,hls,hE⟩:=HE.out;exact⟨cs++[b],by rw[hls];rfl,fun q r m c h t=>by rw[List.append_assoc];exact hE _ (.step hb0 h t)⟩
   have HE2:=Lib.hid hE2;have hLS:(ls++[b]).length=ls.length+1:=by rw[List.length_append];rfl
   have HLS:=Lib.hid hLS;clear hLS hE2 ha hbb hf X X_0 hbX hp8 hk8 hg8 hpw hvl hvs hb HE;generalize ls++[b]=LS at *;go_wp2_with fail;refine(pq _ za zbb).mono ?_;rintro e3 w3 ⟨vq,vr,vm,q,r,m,rfl,hq,hr,hm,hres,hb3⟩;obtain⟨Aq,cq,rfl, -⟩:=hq.form;obtain⟨Ar,cr,rfl,hcr⟩:=hr.form;obtain⟨s3,A3,k3,c3,rfl⟩:=hm.form;have hrl:=hres.r_lt;have hpr:=fun W hG h=>qJ r (.slice Ar r.length cr) W hG h hres.r_trim _ hres.br (by unfold aF;omega) (by omega);have hsg:=fun W h=>JP m (.agg #[.bool s3,.slice A3 k3 c3]) W h (Nat.le_trans hres.bm (by omega));have htp:=j8 hres.r_trim;have hkp:=mI hres.br;have hlp:=gA r;have hm0:=hres.m0;have hE3:=HE2.out;obtain⟨cs',hcs,hE3⟩:=hE3;have hE4:=fun c=>hE3 q r m c (hres.mono (by omega));have hnx:r.length≠0→(K'+(a.length+1-b.length)*(K'+1)+1)*(b.length-r.length+2)*3^(r.length-1)≤35080695:=fun h=>YA (HP.out h0) hrl hab h;have kb2:∀n∈b,nl n.natAbs≤K'+(a.length+1-b.length)*(K'+1):=fun n hn=>Nat.le_trans (kb n hn) (Nat.le_add_right _ _);have hK9:1≤K'+(a.length+1-b.length)*(K'+1):=Nat.le_trans hK1' (Nat.le_add_right _ _);have HH:=Lib.hid (And.intro hcs hnx);have HE4:=Lib.hid hE4;have HLP:=Lib.hid hlp;clear hE3 hE4 HE2 hcs hnx HP hb0 h0 hres pq hq za hlp;generalize aZ r=P at *;generalize K'+(a.length+1-b.length)*(K'+1)=KK at *;replace zbb:=zbb.below hb3;replace zf:=zf.below hb3;replace zz:=aB zz hb3;obtain⟨w4,e4,hb4,F⟩:=bA w3 [.bool s3,.slice A3 k3 c3] 50;replace zbb:=zbb.below hb4;replace zf:=zf.below hb4;replace hr:=hr.below hb4;replace hm:=hm.below hb4;replace zz:=aB zz hb4;have cF:=F.k2;go_wp2_with fail;(try rw[e4]);clear e4;refine(hpr _ (hG.below zz) hr).mono ?_;rintro e5 w5 ⟨v5,rfl,h5,hb5⟩;obtain⟨A5,c5,rfl,hc5⟩:=h5.form;replace zbb:=zbb.below hb5;replace zf:=zf.below hb5;replace hm:=hm.below hb5;replace F:=F.below hb5;replace zz:=aB zz hb5;replace cF:=F.k2;clear hpr hr;go_wp2_with fail;refine(hsg _ hm).mono ?_;rintro e6 w6 ⟨rfl,hb6⟩;replace zbb:=zbb.below hb6;replace zf:=zf.below hb6;replace h5:=h5.below hb6;replace zz:=aB zz hb6;clear hsg cF F hm;by_cases hmp:0<m
   ·have hs1:m.sign=1:=Int.sign_eq_one_of_pos hmp;rw[hs1];have hE5:=HE4.out;rw[if_pos hmp] at hE5;have HE5:=Lib.hid hE5;have hms:=YI htp;have hsc:=fun W u h h'=>pR P (-1) (.slice A5 P.length c5) u W h h' KK hkp (Nat.le_trans (bI (m:=1) (by unfold BN;decide)) hK9) (by omega) (by have:=HLP.out;omega);rw[hms] at hsc;have htm:=FD (show(-1:Int)≠0 by decide) htp;have hkm:∀n∈P.map (·*(-1)),nl n.natAbs≤KK:=fun n hn=>by
     obtain⟨k,hk,rfl⟩:=List.mem_map.1 hn;rw[Int.natAbs_mul];simpa using hkp k hk
    have HLM:Hid ((P.map (·*(-1))).length=r.length):=by unfold Hid;rw[List.length_map];exact HLP.out
    clear hE5 HE4 hms htp hkp hs1 hmp hm0;generalize P.map (·*(-1))=M at *;go_wp2_with fail;refine(jK (-1) _ (by decide) (by decide)).mono ?_;rintro e7 w7 ⟨v7,rfl,h7,hb7⟩;replace zbb:=zbb.below hb7;replace zf:=zf.below hb7;replace h5:=h5.below hb7;replace zz:=aB zz hb7;go_wp2_with fail;refine(hsc _ _ h5 h7).mono ?_;rintro e9 w9 ⟨v9,rfl,h9,hb9⟩;obtain⟨A9,c9,rfl,hc9⟩:=h9.form;replace zbb:=zbb.below hb9;replace zf:=zf.below hb9;replace zz:=aB zz hb9;go_wp2_with fail;go_roundg M.length
    case rel=>exact⟨b,M,Ab,cb,A9,c9,KK,LS,rfl,rfl,rfl,zbb,h9,zf,HTb,htm,⟨cs',HH.out.1,HE5.out⟩,kb2,hkm,hK9,by have:=HLM.out;omega,by omega,by have:=HLM.out;have:=HLS.out;omega,by rw[HLM.out];exact HH.out.2,zz⟩
    case measure=>have:=HL.out;have:=HLM.out;omega
   ·have hs1:m.sign= -1:=Int.sign_eq_neg_one_of_neg (by omega);rw[hs1];have hE5:=HE4.out;rw[if_neg hmp] at hE5;have HE5:=Lib.hid hE5;clear hE5 HE4 hs1 hmp hm0;go_wp2_with fail;go_roundg P.length
    case rel=>exact⟨b,P,Ab,cb,A5,c5,KK,LS,rfl,rfl,rfl,zbb,h5,zf,HTb,htp,⟨cs',HH.out.1,HE5.out⟩,kb2,hkp,hK9,by have:=HLP.out;omega,by omega,by have:=HLP.out;have:=HLS.out;omega,by rw[HLP.out];exact HH.out.2,zz⟩
    case measure=>have:=HL.out;have:=HLP.out;omega
theorem WsAt.up {a b:World} [u:Up a b] {B:Nat} {v:Value} {ls:List (List Int)} (h:WsAt a B 47 v ls):WsAt b B 47 v ls:=h.below u.out
theorem o9 (ls:List (List Int)) (B:Nat) (i:Int) (x:Rat) (v u:Value) (w:World) (hv:WsAt w B 47 v ls) (hx:EndAt w u i x) (hi: -1≤i∧i≤1) (hll:ls.length≤1024) (K:Nat) (hls:∀a∈ls,a≠[]∧a.length≤65∧∀n∈a,nl n.natAbs≤K) (kx:RL K x) (hK2:140*K+10≤17592186044416):
  Calls Tryz.prog 80 #[v,u] w (sS w (cE 0 (ls.map (fun a=>bD a i x)):Nat)):=by
 obtain⟨s1,A1,k1,c1,s2,A2,k2,c2,rfl⟩:=hx.form;obtain⟨A,c,rfl,hc⟩:=hv.form;have hes:=fun a W u h h' (ha:a∈ls)=>TR i x a (.agg #[.bool s1,.slice A1 k1 c1,.bool s2,.slice A2 k2 c2,.int .i64 i]) u W h h' hi (hls a ha).1 (hls a ha).2.1 K (hls a ha).2.2 kx hK2;unfold sS at hes;unfold sS;obtain⟨V,hV⟩:∃V,cE 0 (ls.map (fun a=>bD a i x))=V:=⟨_,rfl⟩;rw[hV];have HV:Hid (0+cE 0 ((ls.drop 0).map (fun a=>bD a i x))=V):=by unfold Hid;rw[List.drop_zero,Nat.zero_add];exact hV
 clear hV hls;obtain⟨W,eW,hb,X⟩:=bA w [.bool s1,.slice A1 k1 c1,.bool s2,.slice A2 k2 c2,.int .i64 i] 70;have cM:=X.g5;go_enter Tryz.func80,Tryz.ntmps80;go_wp2_with fail;(try rw[eW]);clear eW;go_loopg [5,6,12] ls.length (fun k vc vb vi wr=>∃(j C:Nat) (b:Int),Hid (j+k=ls.length)∧vc= .int .i64 C∧vb= .int .i64 b∧vi= .int .i64 j∧C≤j∧ -1≤b∧b≤1∧Hid (C+cE b ((ls.drop j).map (fun a=>bD a i x))=V)∧Bx wr w.heap.size [.bool s1,.slice A1 k1 c1,.bool s2,.slice A2 k2 c2,.int .i64 i] 70∧Below w.heap.size w wr)
 case atStart=>exact⟨0,0,0,by unfold Hid;omega,rfl,rfl,rfl,Nat.le_refl _,by decide,by decide,HV,X,hb⟩
 case round=>
  clear HV X hb;obtain⟨j,C,b,HJ,rfl,rfl,rfl,hC,hb0,hb1,HT,X,hb⟩:=hrel;generalize wr=wy at *;have hj0:(0:Int)≤(j:Int):=by omega
  cases gk with
  |zero=>
   have hj:j=ls.length:=HJ.out;have HC:Hid (C=V):=by
    have:=HT.out;rw[hj,List.drop_length] at this;exact this
   subst hj;go_wp2_with fail;go_ret;exact⟨by rw[HC.out];rfl,hb⟩
  |succ k=>
   have hjl:j<ls.length:=by have:=HJ.out;omega
   have hj1:(j:Int)<(ls.length:Int):=by omega
   obtain⟨a,hja⟩:∃a,ls[j]? =some a:=⟨_,List.getElem?_eq_getElem hjl⟩;obtain⟨bb,u,rfl,hbl,hu,hfu⟩:=(hv.below hb).at_ hja;obtain⟨Au,cu,rfl,hcu⟩:=hfu.form;have hst:cE b ((ls.drop j).map (fun a=>bD a i x))=if bD a i x=0 then cE b ((ls.drop (j+1)).map (fun a=>bD a i x)) else (if b≠0∧bD a i x≠b then 1 else 0)+cE (bD a i x) ((ls.drop (j+1)).map (fun a=>bD a i x)):=Y6 (fun a=>bD a i x) hja b;have hS:=Y5 a i x;have hs:=hes a wy (.slice Au a.length cu) (hx.below hb) hfu (List.mem_of_getElem? hja);have HU:=HT.out;rw[hst] at HU;clear hst hja HT;generalize bD a i x=S at *;have cX:=X.k5;have hw:IntKind.i64.wrap (-S)= -S:=IntWalk.i64_in _ ⟨by omega,by omega⟩;by_cases hS0:S=0
   ·subst hS0;rw[if_pos rfl] at HU;replace HU:=Lib.hid HU;go_wp2_with fail;refine hs.mono ?_;rintro e1 w1 ⟨rfl,hb9⟩;replace X:=X.below hb9;replace hb:=aB hb hb9;go_wp2_with fail;go_roundg k
    case rel=>exact⟨j+1,C,b,by have:=HJ.out;unfold Hid;omega,rfl,rfl,by go_num,by omega,hb0,hb1,HU.out,X,hb⟩
    case measure=>omega
   ·rw[if_neg hS0] at HU;have q0:(S==0)=false:=by simpa using hS0
    by_cases hbs:b= -S
    ·subst hbs;rw[if_pos (by omega)] at HU;replace HU:=Lib.hid HU;clear hS0;go_wp2_with fail;refine hs.mono ?_;rintro e1 w1 ⟨rfl,hb9⟩;replace X:=X.below hb9;replace hb:=aB hb hb9;go_wp2_with fail;go_roundg k
     case rel=>exact⟨j+1,C+1,S,by have:=HJ.out;unfold Hid;omega,by go_num,rfl,by go_num,by omega,hS.1,hS.2,by have:=HU.out;unfold Hid;omega,X,hb⟩
     case measure=>omega
    ·rw[if_neg (by omega),Nat.zero_add] at HU;replace HU:=Lib.hid HU;have q1:(b== -S)=false:=by simpa using hbs
     clear hS0 hbs;go_wp2_with fail;refine hs.mono ?_;rintro e1 w1 ⟨rfl,hb9⟩;replace X:=X.below hb9;replace hb:=aB hb hb9;go_wp2_with fail;go_roundg k
     case rel=>exact⟨j+1,C,S,by have:=HJ.out;unfold Hid;omega,rfl,rfl,by go_num,by omega,hS.1,hS.2,HU.out,X,hb⟩
     case measure=>omega
def p5 (w:World) (s:List Int) (i:Int) (x:Rat) (j:Int) (y:Rat) (e:Ending) (w':World):Prop:=∃n:Int,e= .returned (.int .i64 n)∧ -1024≤n∧n≤1024∧(dQ i x j y=false→n=0)∧(dQ i x j y=true→∃c,StT 35080695 s (aZ (fT s)) c∧n=eS s c i x j y)∧Below w.heap.size w w'
theorem T1 (s:List Int) (i j:Int) (x y:Rat) (v u1 u2:Value) (w:World) (hG:Glob w) (hv:WholeAt w v s) (ts:aN s) (h0:s≠[]) (hs:Sz s) (hx:EndAt w u1 i x) (hy:EndAt w u2 j y) (hi: -1≤i∧i≤1) (hj: -1≤j∧j≤1) (kx:RL 35080695 x) (ky:RL 35080695 y):
  Calls Tryz.prog 32 #[v,u1,u2] w (p5 w s i x j y):=by
 obtain⟨s1,A1,k1,c1,s2,A2,k2,c2,rfl⟩:=hx.form;obtain⟨s3,A3,k3,c3,s4,A4,k4,c4,rfl⟩:=hy.form;have hle:=fun W h h'=>TN i j x y (.agg #[.bool s1,.slice A1 k1 c1,.bool s2,.slice A2 k2 c2,.int .i64 i]) (.agg #[.bool s3,.slice A3 k3 c3,.bool s4,.slice A4 k4 c4,.int .i64 j]) W h h' hi hj 35080695 kx ky (by omega);have hst:=fun W hG h=>D7 s v W hG h ts h0 hs;have td:=j8 (gP ts);have kd:∀n∈aZ (fT s),nl n.natAbs≤35080695:=fun n hn=>by
  obtain⟨K,hK,hK1,hK2, -⟩:=hs.ex;exact Nat.le_trans (mI (lS hK (by have:=hs.1;omega)) n hn) (by omega)
 have ld:(aZ (fT s)).length=s.length-1:=by rw[gA,gI]
 have hch:∀c,StT 35080695 s (aZ (fT s)) c→(s :: c).length≤8∧∀a∈s :: c,a≠[]∧a.length≤65∧∀n∈a,nl n.natAbs≤35080695:=fun c h=>by
  have h1:=h.len;have h7:=hs.1;refine⟨by rw[List.length_cons];omega,fun a ha=> ?_⟩;rcases List.mem_cons.1 ha with rfl|ha
  ·exact⟨h0,by omega,fun n hn=>Nat.le_trans (hs.nums n hn) (by omega)⟩
  ·obtain⟨e1,e2,e3,e4⟩:=h.mem td kd a ha;exact⟨e1,by omega,e4⟩
 unfold lW at hst;unfold p5;obtain⟨L,hL⟩:∃L,dQ i x j y=L:=⟨_,rfl⟩;rw[hL] at hle⊢;clear hL td kd ld;obtain⟨W,eW,hb,X,Y⟩:=j6 w [.bool s1,.slice A1 k1 c1,.bool s2,.slice A2 k2 c2,.int .i64 i] 70 [.bool s3,.slice A3 k3 c3,.bool s4,.slice A4 k4 c4,.int .i64 j] 70;have cM:=aa X.g5 Y.g5;go_enter Tryz.func32,Tryz.ntmps32;go_wp2_with fail;(try rw[eW]);clear eW;refine(hle _ (hx.below hb) (hy.below hb)).mono ?_;rintro e1 w1 ⟨rfl,hb1⟩;replace X:=X.below hb1;replace Y:=Y.below hb1;replace hb:=aB hb hb1;cases L with
 |false=>
  clear hst hch hle;go_wp2_with fail;go_ret
  first
   |exact⟨0,rfl,by decide,by decide,rfl,hb⟩
   |exact⟨0,rfl,by decide,by decide,fun _=>rfl,(fun h=>absurd h (by decide)),hb⟩
 |true=>
  clear hle;go_wp2_with fail;refine(hst _ (hG.below hb) (hv.below hb)).mono ?_;rintro e2 w2 ⟨v2,c,rfl,h2,hT,hb2⟩;replace X:=X.below hb2;replace Y:=Y.below hb2;replace hb:=aB hb hb2;obtain⟨hl8,hmem⟩:=hch c hT;have hcx:=fun W h h'=>o9 (s :: c) w1.heap.size i x v2 (.agg #[.bool s1,.slice A1 k1 c1,.bool s2,.slice A2 k2 c2,.int .i64 i]) W h h' hi (by omega) 35080695 hmem kx (by omega);have hcy:=fun W h h'=>o9 (s :: c) w1.heap.size j y v2 (.agg #[.bool s3,.slice A3 k3 c3,.bool s4,.slice A4 k4 c4,.int .i64 j]) W h h' hj (by omega) 35080695 hmem ky (by omega);have bx:=tW ((s :: c).map (fun a=>bD a i x)) 0;have bY:=tW ((s :: c).map (fun a=>bD a j y)) 0;rw[List.length_map] at bx bY;unfold sS at hcx hcy;have HN:Hid (eS s c i x j y=(cE 0 ((s :: c).map (fun a=>bD a i x)):Int)-(cE 0 ((s :: c).map (fun a=>bD a j y)):Int)):=rfl;have HT:=Lib.hid hT;clear hst hch hmem hT;generalize cE 0 ((s :: c).map (fun a=>bD a i x))=N1 at *;generalize cE 0 ((s :: c).map (fun a=>bD a j y))=N2 at *;replace hx:=hx.below hb;replace hy:=hy.below hb;have hw:IntKind.i64.wrap ((N1:Int)-(N2:Int))=(N1:Int)-(N2:Int):=IntWalk.i64_in _ ⟨by omega,by omega⟩;go_wp2_with fail
  go_region_held3 (fun w'=>C5 w' w.heap.size (.bool s1) (.slice A1 k1 c1) (.bool s2) (.slice A2 k2 c2) (.int .i64 i)∧C5 w' (w.heap.size+1) (.bool s3) (.slice A3 k3 c3) (.bool s4) (.slice A4 k4 c4) (.int .i64 j)) (with_reducible exact⟨X.up.k5,Y.up.k5⟩)
   (first
    |(go_at_call 80;first|(with_reducible refine(hcx _ h2.up hx.up).mono ?_;rintro e5 w5 ⟨rfl,hb5⟩;have:=St.mk hb5)|(with_reducible refine(hcy _ h2.up hy.up).mono ?_;rintro e6 w6 ⟨rfl,hb6⟩;have:=St.mk hb6)))
  all_goals (
   go_wp2_with fail;go_ret
   first
    |exact⟨_,rfl,by omega,by omega,⟨c,HT.out,HN.out.symm⟩,mL (b:=w5) hb⟩
    |exact⟨_,rfl,by omega,by omega,⟨c,HT.out,HN.out.symm⟩,mL (b:=w6) hb⟩)
theorem YK (x:Int) (n:Nat) (v:Value) (w:World) (hv:IntAt w v x) (hn:n<18446744073709551616) (hl:nl x.natAbs+n/64+1≤17592186044416):Calls Tryz.prog 111 #[v,.int .u64 n] w (bW w (x*2^n)):=by
 obtain⟨ux,rfl,hux⟩:=hv;obtain⟨A1,c1,rfl, -⟩:=id hux;have hna:(x*2^n).natAbs=x.natAbs*2^n:=by rw[Int.natAbs_mul,Int.natAbs_pow];rfl
 have hsum:x*2^n=if decide (x<0) then -((x.natAbs*2^n:Nat):Int) else ((x.natAbs*2^n:Nat):Int):=by
  have hp:(0:Int)<2^n:=Int.pow_pos (by decide);by_cases h:x<0
  ·have:=Int.mul_neg_of_neg_of_pos h hp;simp only[h,decide_true,if_true];omega
  ·have:=Int.mul_nonneg (show 0≤x by omega) (show 0≤(2:Int)^n by omega);simp only[h,decide_false];simp only[Bool.false_eq_true,if_false];omega
 have h2n:nl (2^n)≤n/64+1:=bI (by
  have e:BN^(n/64+1)=2^(64*(n/64+1)):=by rw[Nat.pow_mul];rfl
  rw[e];exact Nat.pow_lt_pow_right (by decide) (by omega))
 have hml:=cJ x.natAbs (2^n);have hsl:=fun W h=>t6 x.natAbs n (.slice A1 (nl x.natAbs) c1) W h hn (by unfold aF;omega);have hsg:=fun W u h=>lV (decide (x<0)) u (x.natAbs*2^n) (x*2^n) W h (by omega) hsum;have HNA:=Lib.hid hna;obtain⟨sz,HSZ⟩:∃sz,Hid (decide (x*2^n<0)=sz):=⟨_,rfl⟩;rw[HSZ.out] at hsg;unfold fY at hsl;clear hna hsum h2n hml;generalize decide (x<0)=sx at *;generalize x.natAbs*2^n=P at *;obtain⟨W,eW,hb,X,R⟩:=j6 w [.bool sx,.slice A1 (nl x.natAbs) c1] 50 [.bool false,.slice none 0 0] 50;have cM:=aa X.g2 R.g2;go_enter Tryz.func111,Tryz.ntmps111;go_wp2_with fail;(try rw[eW]);clear eW;replace hux:=hux.below hb;replace hux:=hux.drew;replace X:=X.drew;replace R:=R.drew;replace hb:=hb.drew;replace cM:=aa X.k2 R.g2;have n_R_X:w.heap.size+1≠w.heap.size:=by omega
 go_region_held3 (fun w'=>C2 w' w.heap.size (.bool sx) (.slice A1 (nl x.natAbs) c1))
  (first|(with_reducible exact X.k2)|((repeat (first|with_reducible exact X.k2|with_reducible refine dF n_R_X ?_))))
  (first
   |(go_at_call 159;(with_reducible refine(hsl _ hux).mono ?_);rintro e4 w4 ⟨v4,rfl,h4,hf4,hb4⟩;obtain⟨A4,c4,rfl, -⟩:=id h4;replace X:=X.below hb4;replace R:=R.below hb4;replace cM:=aa X.k2 R.g2;replace hk:=Keep.below hb4;replace hux:=hux.keep hk;(try replace h5:=h5.keep hk);replace hb:=aB hb hb4)
   |(go_at_call 68;(with_reducible refine(hsg _ _ h4).mono ?_);rintro e5 w5 ⟨rfl,hb5⟩;replace X:=X.below hb5;replace R:=R.below hb5;replace cM:=aa X.k2 R.g2;replace hk:=Keep.below hb5;replace hux:=hux.keep hk;(try replace h4:=h4.keep hk);replace hb:=aB hb hb5))
 all_goals (
  have hz:IntAt w5 (.agg #[.bool sz,.slice A4 (nl P) c4]) (x*2^n):=⟨_,by rw[HSZ.out],by rw[HNA.out];exact h4⟩;go_wp2_with fail;obtain⟨W6,eW6,R,hb,hk,ff⟩:=R.put2 hb (by omega) (.bool sz) (.slice A4 (nl P) c4) rfl rfl;replace X:=ff X (by omega);replace hz:=hz.keep hk;rw[eW6];clear eW6;replace cM:=aa X.k2 R.k2;exact bodyPost_ret (v:= .agg #[.bool sz,.slice A4 (nl P) c4]) (by simp[results,Tryz.results111,go_sem,R.k2]) rfl ⟨_,rfl,hz,hb⟩
 )
end Go.Proofs.YtbhplgdbfmifkaaGreatDoor
namespace Go.Proofs.YtbhplgdbfmifkaaGreatDoor
open Sos
def dX (l:List Int):Int:=l.foldl (fun g c=>if g<(c.natAbs:Int) then (c.natAbs:Int) else g) 0
def eG (q:Rat):Rat:=if q.num.sign<0 then -q else q
def vN (d:Rat) (l:List Rat):Rat:=l.foldl (fun b q=>if b<eG (q/d) then eG (q/d) else b) 0
theorem YL {α β:Type} (f:β→α→β) (b:β) (l:List α) {i:Nat} {a:α} (h:l[i]? =some a):(l.take (i+1)).foldl f b=f ((l.take i).foldl f b) a:=by
 rw[List.take_add_one,h,Option.toList_some,List.foldl_append];rfl
theorem DM {l:List Int} {i:Nat} {c:Int} (h:l[i]? =some c):dX (l.take (i+1))=if dX (l.take i)<(c.natAbs:Int) then (c.natAbs:Int) else dX (l.take i):=YL _ _ l h
theorem E0 {l:List Int} {K:Nat} (h:∀n∈l,nl n.natAbs≤K) (i:Nat):nl (dX (l.take i)).natAbs≤K:=by
 induction i with
 |zero=>show nl (0:Int).natAbs≤K;rw[Int.natAbs_zero,cC];omega
 |succ i ih=>
  by_cases hi:i<l.length
  ·rw[DM (List.getElem?_eq_getElem hi)];split
   ·rw[Int.natAbs_natCast];exact h _ (List.getElem_mem hi)
   ·exact ih
  ·rw[List.take_of_length_le (by omega)];rwa [List.take_of_length_le (by omega)] at ih
theorem YM (n:Int):((n.natAbs:Int):Rat)=eG (n:Rat):=by
 unfold eG;rw[lR];by_cases h:n<0
 ·rw[if_pos (by rw[Int.sign_eq_neg_one_of_neg h];decide),show((n.natAbs:Int))= -n by omega,Rat.intCast_neg]
 ·have:¬n.sign<0:=by rcases Int.lt_or_eq_of_le (Int.not_lt.1 h) with h|h
                     ·rw[Int.sign_eq_one_of_pos h];decide
                     ·rw[←h];decide
  rw[if_neg this,show((n.natAbs:Int))=n by omega]
theorem E4 (q:Rat):eG q=q∧0≤q∨eG q= -q∧q<0:=by
 unfold eG;rcases eL q with h|h|h
 ·rw[if_pos (by rw[(d7 q).2 h];decide)];exact .inr ⟨rfl,h⟩
 ·rw[h];exact .inl ⟨by decide,by decide⟩
 ·rw[if_neg (by rw[(d7 q).1 h];decide)];exact .inl ⟨rfl,by grind⟩
theorem E5 {c:Rat} (hc:0<c) (q:Rat):eG (c*q)=c*eG q:=by
 unfold eG;rw[kQ hc];split
 ·grind
 ·rfl
theorem YN {L:Int} {D:Rat} (hL:L≠0) (hD:D≠0) (l:List Int):vN ((L:Rat)/D) (l.map (fun n:Int=>(n:Rat)/D))=((dX l:Int):Rat)/((L.natAbs:Int):Rat):=by
 have hL':=fJ hL;have hp:0<((L.natAbs:Int):Rat):=by
  have:(0:Int)<(L.natAbs:Int):=by omega
  exact_mod_cast this
 have hpi:0<((L.natAbs:Int):Rat)⁻¹:=Rat.inv_pos.2 hp;have e:∀n:Int,eG ((n:Rat)/D/((L:Rat)/D))=((n.natAbs:Int):Rat)/((L.natAbs:Int):Rat):=fun n=>by
  have h1:(n:Rat)/D/((L:Rat)/D)=(n:Rat)/L:=by grind
  rw[h1,YM n];rcases Int.lt_or_lt_of_ne hL with h|h
  ·have h2:((L.natAbs:Int):Rat)= -(L:Rat):=by rw[show(L.natAbs:Int)= -L by omega,Rat.intCast_neg]
   have h3:(n:Rat)/L=(((L.natAbs:Int):Rat)⁻¹)*(-(n:Rat)):=by rw[h2];grind
   rw[h3,E5 hpi,Rat.div_def,Rat.mul_comm];congr 1;rcases E4 (n:Rat) with ⟨a1,a2⟩|⟨a1,a2⟩<;>rcases E4 (-(n:Rat)) with ⟨b1,b2⟩|⟨b1,b2⟩<;>grind
  ·have h2:((L.natAbs:Int):Rat)=(L:Rat):=by rw[show(L.natAbs:Int)=L by omega]
   have h3:(n:Rat)/L=(((L.natAbs:Int):Rat)⁻¹)*(n:Rat):=by rw[h2];grind
   rw[h3,E5 hpi,Rat.div_def,Rat.mul_comm]
 unfold vN dX;suffices h:∀(l:List Int) (g:Int),(l.map (fun n:Int=>(n:Rat)/D)).foldl (fun b q=>if b<eG (q/((L:Rat)/D)) then eG (q/((L:Rat)/D)) else b) ((g:Rat)/((L.natAbs:Int):Rat))=((l.foldl (fun g c=>if g<(c.natAbs:Int) then (c.natAbs:Int) else g) g:Int):Rat)/((L.natAbs:Int):Rat) by
  have:=h l 0;have z:((0:Int):Rat)/((L.natAbs:Int):Rat)=0:=by rw[Rat.intCast_zero,Rat.div_def,Rat.zero_mul]
  rwa [z] at this
 intro l;induction l with
 |nil=>intro g;rfl
 |cons n l ih=>
  intro g;rw[List.map_cons,List.foldl_cons,List.foldl_cons,e];have h1:((g:Rat)/((L.natAbs:Int):Rat)<((n.natAbs:Int):Rat)/((L.natAbs:Int):Rat))↔g<(n.natAbs:Int):=by
   rw[Rat.div_def,Rat.div_def];constructor
   ·intro h;have:(g:Rat)<((n.natAbs:Int):Rat):=by
     by_cases h2:(g:Rat)<((n.natAbs:Int):Rat)
     ·exact h2
     ·have h3:((n.natAbs:Int):Rat)*(((L.natAbs:Int):Rat))⁻¹≤(g:Rat)*(((L.natAbs:Int):Rat))⁻¹:=Rat.mul_le_mul_of_nonneg_right (by grind) (Rat.le_of_lt hpi);grind
    exact_mod_cast this
   ·intro h;have h2:(g:Rat)<((n.natAbs:Int):Rat):=by exact_mod_cast h
    exact Rat.mul_lt_mul_of_pos_right h2 hpi
  by_cases h:g<(n.natAbs:Int)
  ·rw[if_pos (h1.2 h),if_pos h];exact ih _
  ·rw[if_neg (fun h'=>h (h1.1 h')),if_neg h];exact ih _
theorem vP {xs ys q r:List Int} {m:Int} (h:xO q ys r xs m 4=true) (hl:xs.length≤4∧r.length≤4∧q.length+ys.length≤5) (hm:m=1) (hr:r.length<ys.length) (tq:aN q) (tr:aN r) (hq:q.length≤xs.length) (k:∀n∈q++r,nl n.natAbs≤1):PQRes xs ys 1 m q r:=by
 subst hm;refine⟨fun i=> ?_,by decide,hr,tq,tr,hq,⟨0,Nat.zero_le _,by rw[Int.pow_zero]⟩,fun n hn=>k n (List.mem_append_left _ hn),fun n hn=>k n (List.mem_append_right _ hn),bI (m:=1) (by unfold BN;decide)⟩;by_cases hi:i<4
 ·exact of_decide_eq_true ((List.all_eq_true.1 h) i (List.mem_range.2 hi))
 ·rw[aP (by omega),aP (l:=r) (by omega),o6 (m:=q.length) (n:=ys.length) (fun i hi=>aP hi) (fun i hi=>aP hi) (by omega)];rfl
theorem vS {n:Nat} (h:n<4):nl n≤1:=bI (m:=1) (by unfold BN;omega)
theorem YP:Sqp 1 [-2,0,1] [-2,0,1]:=by
 refine⟨⟨[1],?_,by simp,eT rfl,rfl,rfl,fun i=>by rw[u4]⟩,by simp,eT rfl⟩;have e:aZ (fT [-2,0,1])=[0,1]:=by decide
 rw[e]
 refine .step (q:=[0,1]) (r:=[-2]) (m:=1) (by decide) (vP (by decide) (by decide) rfl (by decide) (eT rfl) (eT rfl) (by decide) (fun n hn=>by
  simp at hn;rcases hn with rfl|rfl|rfl<;>exact vS (by decide))) (.one (by decide))
theorem E9:Cn 1 [-2,0,1] [-2,0,1] [[0,1],[1]]:=by
 refine⟨YP,?_⟩;have e:aZ (fT [-2,0,1])=[0,1]:=by decide
 rw[e]
 refine .step (q:=[0,1]) (r:=[-2]) (m:=1) (by decide) (vP (by decide) (by decide) rfl (by decide) (eT rfl) (eT rfl) (by decide) (fun n hn=>by
  simp at hn;rcases hn with rfl|rfl|rfl<;>exact vS (by decide))) ?_
 have e2:(if (0:Int)<1 then (aZ [-2]).map (·*(-1)) else aZ [-2])=[1]:=by decide
 rw[e2]
 refine .step (q:=[0,1]) (r:=[]) (m:=1) (by decide) (vP (by decide) (by decide) rfl (by decide) (eT rfl) (fun x hx=>by cases hx) (by decide) (fun n hn=>by
  simp at hn;rcases hn with rfl|rfl<;>exact vS (by decide))) ?_
 have e3:(if (0:Int)<1 then (aZ []).map (·*(-1)) else aZ [])=[]:=by decide
 rw[e3];exact .done _
theorem YQ:eS [-2,0,1] [[0,1],[1]] (-1) 0 1 0=2:=by decide
theorem YR:cE 0 (([-2,0,1] :: [[0,1],[1]]).map (fun a=>bD a 0 (-4)))=2∧cE 0 (([-2,0,1] :: [[0,1],[1]]).map (fun a=>bD a 0 0))=1∧cE 0 (([-2,0,1] :: [[0,1],[1]]).map (fun a=>bD a 0 4))=0:=by decide
theorem YS:bD [-2,0,1] 0 (-4)=1∧bD [-2,0,1] 0 0= -1∧bD [-2,0,1] 0 4=1:=by decide
inductive ExK (K:Nat) (V:Rat→Nat) (s:Rat→Int):Rat→Rat→List (Rat×Rat)→Prop
 |none {a b:Rat} (h:V a≤V b):ExK K V s a b []
 |hit {a b:Rat} (h:V a=V b+1) (hb:s b=0):ExK K V s a b [(b,b)]
 |one {a b:Rat} (h:V a=V b+1) (hb:s b≠0) (ha:s a≠0):ExK K V s a b [(a,b)]
 |split {a b:Rat} {l m:List (Rat×Rat)} (h:V b<V a) (h':V a=V b+1→s b≠0∧s a=0) (hk:RL K ((a+b)/2)) (hl:ExK K V s a ((a+b)/2) l) (hm:ExK K V s ((a+b)/2) b m):ExK K V s a b (l++m)
def Pw (b:Rat) (n:Nat):Prop:=b≤(((2:Int)^n:Int):Rat)∧∀m,m<n→(((2:Int)^m:Int):Rat)<b
theorem ExK.mono {K K':Nat} {V:Rat→Nat} {s:Rat→Int} {a b:Rat} {l:List (Rat×Rat)} (h:ExK K V s a b l) (hK:K≤K'):ExK K' V s a b l:=by
 induction h with
 |none h=>exact .none h
 |hit h hb=>exact .hit h hb
 |one h hb ha=>exact .one h hb ha
 |split h h' hk _ _ ih1 ih2=>exact .split h h' (bV hk hK) ih1 ih2
theorem YO {V:Rat→Nat} {s:Rat→Int} (h:V (-4)=2∧V 0=1∧V 4=0) (hs:s (-4)≠0∧s 0≠0∧s 4≠0):ExK 1 V s (-4) 4 [(-4,0),(0,4)]:=by
 have e:((-4:Rat)+4)/2=0:=by grind
 refine .split (l:=[(-4,0)]) (m:=[(0,4)]) (by omega) (fun h'=>by omega) (by rw[e];exact eO (by decide)) ?_ ?_
 ·rw[e];exact .one (by omega) hs.2.1 hs.1
 ·rw[e];exact .one (by omega) hs.2.2 hs.2.1
end Go.Proofs.YtbhplgdbfmifkaaGreatDoor
namespace Go.Proofs.YtbhplgdbfmifkaaGreatDoor
open Go.RowKit Sos
theorem wM:RL 1 (1:Rat):=⟨bI (m:=1) (by unfold BN;decide),bI (m:=1) (by unfold BN;decide)⟩
def kP (ns:List Int):Rat:=((dX (ns.take (ns.length-1)):Int):Rat)/(((cf ns (ns.length-1)).natAbs:Int):Rat)+1
theorem wN {ns:List Int} {K:Nat} (hK:∀n∈ns,nl n.natAbs≤K) (h1:1≤K):RL (2*K+2) (kP ns)∧RL K (((dX (ns.take (ns.length-1)):Int):Rat)/(((cf ns (ns.length-1)).natAbs:Int):Rat)):=by
 have h:=zV (E0 hK (ns.length-1)) (show nl (((cf ns (ns.length-1)).natAbs:Int)).natAbs≤K by rw[Int.natAbs_natCast];exact cI hK _) h1;exact⟨bV (UB h (bV wM h1)) (by omega),h⟩
theorem SN (ns:List Int) (v:Value) (w:World) (hG:Glob w) (hv:WholeAt w v ns) (h0:ns≠[]) (ht:aN ns) (K:Nat) (hK:∀n∈ns,nl n.natAbs≤K) (hl:ns.length≤65) (h1:1≤K) (hK2:K≤1073741824):
  Calls Tryz.prog 38 #[v] w (eV w (kP ns)):=by
 obtain⟨A,c,rfl,hc⟩:=hv.form;have hlp:=List.length_pos_iff.2 h0;obtain⟨m,hm⟩:∃m,ns.length-1=m:=⟨_,rfl⟩;have hmi:(ns.length:Int)-1=(m:Int):=by omega
 have hdg:=fun W=>oZ ns.length c A W (by omega);simp only[hmi] at hdg;have hle:=fun W h=>mR ns (.slice A ns.length c) W h h0 (by omega);have bl:=cI hK m;obtain⟨-,bF⟩:=wN hK h1;have hcl:cf ns m≠0:=by rw[←hm];exact(cZ h0).1 ht
 have bG:=fun j=>E0 hK j;unfold kP;rw[hm] at hle bF⊢;have hab:=fun W v h=>x6 (cf ns m) v W h;have hfr:=fun W u v hG h h'=>xW (dX (ns.take m)) ((cf ns m).natAbs:Int) u v W hG h h' K (bG m) (by rw[Int.natAbs_natCast];exact bl) (by unfold aF;omega);have hsm:=fun W=>U6 1 W (by decide) (by decide);have had:=fun W u v hG h h'=>I2 (((dX (ns.take m):Int):Rat)/(((cf ns m).natAbs:Int):Rat)) ((1:Int):Rat) u v W hG h h' K bF (bV wM h1) (by unfold aF;omega);have e1:(1:Rat)=((1:Int):Rat):=rfl;rw[e1];have hm0:(0:Int)≤(m:Int):=by omega
 have hmc:(m:Int)≤(c:Int):=by omega
 unfold bW at hle hab;unfold eV at hfr hsm had;unfold eV;generalize (((dX (ns.take m):Int):Rat)/(((cf ns m).natAbs:Int):Rat))=F at *;generalize ((1:Int):Rat)=one at *;generalize cf ns m=cl at *;clear bF bl e1 hcl;obtain⟨W,eW,hb,R,G⟩:=j6 w [.bool false,.slice none 0 0,.bool false,.slice none 0 0] 54 [.bool false,.slice none 0 0] 50;have cM:=aa R.g4 G.g2;go_enter Tryz.func38,Tryz.ntmps38;go_wp2_with fail;(try rw[eW]);clear eW;refine(hdg _).mono ?_;rintro e1 w1 ⟨rfl,rfl⟩;have hGi:IntBx w1 (w.heap.size+1) (dX (ns.take 0)):=⟨_,_,_,_,G,IntAt.zero _⟩;clear G;go_wp2_with fail;go_loopg [12] m (fun k i wr=>∃j,Hid (j+k=m)∧i= .int .i64 j∧IntBx wr (w.heap.size+1) (dX (ns.take j))∧Bx wr w.heap.size [.bool false,.slice none 0 0,.bool false,.slice none 0 0] 54∧Below w.heap.size w wr)
 case atStart=>exact⟨0,by unfold Hid;omega,rfl,hGi,R,hb⟩
 case round=>
  clear hGi R hb;obtain⟨j,HJ,rfl,⟨s,B,l,d,G,hi⟩,R,hb⟩:=hrel;generalize wr=wy at *;have hj0:(0:Int)≤(j:Int):=by omega
  cases gk with
  |zero=>
   obtain rfl:j=m:=HJ.out;have cG:=G.g2;go_wp2_with fail
   go_region_held3 (fun w'=>C2 w' (w.heap.size+1) (.bool s) (.slice B l d))
    (first|(with_reducible exact G.up.k2)|(with_reducible exact dF (by omega) (dF (by omega) (dF (by omega) (dF (by omega) G.up.k2)))))
    (first
     |(go_at_call 61;(with_reducible refine(hle _ (hv.below hb).up).mono ?_);rintro e3 w3 ⟨v3,rfl,h3,hb3⟩;obtain⟨s3,A3,k3,c3,rfl⟩:=h3.form;have:=St.mk hb3)
     |(go_at_call 90;(with_reducible refine(hab _ _ h3.up).mono ?_);rintro e4 w4 ⟨v4,rfl,h4,hb4⟩;obtain⟨s4,A4,k4,c4,rfl⟩:=h4.form;have:=St.mk hb4)
     |(go_at_call 55;(with_reducible refine(hfr _ _ _ (hG.below hb).up hi.up h4.up).mono ?_);rintro e5 w5 ⟨v5,rfl,h5,hb5⟩;obtain⟨s5,A5,k5,c5,s6,A6,k6,c6,rfl⟩:=h5.form;have:=St.mk hb5)
     |(go_at_call 93;(with_reducible refine(hsm _).mono ?_);rintro e7 w7 ⟨v7,rfl,h7,hb7⟩;obtain⟨s7,A7,k7,c7,s8,A8,k8,c8,rfl⟩:=h7.form;have:=St.mk hb7)
     |(go_at_call 92;(with_reducible refine(had _ _ _ (hG.below hb).up h5.up h7.up).mono ?_);rintro e9 w9 ⟨v9,rfl,h9,hb9⟩;obtain⟨s1,A1,k1,c1,s2,A2,k2,c2,rfl⟩:=h9.form;have:=St.mk hb9;have R9:=R.up (b:=w9);have cR9:=R9.g4))
   all_goals (
    go_wp2_with fail;obtain⟨W6,e6,R6,hb6,hk,ff⟩:=R9.put4 (mL (b:=w9) hb) (Nat.le_refl _) (.bool s1) (.slice A1 k1 c1) (.bool s2) (.slice A2 k2 c2) rfl rfl;rw[e6];exact bodyPost_ret (v:= .agg #[.bool s1,.slice A1 k1 c1,.bool s2,.slice A2 k2 c2]) (by simp[results,Tryz.results38,go_sem,R6.k4]) rfl ⟨_,rfl,h9.keep hk,hb6⟩)
  |succ k=>
   have hjm:j<m:=by have:=HJ.out;omega
   have hj1:(j:Int)<(m:Int):=by omega
   obtain⟨n,hn⟩:∃n,ns[j]? =some n:=⟨_,List.getElem?_eq_getElem (by omega)⟩;have hgt:=DM hn;have kn:=hK n (List.mem_of_getElem? hn);obtain⟨b,s',B',l',d',hA',hbl,g0,g1,hi'⟩:=(hv.below hb).at_ hn;subst hA';have hab2:=fun W v h=>x6 n v W h;have hcp:=fun W u v h h'=>sL (n.natAbs:Int) (dX (ns.take j)) u v W h h' (by rw[Int.natAbs_natCast];omega) (Nat.le_trans (bG j) (by omega));have HGT:=Lib.hid hgt;unfold bW at hab2;unfold sS at hcp;obtain⟨P,hP⟩:∃P,bM (n.natAbs:Int) (dX (ns.take j))=P:=⟨_,rfl⟩;have hPc:=iY (n.natAbs:Int) (dX (ns.take j));rw[hP] at hcp hPc;clear hgt hn hle hab hfr hsm had hdg hP;generalize dX (ns.take j)=gr at *;obtain⟨w2,e2,hb2,X⟩:=bA wy [.bool s',.slice B' l' d'] 50;replace G:=G.below hb2;replace R:=R.below hb2;replace hi:=hi.below hb2;replace hi':=hi'.below hb2;replace hb:=aB hb hb2;have cX:=X.k2;go_wp2_with fail;(try rw[e2]);(try clear e2);refine(hab2 _ _ hi').mono ?_;rintro e3 w3 ⟨v3,rfl,h3,hb3⟩;obtain⟨s3,A3,k3,c3,rfl⟩:=h3.form;obtain⟨w4,e4,hb4,Y⟩:=bA w3 [.bool s3,.slice A3 k3 c3] 50;have hB:=aB hb3 hb4;replace G:=G.below hB;replace R:=R.below hB;replace hi:=hi.below hB;replace h3:=h3.below hb4;replace hb:=aB hb hB;have cY:=aa Y.k2 G.k2;clear cX X hi' g0 g1;go_wp2_with fail;(try rw[e4]);(try clear e4);refine(hcp _ _ _ h3 hi).mono ?_;rintro e5 w5 ⟨rfl,hb5⟩;replace Y:=Y.below hb5;replace G:=G.below hb5;replace R:=R.below hb5;replace hi:=hi.below hb5;replace h3:=h3.below hb5;replace hb:=aB hb hb5;have hYl:=Y.lt;have hw3:=hB.size;have cY:=aa Y.k2 G.g2;clear hab2 hcp;by_cases hlt:gr<(n.natAbs:Int)
   ·obtain rfl:P=1:=by omega
    go_wp2_with fail;obtain⟨W6,e6,G6,hb6,hk,ff⟩:=G.put2 hb (by omega) (.bool s3) (.slice A3 k3 c3) rfl rfl;rw[e6];clear e6;go_roundg k
    case rel=>exact⟨j+1,by have:=HJ.out;unfold Hid;omega,by go_num,⟨_,_,_,_,G6,by rw[HGT.out,if_pos (show gr<(n.natAbs:Int) by omega)];exact h3.keep hk⟩,ff R (by omega),hb6⟩
    case measure=>omega
   ·have hP0:¬(0:Int)<P:=by omega
    go_wp2_with fail;go_roundg k
    case rel=>exact⟨j+1,by have:=HJ.out;unfold Hid;omega,by go_num,⟨_,_,_,_,G,by rw[HGT.out,if_neg (show¬gr<(n.natAbs:Int) by omega)];exact hi⟩,R,hb⟩
    case measure=>omega
def vT (w:World) (v:Value):Prop:=∀g,v.ownBlock=some g→∀cur t f,w.heap[g]? =some (.cells cur t f)→∀y∈cur.toList,NoInt y
def GrowD (w:World) (base:Nat) (e:TypeId) (k:Nat) (v:Value) (rows:List (List Value)):Prop:=w.ownsRow base e k v rows.length rows.flatten∧(∀r∈rows,r.length=k)∧vT w v
section
variable {w w':World} {base:Nat} {e:TypeId} {k:Nat} {v:Value} {rows:List (List Value)}
theorem GrowD.nil:GrowD w base e k (.slice none 0 0) []:=⟨World.ownsRow_nil _ _ _ _,(fun _ h=>by cases h),fun g h=>by simp[Value.ownBlock] at h⟩
theorem GrowD.lt (h:GrowD w base e k v rows):∀g,v.ownBlock=some g→base≤g∧g<w.heap.size:=fun g eq=>by
 rcases h.1.2 with ⟨rfl,_⟩|⟨g2,cap,cur,rfl,hb,hg,_⟩
 ·simp[Value.ownBlock] at eq
 ·simp[Value.ownBlock] at eq;subst eq;exact⟨hb,(Array.getElem?_eq_some_iff.1 hg).1⟩
theorem GrowD.kept (h:GrowD w base e k v rows) (hs:∀g,v.ownBlock=some g→w'.heap[g]? =w.heap[g]?):GrowD w' base e k v rows:=by
 obtain⟨h1,h3,hN⟩:=h;refine⟨⟨h1.1,?_⟩,h3,fun g eq cur t f hg=>hN g eq cur t f ((hs g eq).symm.trans hg)⟩;rcases h1.2 with h|⟨g2,cap,cur,rfl,hB,hg,h⟩
 ·exact .inl h
 ·exact .inr ⟨g2,cap,cur,rfl,hB,(hs g2 (by simp[Value.ownBlock])).trans hg,h⟩
theorem GrowD.below (h:GrowD w base e k v rows) (hb:Below w.heap.size w w'):GrowD w' base e k v rows:=h.kept (fun g eq=>hb.block g (h.lt g eq).2)
theorem GrowD.up {a b:World} [u:Up a b] (h:GrowD a base e k v rows):GrowD b base e k v rows:=h.below u.out
theorem GrowD.form (h:GrowD w base e k v rows):∃A c,v= .slice A rows.length c∧rows.length≤c:=by
 rcases h.1.2 with ⟨rfl,h0⟩|⟨g2,cap,cur,rfl,hb,hg,hl,_⟩
 ·exact⟨none,0,by rw[h0],by rw[h0];exact Nat.le_refl _⟩
 ·exact⟨_,cap,rfl,hl⟩
theorem GrowD.at_ {A:Option Addr} {l c:Nat} (h:GrowD w base e k (.slice A l c) rows) {i:Nat} {r:List Value} (hi:rows[i]? =some r):∃b,A=some ⟨b,0,none⟩∧base≤b∧b<w.heap.size∧∀(j:Nat) (u:Value),r[j]? =some u→w.cell? ⟨b,i*k+j,none⟩=some u:=by
 obtain⟨h1,h3,hN⟩:=h;have hil:=(List.getElem?_eq_some_iff.1 hi).1;rcases h1.2 with ⟨_,h0⟩|⟨g2,cap,cur,hv,hb,hg,hl,hm,hs,ht⟩
 ·omega
 ·simp only[Value.slice.injEq] at hv;refine⟨g2,hv.1,hb,(Array.getElem?_eq_some_iff.1 hg).1,fun j u hu=> ?_⟩;have hj:j<k:=by rw[←h3 r (List.mem_of_getElem? hi)];exact(List.getElem?_eq_some_iff.1 hu).1
  rw[cell_of_row w g2 _ cur e (0,0) hg,←Array.getElem?_toList];have h5:=mS h3 hi hj;rw[hu,←ht,List.getElem?_take] at h5;split at h5
  ·exact h5
  ·cases h5
end
theorem EX (w:World) (t ty e:TypeId) (k bytes:Nat) (z:Value) (ht:Tryz.prog.underlying t=some (.slice e)) (hi:(Tryz.prog.info? e).map (fun i=>(i.zero,i.size,i.bytes))=some (some z,k,bytes)) (hzk:z.cells.size=k) (hz:∀n,∀y∈Builtin.zeroCells z.cells n,NoInt y) (hk:0<k) (hby:bytes≤1024)
  {base:Nat} {v:Value} {rows:List (List Value)} (hG:GrowD w base e k v rows) {g c:Nat} {t':TypeId} {r:List Value} (hB:Bx w g r t') (hr:r.length=k) (hni:∀u∈r,NoInt u∧u.oneCell'=true) (hl:rows.length≤1073741824) (hb:base≤w.heap.size):
  ∃v' w',(Builtin.append_ #[t,t] ty #[v,.slice (some ⟨g,0,none⟩) 1 c]).run Tryz.prog w= .ok v' w'∧GrowD w' base e k v' (rows++[r])∧Keep w w'∧w.grownBy w' v.ownBlock∧(v'.ownBlock=v.ownBlock∨v'.ownBlock=some w.heap.size):=by
 obtain⟨h1,h3,hN⟩:=hG;obtain⟨i,hi,hz0,hz1,hz2⟩:=info_parts hi;have hbb:(rows.length+1)*bytes≤140737488355328:=Nat.le_trans (Nat.mul_le_mul (show rows.length+1≤1073741825 by omega) hby) (by decide);have hnews:∀j u,r[j]? =some u→w.cell? ((⟨g,0,none⟩:Addr).add j)=some u:=fun j u hu=>by
  have:=hB.cell j hu;unfold Addr.add;split
  ·rename_i h0;subst h0;exact this
  ·simpa using this
 obtain⟨v',w',hrun,ho,hg,_,hat⟩:=run_append_own_at (P:=Tryz.prog) w base t ty e i z k bytes ht hi hz0 hz1 hz2 hzk hk v rows.length _ h1 ⟨g,0,none⟩ 1 c r (by rw[hr,Nat.one_mul]) hnews (fun u hu=>(hni u hu).2) (by unfold maxLen;omega) hbb hb;have hkm:Keep w w':=fun x n hx=>by
  obtain⟨A,c',hv,hc,hrd,hold⟩:=hx;refine⟨A,c',hv,hc,?_,hold.mono hg.size⟩;rcases hrd with h|⟨b,off,rfl,hlt,hcs⟩
  ·exact .inl h
  ·refine .inr ⟨b,off,rfl,Nat.lt_of_lt_of_le hlt hg.size,fun j hj=> ?_⟩;have hp:=hcs j hj;by_cases eb:v.ownBlock=some b
   ·rcases h1.2 with ⟨rfl,_⟩|⟨g2,cap,cur,rfl,_,hgc,_⟩
    ·simp[Value.ownBlock] at eb
    ·have e2:g2=b:=by simpa [Value.ownBlock] using eb
     subst e2;rw[cell_of_row w g2 _ cur _ (0,0) hgc,←Array.getElem?_toList] at hp;exact absurd rfl (hN g2 eb cur _ _ hgc _ (List.mem_of_getElem? hp) _ _)
   ·exact(World.cell?_of_block (hg.block b hlt (fun e'=>eb e'.symm))).trans hp
 have hdry:vT w' v':=by
  have fresh:∀(vals:List Value) (cap m:Nat),(∀y∈vals,NoInt y)→vT (w.drew.alloc (.cells (vals.toArray++r.toArray++Builtin.zeroCells z.cells m) e)) (.slice (some ⟨w.heap.size,0,none⟩) (rows.length+1) cap):=fun vals cap m hv g2 eq cur t f hc=>by
   simp[Value.ownBlock] at eq;subst eq;have:=heap_alloc_new w.drew (.cells (vals.toArray++r.toArray++Builtin.zeroCells z.cells m) e);have h5:=this.symm.trans hc;simp only[Option.some.injEq,Obj.cells.injEq] at h5;rw[←h5.1];intro y hy;rw[Array.toList_append,Array.toList_append] at hy;rcases List.mem_append.1 hy with hy|hy
   ·rcases List.mem_append.1 hy with hy|hy
    ·exact hv y hy
    ·exact(hni y hy).1
   ·exact hz m y (Array.mem_toList_iff.1 hy)
  rcases h1.2 with ⟨rfl,h0⟩|⟨g2,cap,cur,rfl,hB2,hgc,hnc,hcm,hs,ht2⟩
  ·have h6:=run_append_nil (P:=Tryz.prog) w t ty e i z ht hi hz0 ⟨g,0,none⟩ 1 c r (by rw[hz1,hr,Nat.one_mul]) hnews (by decide) (by decide) (by rw[hz2];omega);rw[hrun] at h6;injection h6 with e1 e2;subst e1 e2;have:=fresh [] (grownCap w 1 0 e) (grownCap w 1 0 e-1) (fun _ h=>by cases h);rw[h0] at this;simpa using this
  ·have hdc:∀y∈cur.toList,NoInt y:=hN g2 rfl cur _ _ hgc;by_cases hroom:rows.length+1≤cap
   ·have h6:=run_append_room (P:=Tryz.prog) w t ty e i ht hi g2 rows.length cap cur hgc ⟨g,0,none⟩ 1 c r (by rw[hz1,hr,Nat.one_mul]) hnews (fun u hu=>(hni u hu).2) hroom (by
     rw[hz1,hs,hr];have:=Nat.mul_le_mul_right k hroom;rw[Nat.add_mul,Nat.one_mul] at this;exact this)
    rw[hrun] at h6;injection h6 with e1 e2;subst e1 e2;intro g3 eq cur' t f hc;simp[Value.ownBlock] at eq;subst eq;have h7:=(setRow_heap w g2 cur _ e _ hgc).symm.trans hc;simp only[Option.some.injEq,Obj.cells.injEq] at h7;rw[←h7.1];intro y hy;have hy':y∈cur.toList.take (rows.length*i.size)++r++cur.toList.drop (rows.length*i.size+r.length):=hy;rcases List.mem_append.1 hy' with hy|hy
    ·rcases List.mem_append.1 hy with hy|hy
     ·exact hdc y (List.mem_of_mem_take hy)
     ·exact(hni y hy).1
    ·exact hdc y (List.mem_of_mem_drop hy)
   ·have holds:∀j y,(cur.toList.take (rows.length*k))[j]? =some y→w.cell? ((⟨g2,0,none⟩:Addr).add j)=some y:=fun j y hj=>by
     have h1:w.cell? ⟨g2,j,none⟩=some y:=by
      rw[cell_of_row w g2 j cur _ (0,0) hgc,←Array.getElem?_toList];rw[List.getElem?_take] at hj;split at hj
      ·exact hj
      ·cases hj
     unfold Addr.add;split
     ·rename_i h0;subst h0;exact h1
     ·simpa using h1
    have hlen:(cur.toList.take (rows.length*k)).length=rows.length*i.size:=by
     have hcl:cur.toList.length=cap*k:=hs;rw[hz1,List.length_take,hcl];exact Nat.min_eq_left (Nat.mul_le_mul_right _ hnc)
    have h6:=run_append_grow (P:=Tryz.prog) w t ty e i z ht hi hz0 ⟨g2,0,none⟩ rows.length cap (cur.toList.take (rows.length*k)) hlen holds ⟨g,0,none⟩ 1 c r (by rw[hz1,hr,Nat.one_mul]) hnews (by omega) (by omega) (growslice_fits (by omega) (by rw[hz2];exact hbb));rw[hrun] at h6;injection h6 with e1 e2;subst e1 e2;have:=fresh (cur.toList.take (rows.length*k)) (grownCap w (rows.length+1) cap e) (grownCap w (rows.length+1) cap e-(rows.length+1)) (fun y hy=>hdc y (List.mem_of_mem_take hy));simpa using this
 refine⟨v',w',hrun,⟨?_,fun x hx=> ?_,hdry⟩,hkm,hg,hat⟩
 ·rw[List.length_append,List.flatten_append];simpa using ho
 ·rcases List.mem_append.1 hx with hx|hx
  ·exact h3 x hx
  ·rw[List.mem_singleton.1 hx];exact hr
section
variable {ops:Array Oper} {rest:List Oper} {o:Oper} {a:Act} {Q:Exit→Act→World→Prop} {w:World}
theorem YT (hgd:o.guard=none) {s x:Operand} {t:TypeId} (ho:o.op= .call { callee:= .builtin .append,args:= #[s,x],argTypes:= #[t,t] }) (e:TypeId) (k bytes:Nat) (z:Value) (ht:Tryz.prog.underlying t=some (.slice e)) (hi:(Tryz.prog.info? e).map (fun i=>(i.zero,i.size,i.bytes))=some (some z,k,bytes)) (hzk:z.cells.size=k) (hz:∀n,∀y∈Builtin.zeroCells z.cells n,NoInt y) (hk:0<k) (hby:bytes≤1024)
  {base:Nat} {v:Value} {rows:List (List Value)} (hs:a.eval s=v) (hG:GrowD w base e k v rows) {g c:Nat} {t':TypeId} {r:List Value} (hx:a.eval x= .slice (some ⟨g,0,none⟩) 1 c) (hB:Bx w g r t') (hr:r.length=k) (hni:∀u∈r,NoInt u∧u.oneCell'=true) (hl:rows.length≤1073741824) (hb:base≤w.heap.size)
  (h:∀v' w',GrowD w' base e k v' (rows++[r])→Keep w w'→w.grownBy w' v.ownBlock→(v'.ownBlock=v.ownBlock∨v'.ownBlock=some w.heap.size)→wpList Tryz.prog ops Q rest (a.put o.dst v') w'):
  wpList Tryz.prog ops Q (o :: rest) a w:=by
 obtain⟨v',w',hrun,h1,h2,h3,h4⟩:=EX w t o.type e k bytes z ht hi hzk hz hk hby hG hB hr hni hl hb (c:=c);refine wpList_plain hgd fun K hK=> ?_;unfold Oper.wp execOp;simp only[ho,resolve,invoke,builtin,Sem.run_bind,Sem.run_pure,Result.andThen_ok,List.map_toArray,List.map_cons,List.map_nil,hs,hx,hrun];exact hK _ _ (h v' w' h1 h2 h3 h4)
theorem EY {K:Act→World→Prop} {E:Prop} (hgd:o.guard=none) {s x:Operand} {t:TypeId} (ho:o.op= .call { callee:= .builtin .append,args:= #[s,x],argTypes:= #[t,t] }) (e:TypeId) (k bytes:Nat) (z:Value) (ht:Tryz.prog.underlying t=some (.slice e)) (hi:(Tryz.prog.info? e).map (fun i=>(i.zero,i.size,i.bytes))=some (some z,k,bytes)) (hzk:z.cells.size=k) (hz:∀n,∀y∈Builtin.zeroCells z.cells n,NoInt y) (hk:0<k) (hby:bytes≤1024)
  {base:Nat} {v:Value} {rows:List (List Value)} (hs:a.eval s=v) (hG:GrowD w base e k v rows) {g c:Nat} {t':TypeId} {r:List Value} (hx:a.eval x= .slice (some ⟨g,0,none⟩) 1 c) (hB:Bx w g r t') (hr:r.length=k) (hni:∀u∈r,NoInt u∧u.oneCell'=true) (hl:rows.length≤1073741824) (hb:base≤w.heap.size)
  (h:∀v' w',GrowD w' base e k v' (rows++[r])→Keep w w'→w.grownBy w' v.ownBlock→(v'.ownBlock=v.ownBlock∨v'.ownBlock=some w.heap.size)→K (a.put o.dst v') w'):if Region.wanted o (yielded ops a.tmps)=true then Oper.wp Tryz.prog o a w K Q else E:=by
 have hw:Region.wanted o (yielded ops a.tmps)=true:=by simp[Region.wanted,hgd]
 rw[if_pos hw];obtain⟨v',w',hrun,h1,h2,h3,h4⟩:=EX w t o.type e k bytes z ht hi hzk hz hk hby hG hB hr hni hl hb (c:=c);unfold Oper.wp execOp;simp only[ho,resolve,invoke,builtin,Sem.run_bind,Sem.run_pure,Result.andThen_ok,List.map_toArray,List.map_cons,List.map_nil,hs,hx,hrun];exact h v' w' h1 h2 h3 h4
end
theorem GrowD.left {w w':World} {base:Nat} {e:TypeId} {k:Nat} {v:Value} {rows:List (List Value)} (h:GrowD w base e k v rows) (hg:w.grownBy w' v.ownBlock) (hb:base≤w.heap.size):Below base w w':=⟨hg.os,hg.tape,hg.output,hg.size,fun k hk=>hg.block k (by omega) (fun e=>by have:=(h.lt k e.symm).1;omega)⟩
theorem QE (x y:Rat):(x+y)*(((1:Int):Rat)/((2:Int):Rat))=(x+y)/2:=by
 have e1:((1:Int):Rat)=1:=rfl;have e2:((2:Int):Rat)=2:=rfl;rw[e1,e2];grind
def SpanAt (w:World) (v:Value) (x y:Rat):Prop:=∃s1 A1 k1 c1 s2 A2 k2 c2 s3 A3 k3 c3 s4 A4 k4 c4,v= .agg #[.bool s1,.slice A1 k1 c1,.bool s2,.slice A2 k2 c2,.bool s3,.slice A3 k3 c3,.bool s4,.slice A4 k4 c4]∧RatAt w (.agg #[.bool s1,.slice A1 k1 c1,.bool s2,.slice A2 k2 c2]) x∧RatAt w (.agg #[.bool s3,.slice A3 k3 c3,.bool s4,.slice A4 k4 c4]) y
theorem QX (x y:Rat) (v:Value) (w:World) (hG:Glob w) (hv:SpanAt w v x y) (K:Nat) (bx:RL K x) (bY:RL K y) (h1:1≤K) (hK2:K≤1073741824):
  Calls Tryz.prog 160 #[v] w (eV w ((x+y)/2)):=by
 obtain⟨s1,A1,k1,c1,s2,A2,k2,c2,s3,A3,k3,c3,s4,A4,k4,c4,rfl,hx,hy⟩:=hv;have had:=fun W hG h h'=>I2 x y (.agg #[.bool s1,.slice A1 k1 c1,.bool s2,.slice A2 k2 c2]) (.agg #[.bool s3,.slice A3 k3 c3,.bool s4,.slice A4 k4 c4]) W hG h h' K bx bY (by unfold aF;omega);have n1:nl (1:Int).natAbs≤1:=bI (by decide);have n2:nl (2:Int).natAbs≤1:=bI (by decide);have hfr:=fun W u v hG h h'=>xW 1 2 u v W hG h h' 1 n1 n2 (by unfold aF;decide);have hmu:=fun W u v hG h h'=>V9 (x+y) (((1:Int):Rat)/((2:Int):Rat)) u v W hG h h' (2*K+2) (bV (UB bx bY) (by omega)) (bV (zV n1 n2 (Nat.le_refl 1)) (by omega)) (by unfold aF;omega);rw[QE] at hmu;unfold eV at had hfr hmu;unfold eV;generalize (x+y)/2=m at *;generalize x+y=z at *;generalize ((1:Int):Rat)/((2:Int):Rat)=half at *;obtain⟨W,eW,hb,X,R⟩:=j6 w [.bool s1,.slice A1 k1 c1,.bool s2,.slice A2 k2 c2,.bool s3,.slice A3 k3 c3,.bool s4,.slice A4 k4 c4] 108 [.bool false,.slice none 0 0,.bool false,.slice none 0 0] 54;have cM:=aa X.g8 R.g4;go_enter Tryz.func160,Tryz.ntmps160;go_wp2_with fail;(try rw[eW]);clear eW;refine(had _ (hG.below hb) (hx.below hb) (hy.below hb)).mono ?_;rintro e5 w5 ⟨v5,rfl,h5,hb5⟩;have:=St.mk hb5;go_wp2_with fail;refine(jK 1 _ (by decide) (by decide)).mono ?_;rintro e6 w6 ⟨v6,rfl,h6,hb6⟩;have:=St.mk hb6;go_wp2_with fail;refine(jK 2 _ (by decide) (by decide)).mono ?_;rintro e7 w7 ⟨v7,rfl,h7,hb7⟩;have:=St.mk hb7;go_wp2_with fail;refine(hfr _ _ _ (hG.below hb).up h6.up h7).mono ?_;rintro e8 w8 ⟨v8,rfl,h8,hb8⟩;have:=St.mk hb8;go_wp2_with fail;refine(hmu _ _ _ (hG.below hb).up h5.up h8).mono ?_;rintro e9 w9 ⟨v9,rfl,h9,hb9⟩;obtain⟨s5,A5,k5,c5,s6,A6,k6,c6,rfl⟩:=h9.form;have:=St.mk hb9;replace R:=R.up (b:=w9);have cR:=R.g4;go_wp2_with fail;obtain⟨W6,e6,R6,hb6,hk,ff⟩:=R.put4 (mL (b:=w9) hb) (by omega) (.bool s5) (.slice A5 k5 c5) (.bool s6) (.slice A6 k6 c6) rfl rfl;rw[e6];exact bodyPost_ret (v:= .agg #[.bool s5,.slice A5 k5 c5,.bool s6,.slice A6 k6 c6]) (by simp[results,Tryz.results160,go_sem,R6.k4]) rfl ⟨_,rfl,h9.keep hk,hb6⟩
theorem R7 (x y:Rat) (v:Value) (w:World) (hG:Glob w) (hv:SpanAt w v x y) (K:Nat) (bx:RL K x) (bY:RL K y) (hK2:K≤1073741824):
  Calls Tryz.prog 52 #[v] w fun e w'=>e= .returned (.agg #[.string ⟨(aO x).toArray⟩,.string ⟨(aO y).toArray⟩])∧Below w.heap.size w w':=by
 obtain⟨s1,A1,k1,c1,s2,A2,k2,c2,s3,A3,k3,c3,s4,A4,k4,c4,rfl,hx,hy⟩:=hv;have h1:=fun W hG h=>EF x (.agg #[.bool s1,.slice A1 k1 c1,.bool s2,.slice A2 k2 c2]) W hG h K bx hK2;have h2:=fun W hG h=>EF y (.agg #[.bool s3,.slice A3 k3 c3,.bool s4,.slice A4 k4 c4]) W hG h K bY hK2;generalize (aO x).toArray=tx at *;generalize (aO y).toArray=ty at *;obtain⟨W,eW,hb,X,R⟩:=j6 w [.bool s1,.slice A1 k1 c1,.bool s2,.slice A2 k2 c2,.bool s3,.slice A3 k3 c3,.bool s4,.slice A4 k4 c4] 108 [.string ⟨#[]⟩,.string ⟨#[]⟩] 45;have cM:=aa X.g8 R.g2;go_enter Tryz.func52,Tryz.ntmps52;go_wp2_with fail;(try rw[eW]);clear eW;replace hx:=hx.below hb;replace hy:=hy.below hb;have n1:w.heap.size+1≠w.heap.size:=by omega
 go_region_held3 (fun w'=>C8 w' w.heap.size (.bool s1) (.slice A1 k1 c1) (.bool s2) (.slice A2 k2 c2) (.bool s3) (.slice A3 k3 c3) (.bool s4) (.slice A4 k4 c4)) (first|(with_reducible exact X.up.k8)|(with_reducible exact((X5.far 0 _ n1).far 1 _ n1).k8))
  (first
   |(go_at_call 39;first|(with_reducible refine(h1 _ (hG.below hb).up hx.up).mono ?_;rintro e5 w5 ⟨rfl,hb5⟩;have:=St.mk hb5;have R5:=R.up (b:=w5);have X5:=X.up (b:=w5);have cR5:=R5.g2;have hB5:=mL (b:=w5) hb)|(with_reducible refine(h2 _ (hG.below hb).up hy.up).mono ?_;rintro e6 w6 ⟨rfl,hb6⟩;have:=St.mk hb6;have R5:=R.up (b:=w6);have X5:=X.up (b:=w6);have cR5:=R5.g2;have hB5:=mL (b:=w6) hb)))
 all_goals (
  go_wp2_with fail;obtain⟨W6,e6,R6,hb6,hk,ff⟩:=R5.put2 hB5 (by omega) (.string ⟨tx⟩) (.string ⟨ty⟩) rfl rfl;rw[e6];exact bodyPost_ret (v:= .agg #[.string ⟨tx⟩,.string ⟨ty⟩]) (by simp[results,Tryz.results52,go_sem,R6.k2]) rfl ⟨rfl,by first|exact hb6|exact hb6.drew⟩)
def PoAt (w:World) (v:Value) (x:Rat) (n:Int) (z:Bool):Prop:=∃s1 A1 k1 c1 s2 A2 k2 c2,v= .agg #[.bool s1,.slice A1 k1 c1,.bool s2,.slice A2 k2 c2,.int .i64 n,.bool z]∧RatAt w (.agg #[.bool s1,.slice A1 k1 c1,.bool s2,.slice A2 k2 c2]) x
theorem Bx.put6 {w W:World} {b B:Nat} {cs:List Value} {t:TypeId} (h:Bx W b cs t) (hb:Below B w W) (hB:B≤b) (v0 v1 v2 v3 v4 v5:Value) {a0 a1 a2 a3 a5:Value} {k:Int} (hc:cs=[a0,a1,a2,a3,.int .i64 k,a5]) (hn:(fZ (some a0)&&(fZ (some a1)&&(fZ (some a2)&&(fZ (some a3)&&fZ (some a5)))))=true):
  ∃W',(((((W.setCell ⟨b,0,none⟩ v0).setCell ⟨b,1,none⟩ v1).setCell ⟨b,2,none⟩ v2).setCell ⟨b,3,none⟩ v3).setCell ⟨b,4,none⟩ v4).setCell ⟨b,5,none⟩ v5=W'∧Bx W' b [v0,v1,v2,v3,v4,v5] t∧Below B w W'∧Keep W W'∧∀{g:Nat} {cs:List Value} {t:TypeId},Bx W g cs t→b≠g→Bx W' g cs t:=by
 subst hc;simp only[Bool.and_eq_true] at hn;obtain⟨W1,rfl,h1,b1,k1,f1⟩:=h.put1 hb hB 0 v0 hn.1;obtain⟨W2,rfl,h2,b2,k2,f2⟩:=h1.put1 b1 hB 1 v1 hn.2.1;obtain⟨W3,rfl,h3,b3,k3,f3⟩:=h2.put1 b2 hB 2 v2 hn.2.2.1;obtain⟨W4,rfl,h4,b4,k4,f4⟩:=h3.put1 b3 hB 3 v3 hn.2.2.2.1;have b5:=b4.setCell (p:=⟨b,4,none⟩) hB v4;have k5:=Keep.puti (h4.cell 4 rfl) v4;have h5:=h4.set 4 v4;obtain⟨W6,rfl,h6,b6,k6,f6⟩:=h5.put1 b5 hB 5 v5 hn.2.2.2.2;exact⟨_,rfl,h6,b6,((((k1.trans k2).trans k3).trans k4).trans k5).trans k6,fun k hne=>f6 ((f4 (f3 (f2 (f1 k hne) hne) hne) hne).far 4 v4 hne) hne⟩
section
variable {w:World} {b g:Nat} {v0 v1 v2 v3 v4 v5:Value}
theorem kG (hne:b≠g) {o:Nat} {u:Value} (h:w.cell? ⟨g,o,none⟩=some u):((((((w.setCell ⟨b,0,none⟩ v0).setCell ⟨b,1,none⟩ v1).setCell ⟨b,2,none⟩ v2).setCell ⟨b,3,none⟩ v3).setCell ⟨b,4,none⟩ v4).setCell ⟨b,5,none⟩ v5).cell? ⟨g,o,none⟩=some u:=by
 exact(aK _ _ _ _ _ _ hne).trans ((aK _ _ _ _ _ _ hne).trans ((aK _ _ _ _ _ _ hne).trans ((aK _ _ _ _ _ _ hne).trans ((aK _ _ _ _ _ _ hne).trans ((aK _ _ _ _ _ _ hne).trans h)))))
theorem RR (hne:b≠g) {u0 u1 u2 u3:Value} (h:C4 w g u0 u1 u2 u3):C4 ((((((w.setCell ⟨b,0,none⟩ v0).setCell ⟨b,1,none⟩ v1).setCell ⟨b,2,none⟩ v2).setCell ⟨b,3,none⟩ v3).setCell ⟨b,4,none⟩ v4).setCell ⟨b,5,none⟩ v5) g u0 u1 u2 u3:=⟨kG hne h.1,kG hne h.2.1,kG hne h.2.2.1,kG hne h.2.2.2⟩
theorem RW (hne:b≠g) {u0 u1:Value} (h:C2 w g u0 u1):C2 ((((((w.setCell ⟨b,0,none⟩ v0).setCell ⟨b,1,none⟩ v1).setCell ⟨b,2,none⟩ v2).setCell ⟨b,3,none⟩ v3).setCell ⟨b,4,none⟩ v4).setCell ⟨b,5,none⟩ v5) g u0 u1:=⟨kG hne h.1,kG hne h.2⟩
end
theorem S0 (s:List Int) (x:Rat):decide (d5 s x.num x.den=0)=decide (bD s 0 x=0):=by
 unfold bD;rw[if_pos rfl];exact decide_eq_decide.2 (by rw[Int.sign_eq_zero_iff_zero])
theorem SA (s:List Int) (c:List (List Int)) (B gb:Nat) (x:Rat) (vc vr vx:Value) (w:World) (hB:Bx w gb [vc,vr] 166) (hv:WsAt w B 47 vc (s :: c)) (hx:RatAt w vx x) (hll:(s :: c).length≤1024) (K:Nat) (hls:∀a∈s :: c,a≠[]∧a.length≤65∧∀n∈a,nl n.natAbs≤K) (kx:RL K x) (hK2:140*K+10≤17592186044416):
  Calls Tryz.prog 113 #[.pointer (some ⟨gb,0,none⟩),vx] w fun e w'=>∃v',e= .returned v'∧PoAt w' v' x (cE 0 ((s :: c).map (fun a=>bD a 0 x)):Nat) (decide (bD s 0 x=0))∧Below w.heap.size w w':=by
 obtain⟨s1,A1,k1,c1,s2,A2,k2,c2,rfl⟩:=hx.form;obtain⟨A,cc,rfl,hc⟩:=hv.form;obtain⟨bc,u0,rfl,hbl,hu,hs0⟩:=hv.at_ (i:=0) (l:=s) rfl;obtain⟨A0,c0,rfl,hc0⟩:=hs0.form;have hn0:(0:Int)<((s :: c).length:Int):=by rw[List.length_cons];omega
 have ks:=hls s (List.mem_cons_self ..);have hch:=fun W h h'=>o9 (s :: c) B 0 x (.slice (some ⟨bc,0,none⟩) (s :: c).length cc) (.agg #[.bool s1,.slice A1 k1 c1,.bool s2,.slice A2 k2 c2,.int .i64 0]) W h h' (by decide) hll K hls kx hK2;have hat:=fun W h h'=>z8 s x (.slice A0 s.length c0) (.agg #[.bool s1,.slice A1 k1 c1,.bool s2,.slice A2 k2 c2]) W h h' K ks.2.2 kx ks.2.1 hK2;have bho:=sP (ns:=s) (a:=x.num) (b:=x.den) (T:=BN^K) (fun n h=>fX (ks.2.2 n h)) (fX kx.1) (fX kx.2);have bnv:nl (d5 s x.num x.den).natAbs≤K*65+1:=by
  refine bI (Nat.lt_of_le_of_lt bho.1 (Nat.lt_of_lt_of_le (tD (by omega)).1 (Nat.pow_le_pow_right (by decide) ?_)));have:=Nat.mul_le_mul_left K ks.2.1;omega
 have hiz:=fun W u h=>cU (d5 s x.num x.den) u W h (by omega);rw[S0] at hiz;have hbl2:=hB.lt;unfold sS at hch;unfold bW at hat;generalize (cE 0 ((s :: c).map (fun a=>bD a 0 x)):Nat)=V at *;generalize decide (bD s 0 x=0)=Z at *;generalize d5 s x.num x.den=hv0 at *;clear hls ks bho bnv kx;have hnN:0<(s :: c).length:=by rw[List.length_cons];omega
 generalize (s :: c).length=n at *;obtain⟨W,eW,hb,X,R⟩:=j6 w [.bool s1,.slice A1 k1 c1,.bool s2,.slice A2 k2 c2] 54 [.bool false,.slice none 0 0,.bool false,.slice none 0 0,.int .i64 0,.bool false] 169;have cM:=aa X.g4 R.g6;go_enter Tryz.func113,Tryz.ntmps113;go_wp2_with fail;(try rw[eW]);clear eW;have:=St.mk hb;have n1:w.heap.size+1≠w.heap.size:=by omega
 have n2:w.heap.size+1≠gb:=by omega
 have n3:w.heap.size+1≠bc:=by omega
 go_region_held3 (fun w'=>C4 w' w.heap.size (.bool s1) (.slice A1 k1 c1) (.bool s2) (.slice A2 k2 c2)∧C2 w' gb (.slice (some ⟨bc,0,none⟩) n cc) vr∧w'.cell? ⟨bc,0,none⟩=some (.slice A0 s.length c0))
  (first
   |(with_reducible exact⟨X.up.k4,hB.up.k2,((Up.out (a:=w)).cell (p:=⟨bc,0,none⟩) hbl).trans hu⟩)
   |(with_reducible exact⟨RR n1 X.up.k4,RW n2 hB.up.k2,kG n3 (((Up.out (a:=w)).cell (p:=⟨bc,0,none⟩) hbl).trans hu)⟩))
  (first
   |(go_at_call 80;(with_reducible refine(hch _ hv.up (EndAt.of hx.up)).mono ?_);rintro e5 w5 ⟨rfl,hb5⟩;have:=St.mk hb5;have R9:=R.up (b:=w5);have cR9:=R9.g6;have hB9:=mL (b:=w5) hb;have hx9:=hx.up (b:=w5))
   |(go_at_call 161;(with_reducible refine(hat _ hs0.up hx.up).mono ?_);rintro e6 w6 ⟨v6,rfl,h6,hb6⟩;have:=St.mk hb6)
   |(go_at_call 62;(with_reducible refine(hiz _ _ h6.up).mono ?_);rintro e7 w7 ⟨rfl,hb7⟩;have:=St.mk hb7;have R9:=R.up (b:=w7);have cR9:=R9.g6;have hB9:=mL (b:=w7) hb;have hx9:=hx.up (b:=w7)))
 all_goals (
  go_wp2_with fail;obtain⟨W6,e6,R6,hb6,hk,ff⟩:=R9.put6 hB9 (by omega) (.bool s1) (.slice A1 k1 c1) (.bool s2) (.slice A2 k2 c2) (.int .i64 (V:Int)) (.bool Z) rfl rfl;rw[e6];exact bodyPost_ret (v:= .agg #[.bool s1,.slice A1 k1 c1,.bool s2,.slice A2 k2 c2,.int .i64 (V:Int),.bool Z]) (by simp[results,Tryz.results113,go_sem,R6.k6]) rfl ⟨_,rfl,⟨_,_,_,_,_,_,_,_,rfl,hx9.keep hk⟩,by first|exact hb6|exact hb6.drew⟩)
end Go.Proofs.YtbhplgdbfmifkaaGreatDoor
