/-
  Contracts of functions that the statement reaches, and plain laws: SqfA, AwkP, AwkR, AwkA, KeepB, LawA, LawC, UniG, NumL.
-/
import Derived.Test.YtlojjipfnejbnaaGreatDoorS18
import Derived.Test.YtlojjipfnejbnaaGreatDoorS25
import Derived.Test.YtlojjipfnejbnaaGreatDoorS26
import Derived.Test.YtlojjipfnejbnaaGreatDoorS29
import Derived.Test.YtlojjipfnejbnaaGreatDoorS31
import Derived.Test.YtlojjipfnejbnaaGreatDoorS32
set_option linter.unusedVariables false
set_option linter.unusedSimpArgs false
set_option maxHeartbeats 8000000
set_option maxRecDepth 100000
namespace Go.Proofs.YtlojjipfnejbnaaGreatDoor
open Go.RowKit Sos
structure QuoOf (x c Q:List Int):Prop where
 trim:aN Q
 ne:c≠[]
 tc:aN c
 id_:∀i,cf x i=conv (cf Q) (cf c) i
inductive Sqf (B:Nat):List Int→List Int→List (List Int)→Prop
 |done {p r:List Int} (h:p.length≤1):Sqf B p r []
 |step {p r c Qp Qr:List Int} {l:List (List Int)} (h:1<p.length) (hg:fL B p r c) (hp:QuoOf p c Qp) (hr:QuoOf r c Qr) (t:Sqf B c Qr l):Sqf B p r (Qp :: l)
structure GcdFit (K B:Nat) (xs ys:List Int):Prop where
 tx:aN xs
 ty:aN ys
 kx:∀n∈xs,nl n.natAbs≤K
 ky:∀n∈ys,nl n.natAbs≤K
 b1:xs.length<ys.length→(K+1)*(ys.length-xs.length+2)*3^xs.length≤B
 b2:¬xs.length<ys.length→(K+1)*(xs.length-ys.length+2)*3^ys.length≤B
 lx:xs.length≤1073741824
 ly:ys.length≤1073741824
structure SqfInv (K B:Nat) (Inv:Nat→List Int→List Int→Prop):Prop where
 fit:∀n p r,Inv n p r→GcdFit K B p r
 go:∀n p r c,Inv n p r→1<p.length→fL B p r c→∃Qp Qr n',n'<n∧QuoOf p c Qp∧QuoOf r c Qr∧(∀x∈c,nl x.natAbs≤K)∧(∀x∈Qp,nl x.natAbs≤K)∧(∀x∈Qr,nl x.natAbs≤K)∧c.length≤1073741824∧Inv n' c Qr
theorem FF {K B:Nat} {xs ys:List Int} (h:GcdFit K B xs ys) (vx vy:Value) (w:World) (hG:Glob w) (hx:WholeAt w vx xs) (hy:WholeAt w vy ys) (hK1:1≤K) (hB2:5*B+8≤aF):
  Calls Tryz.prog 58 #[vx,vy] w fun e w'=>∃v' g,e= .returned v'∧WholeAt w' v' g∧fL B xs ys g∧Below w.heap.size w w':=
 DY xs ys vx vy w hG hx hy h.tx h.ty K B h.kx h.ky hK1 h.b1 h.b2 hB2 h.lx h.ly
def yB (w:World) (B:Nat) (ns:List Int) (e:Ending) (w':World):Prop:=
 ∃v g Q l,e= .returned v∧WsAt w' w.heap.size 50 v l∧fL B (aZ ns) (fT (aZ ns)) g∧QuoOf (aZ ns) g Q∧Sqf B Q g l∧Below w.heap.size w w'
theorem QY (ns:List Int) (v:Value) (w:World) (hG:Glob w) (hv:WholeAt w v ns) (ht:aN ns) (K B:Nat) (hK:∀n∈ns,nl n.natAbs≤K) (hK1:1≤K) (hK2:7*K+8≤aF) (hB2:5*B+8≤aF) (hl:ns.length≤1073741824)
  (Inv:Nat→List Int→List Int→Prop) (hI:SqfInv K B Inv) (hfit:GcdFit K B (aZ ns) (fT (aZ ns)))
  (hst:∀g,fL B (aZ ns) (fT (aZ ns)) g→∃Q n,QuoOf (aZ ns) g Q∧(∀x∈g,nl x.natAbs≤K)∧(∀x∈Q,nl x.natAbs≤K)∧g.length≤1073741824∧n≤1073741824∧Inv n Q g):
  Calls Tryz.prog 51 #[v] w (yB w B ns):=by
 obtain⟨A,c,rfl,hc⟩:=hv.form;have hpr:=qJ ns _ w hG hv ht K hK (by omega) (by omega);have hpl:=gA ns;have hpk:=mI hK;have htp:=j8 ht;unfold yB;generalize aZ ns=p at *;have hlp:p.length≤1073741824:=by omega
 have hder:=fun W v h=>OA p v W h K hpk (by unfold aF at hK2⊢;omega) hlp;clear hpl;generalize fT p=d at *;go_enter Tryz.func51,Tryz.ntmps51;go_wp2_with fail;refine hpr.mono ?_;rintro e1 w1 ⟨v1,rfl,h1,hb⟩;obtain⟨A1,c1,rfl,hc1⟩:=h1.form;clear hpr;go_wp2_with fail;refine(hder _ _ h1).mono ?_;rintro e2 w2 ⟨v2,rfl,h2,hb2⟩;obtain⟨A2,c2,rfl,hc2⟩:=h2.form;replace h1:=h1.below hb2;replace hb:=aB hb hb2;clear hder;go_wp2_with fail;refine(FF hfit _ _ _ (hG.below hb) h1 h2 hK1 hB2).mono ?_;rintro e3 w3 ⟨v3,g,rfl,h3,hgt,hb3⟩;obtain⟨A3,c3,rfl,hc3⟩:=h3.form;replace h1:=h1.below hb3;replace hb:=aB hb hb3;obtain⟨Q,n,hQ,kg,kQ,lg,ln,hin⟩:=hst g hgt;have HGT:=Lib.hid hgt;have HQ:=Lib.hid hQ;have hqw:=fun W h1 h2=>yC Q p g (.slice A1 p.length c1) (.slice A3 g.length c3) W h1 h2 hQ.ne hQ.trim htp hQ.tc hQ.id_ K kQ kg hK2 hlp lg;clear hgt hQ hst hfit h2;go_wp2_with fail;refine(hqw _ h1 h3).mono ?_;rintro e4 w4 ⟨v4,rfl,h4,hb4⟩;obtain⟨A4,c4,rfl,hc4⟩:=h4.form;replace h3:=h3.below hb4;replace hb:=aB hb hb4;clear hqw h1;go_wp2_with fail;go_loopg [4,5,6] n (fun k vr vp vf wr=>∃r p Ar cr Ap cp ls,vr= .slice Ar r.length cr∧vp= .slice Ap p.length cp∧WholeAt wr (.slice Ar r.length cr) r∧WholeAt wr (.slice Ap p.length cp) p∧WsAt wr w.heap.size 50 vf ls∧Inv k p r∧k≤1073741824∧ls.length+k≤n∧Hid (∀l,Sqf B p r l→Sqf B Q g (ls++l))∧Below w.heap.size w wr)
 case atStart=>exact⟨g,Q,A3,c3,A4,c4,[],rfl,rfl,h3,h4,RowsAt.nil _ _ _ _,hin,ln,by simp,fun l h=>h,hb⟩
 case round=>
  clear h3 h4 hb hin;obtain⟨r,p,Ar,cr,Ap,cp,ls,rfl,rfl,hr,hp,hf,hin,hk,hln,HS,hb⟩:=hrel;generalize wr=wy at *;have hF:=hI.fit _ _ _ hin;have hlp:=hF.lx;obtain⟨Af,cf',rfl,hcf⟩:=hf.form;have hdg:=fun W=>oZ p.length cp Ap W (by omega);go_wp2_with fail;refine(hdg _).mono ?_;rintro e5 w5 ⟨rfl,rfl⟩;by_cases h1:p.length≤1
  ·have q1:¬(0:Int)<(p.length:Int)-1:=by omega
   have hE:=HS.out [] (Sqf.done h1);rw[List.append_nil] at hE;have HE:=Lib.hid hE;clear hE h1;go_wp2_with fail;go_ret;exact⟨_,g,Q,ls,rfl,hf,HGT.out,HQ.out,HE.out,hb⟩
  ·have q1:(0:Int)<(p.length:Int)-1:=by omega
   have hp1:1<p.length:=by omega
   clear h1;go_wp2_with fail;refine(FF hF _ _ _ (hG.below hb) hp hr hK1 hB2).mono ?_;rintro e6 w6 ⟨v6,c,rfl,h6,hgt,hb6⟩;obtain⟨A6,c6,rfl,hc6⟩:=h6.form;obtain⟨Qp,Qr,n',hn',hQp,hQr,kc,kQp,kQr,lc,hin'⟩:=hI.go _ _ _ c hin hp1 hgt;have hE:∀l,Sqf B c Qr l→Sqf B Q g (ls++(Qp :: l)):=fun l t=>HS.out _ (Sqf.step hp1 hgt hQp hQr t);have HE:=Lib.hid hE;have hq1:=fun W h1 h2=>yC Qp p c (.slice Ap p.length cp) (.slice A6 c.length c6) W h1 h2 hQp.ne hQp.trim hF.tx hQp.tc hQp.id_ K kQp kc hK2 hlp lc;have hq2:=fun W h1 h2=>yC Qr r c (.slice Ar r.length cr) (.slice A6 c.length c6) W h1 h2 hQr.ne hQr.trim hF.ty hQr.tc hQr.id_ K kQr kc hK2 hF.ly lc;replace hr:=hr.below hb6;replace hp:=hp.below hb6;replace hf:=hf.below hb6;replace hb:=aB hb hb6;clear hE hQp hQr hgt HS;go_wp2_with fail;refine(hq1 _ hp h6).mono ?_;rintro e7 w7 ⟨v7,rfl,h7,hb7⟩;obtain⟨A7,c7,rfl,hc7⟩:=h7.form;replace hr:=hr.below hb7;replace h6:=h6.below hb7;replace hf:=hf.below hb7;replace hb:=aB hb hb7;clear hq1;have hbX:Below w7.heap.size w7 (w7.alloc (.cells #[.slice A7 Qp.length c7] 50)):=(Below.refl _ _).alloc (Nat.le_refl _) _;replace hr:=hr.below hbX;replace h6:=h6.below hbX;replace h7:=h7.below hbX;replace hf:=hf.below hbX;replace hb:=aB hb hbX;have X:=Bx.new w7 [.slice A7 Qp.length c7] 50;have X_0:=X.cell 0 rfl;obtain⟨vals,hpw,hvl,hvs⟩:=id hf;go_wp2_with (at_builtin;refine FG rfl rfl 50 24 Tryz.underlying68 RB w.heap.size _ vals rfl hpw w7.heap.size (.slice A7 Qp.length c7) rfl X_0 ⟨_,_,_,rfl⟩ (by rw[hvl];omega) (by rw[hvl];unfold maxLen;omega) hb.size ?_;intro v8 w8 hp8 hk8 hg8);have zf:=WsAt.push hpw hvl hvs h7 hp8 hk8 hg8;have zr:=hr.grown hpw hk8 hg8;have z6:=h6.grown hpw hk8 hg8;have zb:=FH hb hg8 hpw (Nat.le_refl _);obtain⟨A8,c8,rfl,hc8⟩:=zf.form;have hll:(ls++[Qp]).length=ls.length+1:=by rw[List.length_append];rfl
   clear hp8 hk8 hg8 hpw hvl hvs hf h7 hr h6 hb X X_0 hbX;generalize hls:ls++[Qp]=LS at *;have HLS:=Lib.hid hls;have HLL:=Lib.hid hll;clear hls hll;go_wp2_with fail;refine(hq2 _ zr z6).mono ?_;rintro e9 w9 ⟨v9,rfl,h9,hb9⟩;obtain⟨A9,c9,rfl,hc9⟩:=h9.form;replace z6:=z6.below hb9;replace zf:=zf.below hb9;replace zb:=aB zb hb9;go_wp2_with fail;go_roundg n'
   case rel=>exact⟨Qr,c,A9,c9,A6,c6,LS,rfl,rfl,h9,z6,zf,hin',by omega,by have:=HLL.out;omega,fun l t=>by have:=HE.out l t;rw[←HLS.out,List.append_assoc];exact this,zb⟩
   case measure=>omega
def iL (ns:List Int):List (List UInt8):=(aT ns (cf ns (ns.length-1))).map aO
def QZ (w:World) (B:Nat) (ns:List Int) (e:Ending) (w':World):Prop:=
 ∃v g Q l,e= .returned (.tuple #[v,.int .i64 0])∧TsAt w' w.heap.size 22 v (l.map iL)∧fL B (aZ ns) (fT (aZ ns)) g∧QuoOf (aZ ns) g Q∧Sqf B Q g l∧Below w.heap.size w w'
theorem WsAt.mono {w:World} {B B':Nat} {v:Value} {ls:List (List Int)} (h:WsAt w B 50 v ls) (hB:B'≤B):WsAt w B' 50 v ls:=by
 obtain⟨vals,h1,h2,h3⟩:=h;refine⟨vals,?_,h2,h3⟩;rcases h1 with h|⟨g,cap,cur,hv,hb,h⟩
 ·exact .inl h
 ·exact .inr ⟨g,cap,cur,hv,Nat.le_trans hB hb,h⟩
theorem WsAt.grown {w w':World} {B B':Nat} {v u:Value} {vals:List Value} {ls:List (List Int)} (h:WsAt w B' 50 u ls) (hr:PRow w B 22 v vals) (hk:Keep w w') (hg:w.grownBy w' v.ownBlock):WsAt w' B' 50 u ls:=by
 have hne:∀(b:Nat) (cs:Array Value) (t:TypeId),w.heap[b]? =some (Obj.cells cs t (0,0))→t≠22→w'.heap[b]? =w.heap[b]? :=fun b cs t hb ht=>by
  refine hg.block b (Array.getElem?_eq_some_iff.1 hb).1 (fun e=> ?_);rcases hr with ⟨rfl,_⟩|⟨g,cap,cur,rfl,_,hgg,_⟩
  ·simp[Value.ownBlock] at e
  ·simp[Value.ownBlock] at e;subst e;rw[hgg] at hb;injection hb with hb;injection hb with _ hb;exact ht hb.symm
 obtain⟨us,h1,h2,h3⟩:=h;refine⟨us,?_,h2,fun i x l hx hl=> ?_⟩
 ·rcases h1 with h|⟨g,cap,cur,hv,hb,hgg,h⟩
  ·exact .inl h
  ·exact .inr ⟨g,cap,cur,hv,hb,(hne g cur 50 hgg (by decide)).trans hgg,h⟩
 ·obtain⟨A,c,e,hc,h⟩:=h3 i x l hx hl;refine⟨A,c,e,hc,?_⟩;rcases h with h|⟨b,rows,e',hr',hi⟩
  ·exact .inl h
  ·exact .inr ⟨b,rows,e',⟨(hne b _ 53 hr'.1 (by decide)).trans hr'.1,hr'.2⟩,hi.keep hk⟩
theorem R5 (a:List (List UInt8)) (va:Value) (w:World) (hG:Glob w) (ha:StrsAt w va a) (hla:a.length≤1073741824) (KA:Nat) (hca:a.length≤65→∀l∈a,l.length≤1073741824) (hKa:a.length≤65→∀q∈aE a,RL KA q) (hKA:KA≤1024)
  (hv:vl a=true) (h0:a≠[]) (K B:Nat) (hK1:1≤K) (hK2:K≤1073741824) (hB2:5*B+8≤aF) (Inv:Nat→List Int→List Int→Prop) (hI:SqfInv K B Inv)
  (hst:∀D,ComDen (aE a) D (1+65*KA)→(∀n∈aI (aE a) D,nl n.natAbs≤K)∧GcdFit K B (aZ (aI (aE a) D)) (fT (aZ (aI (aE a) D)))∧
   ∀g,fL B (aZ (aI (aE a) D)) (fT (aZ (aI (aE a) D))) g→∃Q n,QuoOf (aZ (aI (aE a) D)) g Q∧(∀x∈g,nl x.natAbs≤K)∧(∀x∈Q,nl x.natAbs≤K)∧g.length≤1073741824∧n≤1073741824∧Inv n Q g)
  (hfac:∀D Q g l,ComDen (aE a) D (1+65*KA)→fL B (aZ (aI (aE a) D)) (fT (aZ (aI (aE a) D))) g→QuoOf (aZ (aI (aE a) D)) g Q→Sqf B Q g l→l.length≤1073741824∧∀f∈l,f≠[]∧f.length≤1073741824∧∀n∈f,nl n.natAbs≤K):
  Calls Tryz.prog 12 #[va] w fun e w'=>∃D,ComDen (aE a) D (1+65*KA)∧QZ w B (aI (aE a) D) e w':=by
 obtain⟨A,c,rfl,hc⟩:=ha.form;go_enter Tryz.func12,Tryz.ntmps12;go_wp2_with fail;refine(qL a _ _ hG ha hla hca KA (1+65*KA) hKa (Nat.le_refl _) (by unfold aF;omega)).mono ?_;rintro e1 w1 ⟨v1,vd1,xs,D,rfl,hx,hD,hvx,hb⟩;obtain⟨A1,c1,rfl,hc1⟩:=hx.form;obtain⟨s1,B1,k1,d1,rfl⟩:=hD.form;obtain⟨rfl,hcx⟩:=hvx hv;obtain⟨p1, -,t1⟩:=fD hv;obtain⟨kn,hfit,hgo⟩:=hst D hcx;have hfc:=fun Q g l=>hfac D Q g l hcx;have htx:=gR hcx.pos hcx.dvd t1;have lx0:(aI (aE a) D).length=a.length:=by rw[eK];unfold aE;rw[List.length_map]
 have lx:(aI (aE a) D).length≤65:=by rw[lx0];exact p1
 have ln:(aI (aE a) D).length≠0:=by rw[lx0];exact fun e=>h0 (List.eq_nil_of_length_eq_zero e)
 have q0:(((aI (aE a) D).length:Int)==0)=false:=by rw[beq_eq_false_iff_ne];omega
 rw[hv];have HCX:=Lib.hid hcx;clear hst hfac hvx hcx lx0 t1 p1 ha hKa hca;have hsq:=fun W h=>fun hb:Below w.heap.size w W=>QY (aI (aE a) D) (.slice A1 (aI (aE a) D).length c1) W (hG.below hb) h htx K B kn hK1 (by unfold aF;omega) hB2 (by omega) Inv hI hfit hgo;unfold yB at hsq;go_wp2_with fail;have hbX:Below w1.heap.size w1 (w1.alloc (.cells #[.bool s1,.slice B1 k1 d1] 53)):=(Below.refl _ _).alloc (Nat.le_refl _) _;replace hx:=hx.below hbX;replace hb:=aB hb hbX;clear hbX;generalize w1.alloc (.cells #[.bool s1,.slice B1 k1 d1] 53)=w2 at *;refine(hsq _ hx hb).mono ?_;rintro e3 w3 ⟨v3,g,Q,l,rfl,h3,hgt,hQ,hS,hb3⟩;obtain⟨A3,c3,rfl,hc3⟩:=h3.form;obtain⟨ll,hll⟩:=hfc Q g l hgt hQ hS;have HH:=Lib.hid (And.intro hgt (And.intro hQ hS));replace hb:=aB hb hb3;clear hgt hQ hS hfc hsq hgo hfit;go_wp2_with fail;go_loopg [7,24] l.length (fun k vf i wr=>∃j,Hid (j+k=l.length)∧i= .int .i64 j∧WsAt wr w2.heap.size 50 (.slice A3 l.length c3) l∧TsAt wr w.heap.size 22 vf ((l.take j).map iL)∧Below w.heap.size w wr)
 case atStart=>exact⟨0,by unfold Hid;omega,rfl,h3,RowsAt.nil _ _ _ _,hb⟩
 case round=>
  clear h3 hb;obtain⟨j,HJ,rfl,h3,hf,hb⟩:=hrel;generalize wr=wy at *;have hj0:(0:Int)≤(j:Int):=by omega
  obtain⟨Af,cf',rfl,hcf⟩:=hf.form;cases gk with
  |zero=>
   have hj:j=l.length:=HJ.out;subst hj;rw[List.take_length] at hf;go_wp2_with fail;refine bodyPost_ret (v:= .tuple #[.slice Af (l.map iL).length cf',.int .i64 0]) (by simp[results,Tryz.results12,go_sem]) rfl ⟨D,HCX.out,_,g,Q,l,rfl,hf,HH.out.1,HH.out.2.1,HH.out.2.2,hb⟩
  |succ k=>
   have hjl:j<l.length:=by have:=HJ.out;omega
   have hj1:(j:Int)<(l.length:Int):=by omega
   obtain⟨f,hfj⟩:∃f,l[j]? =some f:=⟨_,List.getElem?_eq_getElem hjl⟩;obtain⟨b,u,rfl,hbl,hu,hfu⟩:=h3.at_ hfj;obtain⟨Au,cu,rfl,hcu⟩:=hfu.form;obtain⟨f0,fl,fk⟩:=hll f (List.mem_of_getElem? hfj);have htk:(l.take (j+1)).map iL=(l.take j).map iL++[iL f]:=by
    rw[List.take_add_one,hfj,List.map_append];rfl
   have HTK:=Lib.hid htk;have hlt:((l.take j).map iL).length≤1073741824:=by rw[List.length_map,List.length_take];omega
   clear htk hfj;generalize (l.take j).map iL=TS at *;go_wp2_with fail;refine(tL f _ _ (hG.below hb) hfu f0 K fk hK1 hK2 fl).mono ?_;rintro e5 w5 ⟨v5,rfl,h5,hb5⟩;obtain⟨MT,HMT⟩:∃MT,Hid (iL f=MT):=⟨_,rfl⟩;have h5':StrsAt w5 v5 MT:=by rw[←HMT.out];exact h5
   clear h5;rw[HMT.out] at HTK;obtain⟨A5,c5,rfl,hc5⟩:=h5'.form;have hbX:Below w5.heap.size w5 (w5.alloc (.cells #[.slice A5 MT.length c5] 22)):=(Below.refl _ _).alloc (Nat.le_refl _) _;replace h3:=(h3.below hb5).below hbX;replace hf:=(hf.below hb5).below hbX;replace h5':=h5'.below hbX;replace hb:=aB hb hb5;replace hb:=aB hb hbX;have X:=Bx.new w5 [.slice A5 MT.length c5] 22;have X_0:=X.cell 0 rfl;obtain⟨vals,hpw,hvl,hvs⟩:=id hf;go_wp2_with (at_builtin;refine FG rfl rfl 22 24 Tryz.underlying28 RC w.heap.size _ vals rfl hpw w5.heap.size (.slice A5 MT.length c5) rfl X_0 ⟨_,_,_,rfl⟩ (by rw[hvl];omega) (by rw[hvl];unfold maxLen;omega) hb.size ?_;intro v8 w8 hp8 hk8 hg8);have zf:=TsAt.push hpw hvl hvs h5' hp8 hg8;have z3:=WsAt.grown h3 hpw hk8 hg8;have zb:=FH hb hg8 hpw (Nat.le_refl _);rw[←HTK.out] at zf;go_roundg k
   case rel=>exact⟨j+1,by have:=HJ.out;unfold Hid;omega,by go_num,z3,zf,zb⟩
   case measure=>omega
theorem F4:aR [45,49]=some (-1):=by decide
theorem qQ:aR [48]=some 0:=by decide
theorem mM:aR [49]=some 1:=by decide
theorem uA:aR [50]=some 2:=by decide
theorem xY:aR [45,50]=some (-2):=by decide
theorem F5:aR [45,51]=some (-3):=by decide
theorem QC:aR [45,49,47,52]=some (mkRat (-1) 4):=by
 unfold aR;rw[show dN [45,49,47,52]=some (true,[49],[52]) by decide];simp only[];rw[if_neg (by decide),if_pos (by decide)];rfl
theorem QD:aR [49,47,50]=some (mkRat 1 2):=by
 unfold aR;rw[show dN [49,47,50]=some (false,[49],[50]) by decide];simp only[];rw[if_neg (by decide),if_pos (by decide)];rfl
theorem QF:aR [49,47,52]=some (mkRat 1 4):=by
 unfold aR;rw[show dN [49,47,52]=some (false,[49],[52]) by decide];simp only[];rw[if_neg (by decide),if_pos (by decide)];rfl
theorem QG:mkRat (-1) 4= -1/4:=by rw[Rat.mkRat_eq_div];rfl
theorem QH:mkRat 1 2=1/2:=by rw[Rat.mkRat_eq_div];rfl
theorem QI:mkRat 1 4=1/4:=by rw[Rat.mkRat_eq_div];rfl
theorem xZ:aE [[48],[48],[49]]=[0,0,1]:=by unfold aE;simp only[List.map,qQ,mM];rfl
theorem y5:aE [[49],[50]]=[1,2]:=by unfold aE;simp only[List.map,mM,uA];rfl
theorem y6:aE [[45,49],[49]]=[-1,1]:=by unfold aE;simp only[List.map,F4,mM];rfl
theorem y7:aE [[45,51],[49]]=[-3,1]:=by unfold aE;simp only[List.map,F5,mM];rfl
theorem qR:aE [[48],[48],[45,50],[50]]=[0,0, -2,2]:=by unfold aE;simp only[List.map,qQ,xY,uA];rfl
theorem qS {ls:List (List UInt8)} {qs:List Rat} (h:aE ls=qs) (h1:ls.length≤65) (h2:ls.all rd=true) (h3:qs.getLast?≠some 0):vl ls=true:=by
 unfold vl;rw[decide_eq_true_iff,h];exact⟨h1,h2,h3⟩
theorem QJ:vl [[48],[48],[49]]=true:=qS xZ (by decide) (by simp[rd,qQ,mM]) (by decide)
theorem QK:vl [[49],[50]]=true:=qS y5 (by decide) (by simp[rd,mM,uA]) (by decide)
theorem F6:vl [[45,49],[49]]=true:=qS y6 (by decide) (by simp[rd,F4,mM]) (by decide)
theorem F7:vl [[45,51],[49]]=true:=qS y7 (by decide) (by simp[rd,F5,mM]) (by decide)
theorem QL:vl [[48],[48],[45,50],[50]]=true:=qS qR (by decide) (by simp[rd,qQ,xY,uA]) (by decide)
theorem F8 {n:Int} (h:n.natAbs<BN):RL 1 (n:Rat):=⟨bI (by rw[Nat.pow_one];exact h),bI (by rw[Nat.pow_one];show 1<BN;decide)⟩
theorem qT {qs:List Rat} (h:∀q∈qs,∃n:Int,q=n∧n.natAbs<BN):∀q∈qs,RL 1 q:=fun q hq=>by
 obtain⟨n,rfl,hn⟩:=h q hq;exact F8 hn
theorem QM:∀q∈([0,0,1]:List Rat),RL 1 q:=qT (fun q hq=>by
 simp at hq;rcases hq with rfl|rfl
 ·exact⟨0,rfl,by decide⟩
 ·exact⟨1,rfl,by decide⟩)
theorem QN:∀q∈([1,2]:List Rat),RL 1 q:=qT (fun q hq=>by
 simp at hq;rcases hq with rfl|rfl
 ·exact⟨1,rfl,by decide⟩
 ·exact⟨2,rfl,by decide⟩)
theorem QO:∀q∈([-1,1]:List Rat),RL 1 q:=qT (fun q hq=>by
 simp at hq;rcases hq with rfl|rfl
 ·exact⟨-1,rfl,by decide⟩
 ·exact⟨1,rfl,by decide⟩)
theorem QP:∀q∈([-3,1]:List Rat),RL 1 q:=qT (fun q hq=>by
 simp at hq;rcases hq with rfl|rfl
 ·exact⟨-3,rfl,by decide⟩
 ·exact⟨1,rfl,by decide⟩)
theorem QQ:∀q∈([0,0, -2,2]:List Rat),RL 1 q:=qT (fun q hq=>by
 simp at hq;rcases hq with rfl|rfl|rfl
 ·exact⟨0,rfl,by decide⟩
 ·exact⟨-2,rfl,by decide⟩
 ·exact⟨2,rfl,by decide⟩)
theorem QR {Q R:List Rat} {K:Nat} (h:DivRes [0,0,1] [1,2] Q R K):Q=[mkRat (-1) 4,mkRat 1 2]∧R=[mkRat 1 4]:=by
 have hq:=h.q_len;have hr:=h.r_lt;have z:∀i,3≤i→cf Q i=0:=fun i hi=>aP (by simp at hq;omega);have zr:∀i,1≤i→cf R i=0:=fun i hi=>aP (by simp at hr;omega);have h3:=h.id_ 3;have h2:=h.id_ 2;have h1:=h.id_ 1;have h0:=h.id_ 0;have b0:cf ([1,2]:List Rat) 0=1:=rfl;have b1:cf ([1,2]:List Rat) 1=2:=rfl;have b2:cf ([1,2]:List Rat) 2=0:=rfl;have b3:cf ([1,2]:List Rat) 3=0:=rfl;have a0:cf ([0,0,1]:List Rat) 0=0:=rfl;have a1:cf ([0,0,1]:List Rat) 1=0:=rfl;have a2:cf ([0,0,1]:List Rat) 2=1:=rfl;have a3:cf ([0,0,1]:List Rat) 3=0:=rfl;simp only[conv,aU,Nat.sub_zero,Nat.sub_self,Nat.reduceSub,Nat.reduceAdd,b0,b1,b2,b3,a0,a1,a2,a3,z 3 (by omega),zr 3 (by omega),zr 2 (by omega),zr 1 (by omega)] at h3 h2 h1 h0;rw[QG,QH,QI];have q2:cf Q 2=0:=by grind
 have q1:cf Q 1=1/2:=by grind
 have q0:cf Q 0= -1/4:=by grind
 have r0:cf R 0=1/4:=by grind
 refine⟨iJ h.q_trim (fun a ha=> ?_) (fun i=> ?_),iJ h.r_trim (fun a ha=> ?_) (fun i=> ?_)⟩
 ·simp at ha;rw[←ha];grind
 ·match i with
  |0=>exact q0
  |1=>exact q1
  |2=>exact q2
  |i+3=>rw[z (i+3) (by omega),aP (by simp)]
 ·simp at ha;rw[←ha];grind
 ·match i with
  |0=>exact r0
  |i+1=>rw[zr (i+1) (by omega),aP (by simp)]
theorem F9 (D:Int) (x:Int):aI [(x:Rat),1] D=[x*D,D]:=by
 unfold aI;show[x*D.tdiv (1:Int),1*D.tdiv (1:Int)]=_
 rw[Int.tdiv_one,Int.one_mul]
theorem y8 (D:Int):aI [0,0, -2,2] D=[0,0, -2*D,2*D]:=by
 unfold aI;show[0*D.tdiv (1:Int),0*D.tdiv (1:Int), -2*D.tdiv (1:Int),2*D.tdiv (1:Int)]=_
 rw[Int.tdiv_one,Int.zero_mul]
theorem y9 {D:Int} (hD:0<D):aZ [0,0, -2*D,2*D]=[0,0, -1,1]:=by
 have hg:(cA [0,0, -2*D,2*D]:Int)=2*D:=by
  rw[jS,jS,jS,jS,tM,Nat.gcd_zero_left,Int.natAbs_mul,Int.natAbs_mul];show((Nat.gcd (Nat.gcd (Nat.gcd (2*D.natAbs) (2*D.natAbs)) 0) 0:Nat):Int)=_
  rw[Nat.gcd_self,Nat.gcd_zero_right,Nat.gcd_zero_right];omega
 unfold aZ bK;rw[hg];show[(0:Int).tdiv (2*D),(0:Int).tdiv (2*D),(-2*D).tdiv (2*D),(2*D).tdiv (2*D)]=_
 rw[Int.zero_tdiv,Int.tdiv_self (by omega),show -2*D= -(2*D) by omega,Int.neg_tdiv,Int.tdiv_self (by omega)]
def FA (n:Nat) (p r:List Int):Prop:=(n=2∧p=[0,1, -1]∧r=[0, -1])∨(n=1∧p=[0, -1]∧r=[1])∨(n=0∧p=[1]∧r=[1])
theorem gX {l:List Int} {K:Nat} (hK:1≤K) (h:l.all (fun n=>decide (n.natAbs<BN))=true):∀n∈l,nl n.natAbs≤K:=fun n hn=>by
 have:=List.all_eq_true.1 h n hn;exact Nat.le_trans (bI (by rw[Nat.pow_one];exact of_decide_eq_true this)) hK
theorem QS:SqfInv 100 1000000 FA:=by
 refine⟨fun n p r h=> ?_,fun n p r c h hp hg=> ?_⟩
 ·rcases h with ⟨rfl,rfl,rfl⟩|⟨rfl,rfl,rfl⟩|⟨rfl,rfl,rfl⟩;all_goals exact⟨cY rfl,cY rfl,gX (by decide) (by decide),gX (by decide) (by decide),by decide,by decide,by decide,by decide⟩
 ·rcases h with ⟨rfl,rfl,rfl⟩|⟨rfl,rfl,rfl⟩|⟨rfl,rfl,rfl⟩
  ·rw[DU hg];exact⟨[-1,1],[1],1,by decide,⟨cY rfl,by decide,cY rfl,lC (n:=6) (by decide) (by decide) (by decide)⟩,⟨cY rfl,by decide,cY rfl,lC (n:=6) (by decide) (by decide) (by decide)⟩,gX (by decide) (by decide),gX (by decide) (by decide),gX (by decide) (by decide),by decide,.inr (.inl ⟨rfl,rfl,rfl⟩)⟩
  ·rw[DV hg];exact⟨[0, -1],[1],0,by decide,⟨cY rfl,by decide,cY rfl,lC (n:=6) (by decide) (by decide) (by decide)⟩,⟨cY rfl,by decide,cY rfl,lC (n:=6) (by decide) (by decide) (by decide)⟩,gX (by decide) (by decide),gX (by decide) (by decide),gX (by decide) (by decide),by decide,.inr (.inr ⟨rfl,rfl,rfl⟩)⟩
  ·exact absurd hp (by decide)
theorem qU {x c Q Q':List Int} (h:QuoOf x c Q) (h':QuoOf x c Q'):Q=Q':=by
 refine iJ h.trim h'.trim (fun i=> ?_)
 have hz:=xM (d:=fun j=>cf Q j+(-1)*cf Q' j) (L:=Q.length+Q'.length) h.ne h.tc (fun i hi=>by
  show cf Q i+(-1)*cf Q' i=0
  rw[aP (by omega),aP (by omega)];simp) (fun i _=>by
  rw[j7,fF,←h.id_,←h'.id_];omega) i
 have hz':cf Q i+(-1)*cf Q' i=0:=hz;omega
theorem FC {Q g:List Int} {l:List (List Int)} (hg:fL 1000000 [0,0, -1,1] [0, -2,3] g) (hQ:QuoOf [0,0, -1,1] g Q) (h:Sqf 1000000 Q g l):l=[[-1,1],[0, -1]]:=by
 have e1:=DT hg;subst e1;have e2:Q=[0,1, -1]:=qU hQ ⟨cY rfl,by decide,cY rfl,lC (n:=6) (by decide) (by decide) (by decide)⟩;subst e2;cases h with
 |done h=>simp at h
 |step h1 hg1 hp1 hr1 t1=>
  have e3:=DU hg1;subst e3;have e4:=qU hp1 (Q':=[-1,1]) ⟨cY rfl,by decide,cY rfl,lC (n:=6) (by decide) (by decide) (by decide)⟩;have e5:=qU hr1 (Q':=[1]) ⟨cY rfl,by decide,cY rfl,lC (n:=6) (by decide) (by decide) (by decide)⟩;subst e4;subst e5;cases t1 with
  |done h=>simp at h
  |step h2 hg2 hp2 hr2 t2=>
   have e6:=DV hg2;subst e6;have e7:=qU hp2 (Q':=[0, -1]) ⟨cY rfl,by decide,cY rfl,lC (n:=6) (by decide) (by decide) (by decide)⟩;have e8:=qU hr2 (Q':=[1]) ⟨cY rfl,by decide,cY rfl,lC (n:=6) (by decide) (by decide) (by decide)⟩;subst e7;subst e8;cases t2 with
   |done=>rfl
   |step h _ _ _ _=>simp at h
theorem QT:iL [0, -1]=[[48],[49]]:=by
 unfold iL aT;show[aO (((0:Int):Rat)/((-1:Int):Rat)),aO (((-1:Int):Rat)/((-1:Int):Rat))]=_
 rw[show((0:Int):Rat)/((-1:Int):Rat)=0 by grind,show((-1:Int):Rat)/((-1:Int):Rat)=1 by grind,kV qQ,kV mM]
theorem J1 (va vb:Value) (w:World) (hG:Glob w) (ha:StrsAt w va [[45,49],[49]]) (hb':StrsAt w vb [[45,51],[49]]):
  Calls Tryz.prog 39 #[va,vb] w fun e w'=>e= .returned (.tuple #[.string ⟨#[45,50]⟩,.int .i64 0])∧Below w.heap.size w w':=by
 obtain⟨A,c,rfl,hc⟩:=ha.form;obtain⟨A',c',rfl,hc'⟩:=hb'.form;replace ha:StrsAt w (.slice A 2 c) [[45,49],[49]]:=ha;replace hb':StrsAt w (.slice A' 2 c') [[45,51],[49]]:=hb';go_enter Tryz.func39,Tryz.ntmps39;go_wp2_with fail;refine(qL [[45,49],[49]] _ _ hG ha (by decide) (fun _=>by decide) 1 66 (fun _=>by rw[y6];exact QO) (by decide) (by unfold aF;decide)).mono ?_;rintro e1 w1 ⟨v1,vd1,xs,D,rfl,hx,hD,hvx,hb⟩;obtain⟨rfl,hcx⟩:=hvx F6;rw[y6] at hx hcx;have ex:aI [-1,1] D=[-1*D,D]:=F9 D (-1);rw[ex] at hx;obtain⟨A1,c1,rfl,hc1⟩:=hx.form;replace hx:WholeAt w1 (.slice A1 2 c1) [-1*D,D]:=hx;obtain⟨s1,B1,k1,d1,rfl⟩:=hD.form;rw[F6];clear hvx ex;go_wp2_with fail;have hbX:Below w1.heap.size w1 (w1.alloc (.cells #[.bool s1,.slice B1 k1 d1] 53)):=(Below.refl _ _).alloc (Nat.le_refl _) _;have X:=Bx.new w1 [.bool s1,.slice B1 k1 d1] 53;replace hx:=hx.below hbX;replace hD:=hD.below hbX;replace hb:=aB hb hbX;clear hbX;generalize w1.heap.size=gx at *;generalize w1.alloc (.cells #[.bool s1,.slice B1 k1 d1] 53)=w2 at *;refine(qL [[45,51],[49]] _ _ (hG.below hb) (hb'.below hb) (by decide) (fun _=>by decide) 1 66 (fun _=>by rw[y7];exact QP) (by decide) (by unfold aF;decide)).mono ?_;rintro e3 w3 ⟨v3,vd3,ys,E,rfl,hy,hE,hvy,hb3⟩;obtain⟨rfl,hcy⟩:=hvy F7;rw[y7] at hy hcy;have ey:aI [-3,1] E=[-3*E,E]:=F9 E (-3);rw[ey] at hy;obtain⟨A3,c3,rfl,hc3⟩:=hy.form;replace hy:WholeAt w3 (.slice A3 2 c3) [-3*E,E]:=hy;obtain⟨s3,B3,k3,d3,rfl⟩:=hE.form;rw[F7];clear hvy ey;replace X:=X.below hb3;replace hx:=hx.below hb3;replace hD:=hD.below hb3;replace hb:=aB hb hb3;have X_c:∀o0:Obj,(w3.alloc o0).cell? ⟨gx,0,none⟩=some (.bool s1):=fun o0=>(X.alloc o0).cell 0 rfl;have X_d:∀o0:Obj,(w3.alloc o0).cell? ⟨gx,1,none⟩=some (.slice B1 k1 d1):=fun o0=>(X.alloc o0).cell 1 rfl;have hrs:=fun W v u x y hG h1 h2 h3 h4=>J2 D E hcx.pos hcy.pos (Nat.le_trans hcx.nl_ (by decide)) (Nat.le_trans hcy.nl_ (by decide)) v u x y W hG h1 h2 h3 h4;unfold eV at hrs;clear hcx hcy;go_wp2_with fail;have hbY:Below w3.heap.size w3 (w3.alloc (.cells #[.bool s3,.slice B3 k3 d3] 53)):=(Below.refl _ _).alloc (Nat.le_refl _) _;replace hx:=hx.below hbY;replace hy:=hy.below hbY;replace hD:=hD.below hbY;replace hE:=hE.below hbY;replace hb:=aB hb hbY;clear hbY X X_c X_d;generalize w3.alloc (.cells #[.bool s3,.slice B3 k3 d3] 53)=w4 at *;refine(hrs _ _ _ _ _ (hG.below hb) hx hy hD hE).mono ?_;rintro e5 w5 ⟨v5,rfl,h5,hb5⟩;replace hb:=aB hb hb5;have hst:=EF _ _ _ (hG.below hb) h5 1 (F8 (by decide)) (by decide);rw[show aO ((-2:Int):Rat)=[45,50] from kV xY] at hst;go_wp2_with fail;refine hst.mono ?_;rintro e6 w6 ⟨rfl,hb6⟩;replace hb:=aB hb hb6;go_wp2_with fail;exact bodyPost_ret (v:= .tuple #[.string ⟨#[45,50]⟩,.int .i64 0]) (by simp[results,Tryz.results39,go_sem]) rfl ⟨rfl,hb⟩
theorem StrsAt.built (w:World) (ls:List (List UInt8)) (t:TypeId):StrsAt (w.alloc (.cells (ls.map (fun l=>Value.string ⟨l.toArray⟩)).toArray t)) (.slice (some ⟨w.heap.size,0,none⟩) ls.length ls.length) ls:=by
 refine⟨_,_,rfl,Nat.le_refl _,.inr ⟨w.heap.size,0,rfl,by simp,fun i l hi=> ?_⟩⟩;have B:=Bx.new w (ls.map (fun l=>Value.string ⟨l.toArray⟩)) t;rw[Nat.zero_add];exact B.cell i (by rw[List.getElem?_map,hi];rfl)
theorem fW (a:List (List UInt8)) (va vb:Value) (w:World) (ha:StrsAt w va a) (hb:StrsAt w vb a) (hla:a.length≤1099511627776):
  Calls Tryz.prog 14 #[va,vb] w fun e w'=>e= .returned (.bool true)∧Below w.heap.size w w':=
 (RD a a va vb w ha hb hla hla).mono (fun e w' h=>⟨by rw[h.1,decide_eq_true rfl],h.2⟩)
theorem IY:GcdFit 100 1000000 [0,0, -1,1] [0, -2,3]:=⟨cY rfl,cY rfl,gX (by decide) (by decide),gX (by decide) (by decide),by decide,by decide,by decide,by decide⟩
theorem IZ {D:Int} (hD:nl D.natAbs≤66):∀n∈[0,0, -2*D,2*D],nl n.natAbs≤100:=fun n hn=>by
 simp only[List.mem_cons,List.not_mem_nil,or_false] at hn;have n2:nl (2:Int).natAbs≤1:=bI (by decide);have n3:nl (-2:Int).natAbs≤1:=bI (by decide);have n0:nl (0:Int).natAbs≤1:=bI (by decide);rcases hn with rfl|rfl|rfl|rfl
 ·omega
 ·omega
 ·exact Nat.le_trans (bZ _ _ _ _ n3 hD) (by decide)
 ·exact Nat.le_trans (bZ _ _ _ _ n2 hD) (by decide)
theorem J0 (va:Value) (w:World) (hG:Glob w) (ha:StrsAt w va [[48],[48],[45,50],[50]]):
  Calls Tryz.prog 12 #[va] w fun e w'=>∃v,e= .returned (.tuple #[v,.int .i64 0])∧TsAt w' w.heap.size 22 v [iL [-1,1],[[48],[49]]]∧Below w.heap.size w w':=by
 refine(R5 [[48],[48],[45,50],[50]] va w hG ha (by decide) 1 (fun _=>by decide) (fun _=>by rw[qR];exact QQ) (by decide) QL (by decide) 100 1000000 (by decide) (by decide) (by unfold aF;decide) FA QS ?_ ?_).mono ?_
 ·intro D hD;rw[qR] at hD⊢;rw[y8,y9 hD.pos,xP];refine⟨IZ (Nat.le_trans hD.nl_ (by decide)),IY,fun g hg=> ?_⟩;rw[DT hg];exact⟨[0,1, -1],2,⟨cY rfl,by decide,cY rfl,lC (n:=6) (by decide) (by decide) (by decide)⟩,gX (by decide) (by decide),gX (by decide) (by decide),by decide,by decide,.inl ⟨rfl,rfl,rfl⟩⟩
 ·intro D Q g l hD hg hQ hS;rw[qR] at hD hg hQ;rw[y8,y9 hD.pos] at hg hQ;rw[xP] at hg;rw[FC hg hQ hS];refine⟨by decide,fun f hf=> ?_⟩;simp only[List.mem_cons,List.not_mem_nil,or_false] at hf;rcases hf with rfl|rfl
  ·exact⟨by decide,by decide,gX (by decide) (by decide)⟩
  ·exact⟨by decide,by decide,gX (by decide) (by decide)⟩
 ·rintro e w' ⟨D,hD,v,g,Q,l,rfl,h3,hg,hQ,hS,hb⟩;rw[qR] at hD hg hQ;rw[y8,y9 hD.pos] at hg hQ;rw[xP] at hg;rw[FC hg hQ hS] at h3;refine⟨v,rfl,?_,hb⟩;rw[←QT];exact h3
theorem mP (w:World) (hG:Glob w):Calls Tryz.prog 9 #[] w fun e w'=>e= .returned (.bool true)∧Below w.heap.size w w':=by
 go_enter Tryz.func9,Tryz.ntmps9;go_wp2_with fail;have b1:Below w.heap.size w (w.alloc (.cells #[.string ⟨#[48]⟩,.string ⟨#[48]⟩,.string ⟨#[49]⟩] 9)):=(Below.refl _ _).alloc (Nat.le_refl _) _;have b2:Below w.heap.size w ((w.alloc (.cells #[.string ⟨#[48]⟩,.string ⟨#[48]⟩,.string ⟨#[49]⟩] 9)).alloc (.cells #[.string ⟨#[49]⟩,.string ⟨#[50]⟩] 9)):=b1.alloc (by simp) _;have x1:StrsAt ((w.alloc (.cells #[.string ⟨#[48]⟩,.string ⟨#[48]⟩,.string ⟨#[49]⟩] 9)).alloc (.cells #[.string ⟨#[49]⟩,.string ⟨#[50]⟩] 9)) (.slice (some ⟨w.heap.size,0,none⟩) 3 3) [[48],[48],[49]]:=(StrsAt.built w [[48],[48],[49]] 9).below ((Below.refl _ _).alloc (Nat.le_refl _) _);have x2:StrsAt ((w.alloc (.cells #[.string ⟨#[48]⟩,.string ⟨#[48]⟩,.string ⟨#[49]⟩] 9)).alloc (.cells #[.string ⟨#[49]⟩,.string ⟨#[50]⟩] 9)) (.slice (some ⟨w.heap.size+1,0,none⟩) 2 2) [[49],[50]]:=by
  have:=StrsAt.built (w.alloc (.cells #[.string ⟨#[48]⟩,.string ⟨#[48]⟩,.string ⟨#[49]⟩] 9)) [[49],[50]] 9;rw[World.size_alloc] at this;exact this
 have hb:=b2;clear b1 b2;generalize (w.alloc (.cells #[.string ⟨#[48]⟩,.string ⟨#[48]⟩,.string ⟨#[49]⟩] 9)).alloc (.cells #[.string ⟨#[49]⟩,.string ⟨#[50]⟩] 9)=W at *;refine(QW [[48],[48],[49]] [[49],[50]] _ _ _ (hG.below hb) x1 x2 (by decide) (by decide) 1 (fun _=>by decide) (fun _=>by decide) (fun _=>by rw[xZ];exact QM) (fun _=>by rw[y5];exact QN) (by decide)).mono ?_;rintro e1 w1 ⟨v,u,n,Q,R,rfl,hv,hu,hb1, -, -,hdo⟩;obtain⟨rfl,hdr⟩:=hdo QJ QK (by decide);rw[xZ,y5] at hdr;obtain⟨rfl,rfl⟩:=QR hdr;have hv':StrsAt w1 v [[45,49,47,52],[49,47,50]]:=by
  have e:List.map aO [mkRat (-1) 4,mkRat 1 2]=[[45,49,47,52],[49,47,50]]:=by
   show[aO (mkRat (-1) 4),aO (mkRat 1 2)]=_
   rw[kV QC,kV QD]
  rw[e] at hv;exact hv
 have hu':StrsAt w1 u [[49,47,52]]:=by
  have e:List.map aO [mkRat 1 4]=[[49,47,52]]:=by
   show[aO (mkRat 1 4)]=_
   rw[kV QF]
  rw[e] at hu;exact hu
 obtain⟨Av,cv,rfl, -⟩:=hv'.form;obtain⟨Au,cu,rfl, -⟩:=hu'.form;replace hv':StrsAt w1 (.slice Av 2 cv) [[45,49,47,52],[49,47,50]]:=hv';replace hu':StrsAt w1 (.slice Au 1 cu) [[49,47,52]]:=hu';replace hb:=aB hb hb1;clear x1 x2 hv hu hdo hdr hb1;go_wp2_with fail;have b1:Below w1.heap.size w1 (w1.alloc (.cells #[.string ⟨#[45,49]⟩,.string ⟨#[49]⟩] 9)):=(Below.refl _ _).alloc (Nat.le_refl _) _;have b2:Below w1.heap.size w1 ((w1.alloc (.cells #[.string ⟨#[45,49]⟩,.string ⟨#[49]⟩] 9)).alloc (.cells #[.string ⟨#[45,51]⟩,.string ⟨#[49]⟩] 9)):=b1.alloc (by simp) _;have x1:StrsAt ((w1.alloc (.cells #[.string ⟨#[45,49]⟩,.string ⟨#[49]⟩] 9)).alloc (.cells #[.string ⟨#[45,51]⟩,.string ⟨#[49]⟩] 9)) (.slice (some ⟨w1.heap.size,0,none⟩) 2 2) [[45,49],[49]]:=(StrsAt.built w1 [[45,49],[49]] 9).below ((Below.refl _ _).alloc (Nat.le_refl _) _);have x2:StrsAt ((w1.alloc (.cells #[.string ⟨#[45,49]⟩,.string ⟨#[49]⟩] 9)).alloc (.cells #[.string ⟨#[45,51]⟩,.string ⟨#[49]⟩] 9)) (.slice (some ⟨w1.heap.size+1,0,none⟩) 2 2) [[45,51],[49]]:=by
  have:=StrsAt.built (w1.alloc (.cells #[.string ⟨#[45,49]⟩,.string ⟨#[49]⟩] 9)) [[45,51],[49]] 9;rw[World.size_alloc] at this;exact this
 replace hv':=hv'.below b2;replace hu':=hu'.below b2;replace hb:=aB hb b2;clear b1 b2;generalize (w1.alloc (.cells #[.string ⟨#[45,49]⟩,.string ⟨#[49]⟩] 9)).alloc (.cells #[.string ⟨#[45,51]⟩,.string ⟨#[49]⟩] 9)=W at *;refine(J1 _ _ _ (hG.below hb) x1 x2).mono ?_;rintro e2 w2 ⟨rfl,hb2⟩;replace hv':=hv'.below hb2;replace hu':=hu'.below hb2;replace hb:=aB hb hb2;clear x1 x2 hb2;go_wp2_with fail;have b1:Below w2.heap.size w2 (w2.alloc (.cells #[.string ⟨#[48]⟩,.string ⟨#[48]⟩,.string ⟨#[45,50]⟩,.string ⟨#[50]⟩] 9)):=(Below.refl _ _).alloc (Nat.le_refl _) _;have x1:StrsAt (w2.alloc (.cells #[.string ⟨#[48]⟩,.string ⟨#[48]⟩,.string ⟨#[45,50]⟩,.string ⟨#[50]⟩] 9)) (.slice (some ⟨w2.heap.size,0,none⟩) 4 4) [[48],[48],[45,50],[50]]:=StrsAt.built w2 [[48],[48],[45,50],[50]] 9;replace hv':=hv'.below b1;replace hu':=hu'.below b1;replace hb:=aB hb b1;clear b1;generalize w2.alloc (.cells #[.string ⟨#[48]⟩,.string ⟨#[48]⟩,.string ⟨#[45,50]⟩,.string ⟨#[50]⟩] 9)=W at *;refine(J0 _ _ (hG.below hb) x1).mono ?_;rintro e3 w3 ⟨v3,rfl,h3,hb3⟩;obtain⟨A3,c3,rfl, -⟩:=h3.form;replace h3:TsAt w3 W.heap.size 22 (.slice A3 2 c3) [iL [-1,1],[[48],[49]]]:=h3;replace hv':=hv'.below hb3;replace hu':=hu'.below hb3;replace hb:=aB hb hb3;clear x1 hb3;go_wp2_with fail;have b1:Below w3.heap.size w3 (w3.alloc (.cells #[.string ⟨#[45,49,47,52]⟩,.string ⟨#[49,47,50]⟩] 9)):=(Below.refl _ _).alloc (Nat.le_refl _) _;have x1:StrsAt (w3.alloc (.cells #[.string ⟨#[45,49,47,52]⟩,.string ⟨#[49,47,50]⟩] 9)) (.slice (some ⟨w3.heap.size,0,none⟩) 2 2) [[45,49,47,52],[49,47,50]]:=StrsAt.built w3 [[45,49,47,52],[49,47,50]] 9;(try replace hv':=hv'.below b1);(try replace hu':=hu'.below b1);(try replace h3:=h3.below b1);(try replace h4:=h4.below b1);replace hb:=aB hb b1;clear b1;generalize w3.alloc (.cells #[.string ⟨#[45,49,47,52]⟩,.string ⟨#[49,47,50]⟩] 9)=W5 at *;refine(fW _ _ _ _ hv' x1 (by decide)).mono ?_;rintro e5 w5 ⟨rfl,hb5⟩;(try replace hv':=hv'.below hb5);(try replace hu':=hu'.below hb5);(try replace h3:=h3.below hb5);replace hb:=aB hb hb5;clear x1 hb5;go_wp2_with fail;have b1:Below w5.heap.size w5 (w5.alloc (.cells #[.string ⟨#[49,47,52]⟩] 9)):=(Below.refl _ _).alloc (Nat.le_refl _) _;have x1:StrsAt (w5.alloc (.cells #[.string ⟨#[49,47,52]⟩] 9)) (.slice (some ⟨w5.heap.size,0,none⟩) 1 1) [[49,47,52]]:=StrsAt.built w5 [[49,47,52]] 9;(try replace hv':=hv'.below b1);(try replace hu':=hu'.below b1);(try replace h3:=h3.below b1);(try replace h4:=h4.below b1);replace hb:=aB hb b1;clear b1;generalize w5.alloc (.cells #[.string ⟨#[49,47,52]⟩] 9)=W6 at *;refine(fW _ _ _ _ hu' x1 (by decide)).mono ?_;rintro e6 w6 ⟨rfl,hb6⟩;(try replace hv':=hv'.below hb6);(try replace hu':=hu'.below hb6);(try replace h3:=h3.below hb6);replace hb:=aB hb hb6;clear x1 hb6;obtain⟨b,u4,rfl,hbl,hc4,h4⟩:=h3.at_ (i:=1) (l:=[[48],[49]]) rfl;obtain⟨A4,c4,rfl, -⟩:=h4.form;replace h4:StrsAt w6 (.slice A4 2 c4) [[48],[49]]:=h4;go_wp2_with fail;have b1:Below w6.heap.size w6 (w6.alloc (.cells #[.string ⟨#[48]⟩,.string ⟨#[49]⟩] 9)):=(Below.refl _ _).alloc (Nat.le_refl _) _;have x1:StrsAt (w6.alloc (.cells #[.string ⟨#[48]⟩,.string ⟨#[49]⟩] 9)) (.slice (some ⟨w6.heap.size,0,none⟩) 2 2) [[48],[49]]:=StrsAt.built w6 [[48],[49]] 9;(try replace hv':=hv'.below b1);(try replace hu':=hu'.below b1);(try replace h3:=h3.below b1);(try replace h4:=h4.below b1);replace hb:=aB hb b1;clear b1;generalize w6.alloc (.cells #[.string ⟨#[48]⟩,.string ⟨#[49]⟩] 9)=W7 at *;refine(fW _ _ _ _ h4 x1 (by decide)).mono ?_;rintro e7 w7 ⟨rfl,hb7⟩;(try replace hv':=hv'.below hb7);(try replace hu':=hu'.below hb7);(try replace h3:=h3.below hb7);replace hb:=aB hb hb7;clear x1 hb7;go_wp2_with fail;go_ret;exact⟨rfl,hb⟩
def jC (n:Nat) (ls:List (List UInt8)):Bool:=ls.all (fun l=>decide (l.length≤n))
theorem RQ (n:Nat) (ls:List (List UInt8)) (v:Value) (w:World) (hv:StrsAt w v ls) (hn:n≤1073741824) (hl:ls.length≤1073741824) (hll:∀l∈ls,l.length≤9223372036854775807):
  Calls Tryz.prog 38 #[.int .i64 n,v] w fun e w'=>e= .returned (.bool (jC n ls))∧w=w':=by
 obtain⟨A,c,rfl,hc⟩:=hv.form;go_enter Tryz.func38,Tryz.ntmps38;go_wp2_with fail;go_loopg [5] ls.length (fun k i wr=>∃j,Hid (j+k=ls.length)∧i= .int .i64 j∧Hid (jC n (ls.take j)=true)∧w=wr)
 case atStart=>exact⟨0,by unfold Hid;omega,rfl,rfl,rfl⟩
 case round=>
  obtain⟨j,HJ,rfl,HT,rfl⟩:=hrel;have hj0:(0:Int)≤(j:Int):=by omega
  cases gk with
  |zero=>
   have hj:j=ls.length:=HJ.out;have HD:Hid (jC n ls=true):=by
    have:=HT.out;rwa [hj,List.take_length] at this
   subst hj;go_wp2_with fail;go_ret;rw[HD.out];exact⟨rfl,rfl⟩
  |succ k=>
   have hja:j<ls.length:=by have:=HJ.out;omega
   have hj1:(j:Int)<(ls.length:Int):=by omega
   obtain⟨t,ht⟩:∃t,ls[j]? =some t:=⟨_,List.getElem?_eq_getElem hja⟩;have hst:jC n (ls.take (j+1))=decide (t.length≤n):=by
    unfold jC;rw[List.take_add_one,ht,Option.toList_some,List.all_append];have:=HT.out;unfold jC at this;rw[this];simp
   have hno:¬t.length≤n→jC n ls=false:=fun h=>by
    unfold jC;rw[List.all_eq_false];exact⟨t,List.mem_of_getElem? ht,by simpa using h⟩
   have HST:=Lib.hid hst;have HNO:=Lib.hid hno;have htl:=hll t (List.mem_of_getElem? ht);obtain⟨b,off,rfl,hbl,hcl⟩:=hv.at_ ht;have hsz:(⟨t.toArray⟩:ByteArray).size=t.length:=by simp[ByteArray.size]
   clear hst hno ht HT;by_cases hx:t.length≤n
   ·have hx':¬(n:Int)<(t.length:Int):=by omega
    go_wp2_with fail;go_roundg k
    case rel=>exact⟨j+1,by have:=HJ.out;unfold Hid;omega,by go_num,by unfold Hid;rw[HST.out];exact decide_eq_true hx,rfl⟩
    case measure=>omega
   ·have hx':(n:Int)<(t.length:Int):=by omega
    go_wp2_with fail;go_ret;rw[HNO.out hx];exact⟨rfl,rfl⟩
def uD (w:World) (v:Value) (ps:List (List (List UInt8))):Prop:=
 ∃g c,v= .slice (some ⟨g,0,none⟩) ps.length c∧∀(i:Nat) (p:List (List UInt8)),ps[i]? =some p→∃A d,w.cell? ⟨g,i,none⟩=some (.slice A p.length d)∧StrsAt w (.slice A p.length d) p
def iN (n d:Nat) (ps:List (List (List UInt8))):Bool:=ps.all (fun p=>decide (p.length≤n)&&jC d p)
theorem FI (n d:Nat) (ps:List (List (List UInt8))) (v:Value) (w:World) (hv:uD w v ps) (hn:n≤1073741824) (hd:d≤1073741824) (hl:ps.length≤1073741824) (hll:∀p∈ps,∀l∈p,l.length≤9223372036854775807):
  Calls Tryz.prog 8 #[.int .i64 n,.int .i64 d,v] w fun e w'=>e= .returned (.bool (iN n d ps))∧w=w':=by
 obtain⟨g,c,rfl,hv⟩:=hv;go_enter Tryz.func8,Tryz.ntmps8;go_wp2_with fail;go_loopg [7] ps.length (fun k i wr=>∃j,Hid (j+k=ps.length)∧i= .int .i64 j∧Hid (iN n d (ps.take j)=true)∧w=wr)
 case atStart=>exact⟨0,by unfold Hid;omega,rfl,rfl,rfl⟩
 case round=>
  obtain⟨j,HJ,rfl,HT,rfl⟩:=hrel;have hj0:(0:Int)≤(j:Int):=by omega
  cases gk with
  |zero=>
   have hj:j=ps.length:=HJ.out;have HD:Hid (iN n d ps=true):=by
    have:=HT.out;rwa [hj,List.take_length] at this
   subst hj;go_wp2_with fail;go_ret;rw[HD.out];exact⟨rfl,rfl⟩
  |succ k=>
   have hja:j<ps.length:=by have:=HJ.out;omega
   have hj1:(j:Int)<(ps.length:Int):=by omega
   obtain⟨p,ht⟩:∃p,ps[j]? =some p:=⟨_,List.getElem?_eq_getElem hja⟩;have hst:iN n d (ps.take (j+1))=(decide (p.length≤n)&&jC d p):=by
    unfold iN;rw[List.take_add_one,ht,Option.toList_some,List.all_append];have:=HT.out;unfold iN at this;rw[this];simp
   have hno:(decide (p.length≤n)&&jC d p)=false→iN n d ps=false:=fun h=>by
    unfold iN;rw[List.all_eq_false];exact⟨p,List.mem_of_getElem? ht,by rw[h];simp⟩
   have HST:=Lib.hid hst;have HNO:=Lib.hid hno;have hpl:=hll p (List.mem_of_getElem? ht);obtain⟨A,dd,hcl,hsp⟩:=hv j p ht;clear hst hno ht HT;by_cases hx:p.length≤n
   ·have hx':¬(n:Int)<(p.length:Int):=by omega
    have hdx:decide (p.length≤n)=true:=decide_eq_true hx;rw[hdx] at HST HNO;clear hdx;go_wp2_with fail;refine(RQ d p _ _ hsp hd (by omega) hpl).mono ?_;rintro e1 w1 ⟨rfl,rfl⟩;cases hs:jC d p with
    |true=>
     rw[hs] at HST;clear HNO;go_wp2_with fail;go_roundg k
     case rel=>exact⟨j+1,by have:=HJ.out;unfold Hid;omega,by go_num,by unfold Hid;rw[HST.out];rfl,rfl⟩
     case measure=>omega
    |false=>
     rw[hs] at HNO;go_wp2_with fail;go_ret;rw[HNO.out rfl];exact⟨rfl,rfl⟩
   ·have hx':(n:Int)<(p.length:Int):=by omega
    have hdx:decide (p.length≤n)=false:=decide_eq_false hx;rw[hdx] at HNO;clear hdx;go_wp2_with fail;go_ret;rw[HNO.out rfl];exact⟨rfl,rfl⟩
theorem uE {n d:Nat} {ps:List (List (List UInt8))} (h:iN n d ps=true) {p:List (List UInt8)} (hp:p∈ps):p.length≤n∧∀l∈p,l.length≤d:=by
 have h1:=List.all_eq_true.1 h p hp;rw[Bool.and_eq_true,decide_eq_true_iff] at h1;exact⟨h1.1,fun l hl=>of_decide_eq_true (List.all_eq_true.1 h1.2 l hl)⟩
end Go.Proofs.YtlojjipfnejbnaaGreatDoor
namespace Go.Proofs.YtlojjipfnejbnaaGreatDoor
open Sos Lib
theorem eO {K:Nat} (h:1≤K):RL K 0:=⟨by show nl 0≤K;rw[cC];omega,by show nl 1≤K;exact Nat.le_trans (bI (by decide)) h⟩
theorem yD {K:Nat} {q:Rat} (h:RL K q):RL K (-q):=⟨by rw[show(-q).num= -q.num from rfl,Int.natAbs_neg];exact h.1,h.2⟩
theorem bV {K L:Nat} {q:Rat} (h:RL K q) (hl:K≤L):RL L q:=⟨Nat.le_trans h.1 hl,Nat.le_trans h.2 hl⟩
theorem FJ {n k:Nat} (h:(decDigits n).length≤k) (hk:k≤18):nl n≤1:=by
 refine bI ?_;have h1:=qE (mG n);rw[j0] at h1;have h2:10^(decDigits n).length≤10^18:=Nat.pow_le_pow_right (by decide) (by omega);have h3:10^18<BN^1:=by decide
 omega
theorem yE {t:List UInt8} {q:Rat} (h:aR t=some q) (hl:t.length≤18):RL 1 q:=by
 have e:=kV h;have hlen:(aO q).length≤18:=by rw[e];exact hl
 unfold aO at hlen;rw[List.length_append,List.length_append] at hlen;refine⟨FJ (k:=18) (by omega) (by decide),?_⟩;by_cases h1:q.den=1
 ·rw[h1];exact bI (by decide)
 ·rw[if_neg h1,List.length_cons] at hlen;exact FJ (k:=18) (by omega) (by decide)
theorem fU {ls:List (List UInt8)} (h:∀l∈ls,l.length≤18):∀q∈aE ls,RL 1 q:=fun q hq=>by
 obtain⟨l,hl,rfl⟩:=List.mem_map.1 hq;cases hr:aR l with
 |none=>exact eO (Nat.le_refl 1)
 |some q=>exact yE hr (h l hl)
end Go.Proofs.YtlojjipfnejbnaaGreatDoor
namespace Go.Proofs.YtlojjipfnejbnaaGreatDoor
open Go.RowKit Sos
theorem FK {w:World} {A A':Option Addr} {c c':Nat} {a b:List (List UInt8)} (ha:StrsAt w (.slice A a.length c) a) (hb:StrsAt w (.slice A' b.length c') b) (t:TypeId):
  uD (w.alloc (.cells #[.slice A a.length c,.slice A' b.length c'] t)) (.slice (some ⟨w.heap.size,0,none⟩) 2 2) [a,b]:=by
 have B:=Bx.new w [.slice A a.length c,.slice A' b.length c'] t;have hu:Below w.heap.size w (w.alloc (.cells #[.slice A a.length c,.slice A' b.length c'] t)):=(Below.refl _ _).alloc (Nat.le_refl _) _;refine⟨w.heap.size,2,rfl,fun i p hp=> ?_⟩;match i,hp with
 |0,hp=>
  simp at hp;subst hp;exact⟨A,c,B.cell 0 rfl,ha.below hu⟩
 |1,hp=>
  simp at hp;subst hp;exact⟨A',c',B.cell 1 rfl,hb.below hu⟩
theorem FR:aR [48]=some 0:=by decide
theorem RX:aO 0=[48]:=kV FR
theorem FT {ls:List (List UInt8)} {t:List UInt8} (h:ls.getLast?=some t):(aE ls).getLast?=some ((aR t).getD 0):=by
 unfold aE;rw[List.getLast?_map,h];rfl
theorem FU {ls:List (List UInt8)} (h:¬ls.length≤65):vl ls=false:=by unfold vl;rw[decide_eq_false_iff_not];exact fun h'=>h h'.1
theorem RY {ls:List (List UInt8)} (h:ls.getLast?=some [48]):vl ls=false:=by
 unfold vl;rw[decide_eq_false_iff_not,FT h,FR];exact fun h'=>h'.2.2 rfl
theorem RZ {ls:List (List UInt8)} {t:List UInt8} (h65:ls.length≤65) (h:ls.getLast?=some t) (ht:t≠[48]):vl ls=ls.all rd:=by
 unfold vl;rw[Bool.eq_iff_iff,decide_eq_true_iff,FT h];refine⟨fun h'=>h'.2.1,fun h'=>⟨h65,h',fun e=>ht ?_⟩⟩;injection e with e;have hr:rd t=true:=List.all_eq_true.1 h' t (List.mem_of_getLast? h);obtain⟨q,hq⟩:=Option.isSome_iff_exists.1 hr;rw[hq] at e;have e:q=0:=e;rw[←kV hq,e,RX]
theorem FW:vl []=true:=by decide
theorem dD (ls:List (List UInt8)):(aE ls).length=ls.length:=List.length_map _
def r8 (w:World) (ls:List (List UInt8)) (e:Ending) (w':World):Prop:=
 ∃v',e= .returned (.tuple #[v',.bool (vl ls)])∧(vl ls=true→∃g,v'= .slice (some ⟨g,0,none⟩) ls.length ls.length∧w.heap.size≤g∧OwnR w' g (aE ls))∧Below w.heap.size w w'
theorem yI (ls:List (List UInt8)) (v:Value) (w:World) (hG:Glob w) (hv:StrsAt w v ls) (hl:ls.length≤1073741824) (hll:ls.length≤65→∀l∈ls,l.length≤1073741824):
  Calls Tryz.prog 73 #[v] w (r8 w ls):=by
 obtain⟨A,c,rfl,hc⟩:=hv.form;go_enter Tryz.func73,Tryz.ntmps73;go_wp2_with fail;refine(tR ls.length c A _ hl).mono ?_;rintro e3 w3 ⟨rfl,rfl⟩;by_cases h65:ls.length≤65
 ·have hd:decide (ls.length≤65)=true:=decide_eq_true h65;rw[hd];clear hd;have hra:=EG ls (.slice A ls.length c) w3 hG hv hl (hll h65);by_cases h0:ls.length=0
  ·have hn:ls=[]:=List.eq_nil_of_length_eq_zero h0;have HV:Hid (vl ls=ls.all rd):=by unfold Hid;rw[hn,FW];rfl
   have h0':¬0<ls.length:=by omega
   clear hn h0;go_wp2_with fail;refine hra.mono ?_;rintro e4 w4 ⟨v4,rfl,h4,hb4⟩;go_wp2_with fail;go_ret2;unfold r8;rw[HV.out];exact⟨_,rfl,h4,hb4⟩
  ·obtain⟨m,hm⟩:∃m,ls.length=m+1:=⟨ls.length-1,by omega⟩;have h0':0<ls.length:=by omega
   have e1:(ls.length:Int)-1=(m:Int):=by omega
   have i0:(0:Int)≤(m:Int):=by omega
   have i1:(m:Int)<(ls.length:Int):=by omega
   obtain⟨t,ht⟩:∃t,ls[m]? =some t:=⟨_,List.getElem?_eq_getElem (by omega)⟩;obtain⟨b,off,rfl,hbl,g0⟩:=hv.at_ ht;have hla:ls.getLast?=some t:=by rw[List.getLast?_eq_getElem?,hm];exact ht
   by_cases hz:t=[48]
   ·have HV:Hid (vl ls=false):=RY (by rw[hla,hz]);subst hz;clear hra hla ht hm h0;go_wp2_with fail;go_ret2;unfold r8;rw[HV.out];exact⟨_,rfl,(fun h=>by cases h),Below.refl _ _⟩
   ·have HV:Hid (vl ls=ls.all rd):=RZ h65 hla hz;have hne:(t==[48])=false:=beq_eq_false_iff_ne.2 hz;clear hla ht hm h0 hz;go_wp2_with fail;refine hra.mono ?_;rintro e4 w4 ⟨v4,rfl,h4,hb4⟩;go_wp2_with fail;go_ret2;unfold r8;rw[HV.out];exact⟨_,rfl,h4,hb4⟩
 ·have hd:decide (ls.length≤65)=false:=decide_eq_false h65;have HV:Hid (vl ls=false):=FU h65;rw[hd];clear hd;go_wp2_with fail;go_ret2;unfold r8;rw[HV.out];exact⟨_,rfl,(fun h=>by cases h),Below.refl _ _⟩
theorem TH {a m k:Nat} (h:1000000000^k*m≤a) (hm:0<m):k≤3*nl a:=by
 have h1:=bG a;have h2:1000000000^k*1≤1000000000^k*m:=Nat.mul_le_mul_left _ hm;have h3:(2^29)^k≤1000000000^k:=Nat.pow_le_pow_left (by decide) k;have h4:BN^nl a=2^(64*nl a):=by rw[Nat.pow_mul];rfl
 rw[←Nat.pow_mul] at h3;have h5:2^(29*k)<2^(64*nl a):=by omega
 have:=(Nat.pow_lt_pow_iff_right (a:=2) (by decide)).1 h5;omega
theorem Mg.grown {w w':World} {v:Value} {n:Nat} {row:Option Nat} (h:Mg w v n) (hg:w.grownBy w' row) (hne:∀g,row=some g→v.ownBlock≠some g):Mg w' v n:=by
 obtain⟨ds,⟨A,c,rfl,hc,hd,h⟩,h2,h3⟩:=h;refine⟨ds,⟨A,c,rfl,hc,hd,?_⟩,h2,h3⟩;rcases h with h|⟨b,rfl,hl,hB⟩
 ·exact .inl h
 ·refine .inr ⟨b,rfl,Nat.lt_of_lt_of_le hl hg.size,fun i d hi=> ?_⟩;exact(World.cell?_of_block (w:=w) (w':=w') (a:=⟨b,i,none⟩) (hg.block b hl (fun e=>hne b e.symm (by simp[Value.ownBlock])))).trans (hB i d hi)
def PtAt (w:World) (B:Nat) (v:Value) (ps:List Nat):Prop:=w.ownsRow B 170 1 v ps.length (U ps)
theorem PtAt.lt {w:World} {B:Nat} {v:Value} {ps:List Nat} (h:PtAt w B v ps):∀g,v.ownBlock=some g→B≤g∧g<w.heap.size:=World.ownsRow.lt h
theorem PtAt.below {w w':World} {B:Nat} {v:Value} {ps:List Nat} (h:PtAt w B v ps) (hb:Below w.heap.size w w'):PtAt w' B v ps:=by
 refine World.ownsRow.kept h (oM hb none) ?_;cases v.ownBlock with
 |none=>exact .inl rfl
 |some g=>exact .inr (by simp)
theorem PtAt.more {w w':World} {B r:Nat} {v v':Value} {ps:List Nat} {o:Obj} (ho:w'.ownsRow B 170 1 v' (ps.length+1) (U ps++[.int .u32 (r:Int)])) (hg:(w.alloc o).grownBy w' v.ownBlock) (hat:v'.ownBlock=v.ownBlock∨v'.ownBlock=some (w.alloc o).heap.size):
  PtAt w' B v' (ps++[r])∧TxtTo w v w' v':=by
 refine⟨by unfold PtAt;rw[List.length_append,show U (ps++[r])=U ps++[.int .u32 (r:Int)] by unfold U;rw[List.map_append];rfl];exact ho,⟨hg.os,hg.tape,hg.output,Nat.le_trans (by simp) hg.size,fun i hi hne=>(hg.block i (by simp;omega) hne).trans (Below.heap_alloc w o i hi)⟩,fun g e=> ?_⟩;rcases hat with h|h
 ·left;rw[←h];exact e
 ·right;rw[h] at e;simp at e;omega
def GP (w:World) (l:List UInt8) (e:Ending) (w':World):Prop:=e= .returned (.string ⟨l.toArray⟩)∧Below w.heap.size w w'
theorem GQ (x:Int) (vx:Value) (w:World) (hx:NI w vx x) (lx:nl x.natAbs≤1099511627776):
  Calls Tryz.prog 123 #[vx] w (GP w (Lib.decDigits x.natAbs)):=by
 obtain⟨s,A,k,c,rfl⟩:=hx.form;have hk:=hx.words.len.1;obtain⟨W,eW,hb,XB⟩:=bA w [.bool s,.slice A k c] 94;have cM:=XB.k2;clear XB;have hm:=(hx.below hb).words;have ho:∀g,(Value.slice A k c).ownBlock=some g→k≠0→g<w.heap.size:=fun g hg h0=>by
  obtain⟨ds,⟨A',c',e,hc,hd,h⟩,h2,h3⟩:=hx.words;simp only[Value.slice.injEq] at e;obtain⟨rfl,rfl,rfl⟩:=e;rcases h with h|⟨b,rfl,hl,hB⟩
  ·rw[h] at h0;exact absurd rfl h0
  ·simp[Value.ownBlock] at hg;omega
 generalize x.natAbs=a at *;by_cases h0:a=0
 ·have hk0:k=0:=hk.2 h0;subst h0;subst hk0;rw[show Lib.decDigits 0=[48] from xG];clear hk hm hx ho;go_enter Tryz.func123,Tryz.ntmps123;go_wp2_with fail;go_ret;exact⟨rfl,hb⟩
 ·have hk1:k≠0:=fun e=>h0 (hk.1 e);have q0:((k:Int)==0)=false:=by simpa using hk1
  have ho1:=fun g hg=>ho g hg hk1;have H0:=Lib.hid h0;clear hk ho h0 hk1 hx;go_enter Tryz.func123,Tryz.ntmps123;go_wp2_with fail;(try rw[eW]);clear eW;go_loopg [3,4] a (fun g s3 s4 wr=>∃(ps:List Nat) (A:Option Addr) (k c m:Nat),Hid (m≤g)∧s4= .slice A k c∧PtAt wr w.heap.size s3 ps∧Mg wr s4 m∧Hid (fN ps+1000000000^ps.length*m=a)∧(∀p∈ps,p<1000000000)∧Hid (∀g,s3.ownBlock=some g→(Value.slice A k c).ownBlock≠some g)∧Hid (∀g,(Value.slice A k c).ownBlock=some g→g<wr.heap.size)∧nl m≤1099511627776∧ps.length≤3298534883329∧Below w.heap.size w wr)
  case atStart=>exact⟨[],A,k,c,a,Nat.le_refl _,rfl,World.ownsRow_nil _ _ _ _,hm,by unfold Hid;simp[fN],(fun p hp=>by cases hp),(fun g hg=>by simp[Value.ownBlock] at hg),(fun g hg=>Nat.lt_of_lt_of_le (ho1 g hg) hb.size),lx,by simp,hb⟩
  case round=>
   clear hm hb ho1;obtain⟨ps,A,k,c,m,HG,rfl,hP,hm,HV,hps,HA,HO,lm,hpl,hb⟩:=hrel;generalize wr=wx at *;have hk:=hm.len.1;by_cases h0:m=0
   ·have hk0:k=0:=hk.2 h0;subst hk0;have hv:fN ps=a:=by have:=HV.out;rw[h0,Nat.mul_zero,Nat.add_zero] at this;exact this
    have hD:=Ds.row hP rfl (fun p hp=>Nat.lt_trans (hps p hp) (by decide));obtain⟨AP,cP,rfl,hcP⟩:=hD.form;have HVV:=Lib.hid hv;clear hk hv hP hm HV HA HO HG h0;go_wp2_with fail;go_loopg [7,8] ps.length (fun k s7 s8 wr=>∃i:Int,Hid (i+1=k)∧s8= .int .i64 i∧ -1≤i∧i<ps.length∧TxtAt wr wx.heap.size s7 (dz (fN (ps.drop k)))∧Below wx.heap.size wx wr)
    case atStart=>exact⟨(ps.length:Int)-1,by unfold Hid;omega,rfl,by omega,by omega,by rw[List.drop_length];exact World.ownsRow_nil _ _ _ _,Below.refl _ _⟩
    case round=>
     obtain⟨i,HI,rfl,hi1,hi2,hT,hbt⟩:=hrel;generalize wr=wy at *;cases gk with
     |zero=>
      have hi:¬0≤i:=by have:=HI.out;omega
      have hst:=hT.str;have hdz:dz (fN (ps.drop 0))=Lib.decDigits a:=by rw[List.drop_zero,HVV.out];unfold dz;rw[if_neg H0.out]
      rw[hdz] at hst;have HDZ:=Lib.hid hdz;clear hdz;go_wp2_with fail;go_ret;exact⟨rfl,aB hb hbt⟩
     |succ k=>
      have hik:i=(k:Int):=by have:=HI.out;omega
      subst hik;obtain⟨p,hp⟩:∃p,ps[k]? =some p:=⟨_,List.getElem?_eq_getElem (by omega)⟩;have hp9:=hps p (List.mem_of_getElem? hp);obtain⟨gp,rfl,hgl,gp0⟩:=hD.at_ hp;have hcl:=fun (W:World) (hb:Below wx.heap.size wx W)=>(hb.cell (p:=⟨gp,k,none⟩) hgl).trans gp0;have hVp:=TK hp;have hle:=TM ps k;rw[hVp,HVV.out] at hle;have HVP:=Lib.hid hVp;clear hVp hp gp0;generalize fN (ps.drop (k+1))=V at *;go_wp2_with fail;go_loopg [7,9] 9 (fun m s7 s9 wr=>∃j,Hid (j+m=9)∧s9= .int .u32 (tn j:Int)∧TxtAt wr wx.heap.size s7 (dz (V*10^j+p/10^(9-j)))∧Below wx.heap.size wx wr)
      case atStart=>exact⟨0,by unfold Hid;omega,rfl,by rw[Nat.pow_zero,Nat.mul_one,Nat.div_eq_of_lt (show p<10^(9-0) by simpa using hp9),Nat.add_zero];exact hT,hbt⟩
      case round=>
       clear hT hbt;obtain⟨j,HJ,rfl,hT,hbt⟩:=hrel;generalize wr=wz at *;cases gk with
       |zero=>
        have hj:j=9:=HJ.out;subst hj;rw[show V*10^9+p/10^(9-9)=fN (ps.drop k) by rw[HVP.out,Nat.sub_self,Nat.pow_zero,Nat.div_one,Nat.mul_comm,Nat.add_comm]] at hT;have t9:((tn 9:Nat):Int)=0:=rfl;go_wp2_with fail;go_roundg k
        case rel=>exact⟨(k:Int)-1,by unfold Hid;omega,by go_num,by omega,by omega,hT,hbt⟩
        case measure=>omega
       |succ m=>
        have hj8:j≤8:=by have:=HJ.out;omega
        obtain⟨t1,t2,t3⟩:=TO hj8;have hst:=TQ (v:=V) (p:=p) hj8;have he:p/tn j%10<10:=Nat.mod_lt _ (by decide);have hdz:=TI (v:=V*10^j+p/10^(9-j)) he;rw[←hst] at hdz;have gp1:=hcl wz hbt;have HDZ:=Lib.hid hdz;have T1:=Lib.hid t1;clear hst hdz t1;have hv1:V*10^j+p/10^(9-j)≤a:=by
         have h1:V*10^j≤V*10^9:=Nat.mul_le_mul_left _ (Nat.pow_le_pow_right (by decide) (by omega));have h2:=Nat.div_le_self p (10^(9-j));omega
        generalize V*10^j+p/10^(9-j)=v at *;have hL:(dz v).length≤21990232555541:=by
         unfold dz;split
         ·simp
         ·have:=tT v _ (aX hv1);omega
        have hLv:(dz v).length=0↔v=0:=by
         unfold dz;split
         ·simp[*]
         ·have h1:=Lib.decDigits_length v;have h2:=Lib.nDigits_pos v;omega
        have hpd:p/tn j≤p:=Nat.div_le_self _ _;have x1:(p:Int)/((tn j:Nat):Int)=((p/tn j:Nat):Int):=(Int.natCast_ediv _ _).symm;have x2:((p/tn j:Nat):Int)%10=((p/tn j%10:Nat):Int):=(Int.natCast_emod _ _).symm;have hc:((UInt8.ofNat (48+p/tn j%10)).toNat:Int)=48+((p/tn j%10:Nat):Int):=by rw[qF he];rfl
        obtain⟨Ao,co,rfl⟩:=hT.slice;have hlt:=hT.lt;generalize p/tn j%10=e at *;generalize p/tn j=pd at *;have x3:decide (0<tn j)=true:=by simpa using t2
        generalize tn j=D at *;generalize hLL:dz v=L at *;have HC:=Lib.hid hc;clear hc;have HLV:=Lib.hid hLv;have HLL:=Lib.hid hLL;clear hLv hLL hle hv1;by_cases hz:v=0∧e=0
        ·have hd2:=HDZ.out;rw[if_pos hz] at hd2;have HD2:=Lib.hid hd2;have hl0:L=[]:=List.eq_nil_of_length_eq_zero (HLV.out.2 hz.1);obtain⟨-,rfl⟩:=hz;subst hl0;clear hd2 HDZ HC;go_wp2_with fail;go_roundg m
         case rel=>exact⟨j+1,by have:=HJ.out;unfold Hid;omega,by rw[←T1.out];rfl,by rw[HD2.out];exact hT,hbt⟩
         case measure=>omega
        ·have hd2:=HDZ.out;rw[if_neg hz] at hd2;have HD2:=Lib.hid hd2;have hor:decide (0<L.length)=true∨decide (0<L.length)=false∧((48:Int)+(e:Int) != 48)=true:=by
          by_cases h:L.length=0
          ·exact .inr ⟨by rw[decide_eq_false_iff_not];omega,by rw[bne_iff_ne];have:=HLV.out.1 h;omega⟩
          ·exact .inl (by rw[decide_eq_true_iff];omega)
         have hT2:wz.ownsRow wx.heap.size 5 1 (.slice Ao L.length co) L.length (Lib.byteCells L):=hT;have hxs:=hbt.size;clear hd2 HDZ hz;rcases hor with r1|⟨r1,r2⟩
         all_goals (
          go_wp2_with (at_builtin;refine eJ rfl rfl 5 _ 1 1 Tryz.underlying137 jU rfl (by decide) wx.heap.size (.slice Ao L.length co) L.length _ rfl (hT2.alloc _) [.int .u8 (48+(e:Int))] rfl (by simp) (iD _ _ _) (by simp[Value.oneCell']) (by omega) (by omega) (by simp;omega) ?_;intro q1 w6 ho1 hg1 hat1);rw[←HC.out] at ho1;obtain⟨hT6,hTT⟩:=TxtAt.more (bs:=L) (l:=[UInt8.ofNat (48+e)]) ho1 hg1 hat1;have hb6:=hTT.belowB (B:=wx.heap.size) hbt.size (fun g h=>(hlt g h).1);go_wp2_with fail;go_roundg m
          case rel=>exact⟨j+1,by have:=HJ.out;unfold Hid;omega,by rw[←T1.out];rfl,by rw[HD2.out];exact hT6,hbt.trans hb6⟩
          case measure=>omega)
   ·have hd:decide (0<k)=true:=by have:=fun e=>h0 (hk.1 e);simp;omega
    have hl9:=TH (a:=a) (by have:=HV.out;omega:1000000000^ps.length*m≤a) (by omega);clear hk;go_wp2_with fail;have hsd:Calls Tryz.prog 165 #[.slice A k c,.int .u32 1000000000] wx (GA wx m 1000000000):=GB m 1000000000 _ wx hm lm (by decide) (by decide);refine hsd.mono ?_;rintro e1 w1 ⟨v1,rfl,h1,hf,hb1⟩;obtain⟨A1,k1,c1,rfl⟩:=h1.form;have hP1:=hP.below hb1;have hP2:w1.ownsRow w.heap.size 170 1 u3 ps.length (U ps):=hP1;have hbw:=aB hb hb1;have hr:m%1000000000<1000000000:=Nat.mod_lt _ (by decide);have hmd:m/1000000000<m:=Nat.div_lt_self (by omega) (by decide);have hdm:=Nat.mod_add_div m 1000000000;have hlm:nl (m/1000000000)≤nl m:=aX (by omega);have hla:=hl9;clear hsd hd;generalize m%1000000000=r at *;generalize m/1000000000=q at *;have hbz:=hb1.size;have hbs:=hb.size;go_wp2_with (at_builtin;refine eJ rfl rfl 170 _ 1 4 Tryz.underlying92 nC rfl (by decide) w.heap.size u3 ps.length _ rfl (hP2.alloc _) [.int .u32 (r:Int)] rfl (by simp) (iD _ _ _) (by simp[Value.oneCell']) (by omega) (by omega) (by simp;omega) ?_;intro q1 w6 ho1 hg1 hat1);obtain⟨hP6,hT6⟩:=PtAt.more ho1 hg1 hat1;have hu:=hP1.lt;have ha1:∀g,u3.ownBlock=some g→(Value.slice A1 k1 c1).ownBlock≠some g:=fun g h e=>by
     have:=(hf g e).1;have:=(hP.lt g h).2;omega
    have hm6:Mg w6 (.slice A1 k1 c1) q:=h1.grown hT6.1 ha1;have hb6:=hT6.belowB (B:=w.heap.size) hbw.size (fun g h=>(hu g h).1);have HA6:Hid (∀g,q1.ownBlock=some g→(Value.slice A1 k1 c1).ownBlock≠some g):=fun g h e=>by
     rcases hT6.2 g h with h2|h2
     ·exact ha1 g h2 e
     ·have:=(hf g e).2;omega
    have HO6:Hid (∀g,(Value.slice A1 k1 c1).ownBlock=some g→g<w6.heap.size):=fun g h=>Nat.lt_of_lt_of_le (hf g h).2 hT6.1.size;have HV6:Hid (fN (ps++[r])+1000000000^(ps++[r]).length*q=a):=by
     unfold Hid;rw[TJ,List.length_append,List.length_singleton,Nat.pow_succ,←HV.out,←hdm,Nat.mul_add];grind
    obtain⟨g,rfl⟩:∃g,gk=g+1:=⟨gk-1,by have:=HG.out;omega⟩;go_wp2_with fail;go_roundg g
    case rel=>exact⟨ps++[r],A1,k1,c1,q,by have:=HG.out;unfold Hid;omega,rfl,hP6,hm6,HV6,(fun p hp=>by
     rcases List.mem_append.1 hp with hp|hp
     ·exact hps p hp
     ·rw[List.mem_singleton.1 hp];exact hr),HA6,HO6,by omega,by rw[List.length_append,List.length_singleton];omega,hbw.trans hb6⟩
    case measure=>omega
end Go.Proofs.YtlojjipfnejbnaaGreatDoor
