/-
  Contracts of functions that the statement reaches, and plain laws: NumT, NumU, RefA, RefP, RefB, WhoA, WhoB, BasA, BasB, UniK, ArP, WhoC, TraP, KeepA, RowJ, PlusA, PlusB.
-/
import Derived.Test.YtbhplgdbfmifkaaGreatDoorI19
import Derived.Test.YtbhplgdbfmifkaaGreatDoorI25
import Derived.Test.YtbhplgdbfmifkaaGreatDoorI26
import Derived.Test.YtbhplgdbfmifkaaGreatDoorI29
import Derived.Test.YtbhplgdbfmifkaaGreatDoorI31
import Derived.Test.YtbhplgdbfmifkaaGreatDoorI33
import Derived.Test.YtbhplgdbfmifkaaGreatDoorI34
import Derived.Test.YtbhplgdbfmifkaaGreatDoorI35
set_option linter.unusedVariables false
set_option linter.unusedSimpArgs false
set_option maxHeartbeats 8000000
set_option maxRecDepth 100000
namespace Go.Proofs.YtbhplgdbfmifkaaGreatDoor
open Go.RowKit Sos
abbrev R4 (w:World) (b o:Nat) (v0 v1 v2 v3:Value):Prop:=w.cell? ⟨b,o,none⟩=some v0∧w.cell? ⟨b,o+1,none⟩=some v1∧w.cell? ⟨b,o+2,none⟩=some v2∧w.cell? ⟨b,o+3,none⟩=some v3
def QRow (w:World) (rows:List (List Value)) (qs:List Rat):Prop:=∀(i:Nat) (q:Rat),qs[i]? =some q→∃s A l c s' A' l' c',rows[i]? =some [Value.bool s,Value.slice A l c,Value.bool s',Value.slice A' l' c']∧NQ w (.agg #[.bool s,.slice A l c,.bool s',.slice A' l' c']) q
def QsAt (w:World) (v:Value) (qs:List Rat):Prop:=∃A c,v= .slice A qs.length c∧qs.length≤c∧(A=none∧qs=[]∨∃b rows,A=some ⟨b,0,none⟩∧Rw w b 4 rows 78∧qs.length≤rows.length∧QRow w rows qs)
def OwnQ (w:World) (b:Nat) (qs:List Rat):Prop:=∃rows,Rw w b 4 rows 78∧qs.length≤rows.length∧QRow w rows qs
def pO (g:Nat) (w W:World):Prop:=KM w W∧jJ g w W
theorem KM.put {w:World} {p:Addr} {c:Value} (hp:w.cell? p=some c) (hc:NoInt c) (v:Value):KM w (w.setCell p v):=
 ⟨by simp,fun q k x hq=>by
  rw[World.cell?_setCell_other _ _ _ _ ?_,hq];rintro rfl;rw[hp] at hq;injection hq with hq;exact absurd hq (hc _ _)⟩
section
variable {w w':World} {b:Nat} {qs:List Rat} {v:Value} {rows:List (List Value)}
theorem QRow.keep (h:QRow w rows qs) (hk:KM w w'):QRow w' rows qs:=fun i q hi=>by
 obtain⟨s,A,l,c,s',A',l',c',h1,h2⟩:=h i q hi;exact⟨s,A,l,c,s',A',l',c',h1,h2.keep hk⟩
theorem QRow.take (h:QRow w rows qs) (m:Nat):QRow w rows (qs.take m):=fun i q hi=>by
 rw[List.getElem?_take] at hi;split at hi
 ·exact h i q hi
 ·cases hi
theorem QsAt.below (h:QsAt w v qs) (hb:Below w.heap.size w w'):QsAt w' v qs:=by
 obtain⟨A,c,hv,hc,h⟩:=h;refine⟨A,c,hv,hc,?_⟩;rcases h with h|⟨b,rows,e,hr,hl,hi⟩
 ·exact .inl h
 ·exact .inr ⟨b,rows,e,hr.below hb,hl,hi.keep (KM.below hb)⟩
theorem QsAt.drew (h:QsAt w v qs):QsAt w.drew v qs:=h.below (Below.refl _ _).drew
theorem QsAt.step {A:Option Addr} {l c g:Nat} (h:QsAt w (.slice A l c) qs) (hs:pO g w w') (hne:∀b,A=some ⟨b,0,none⟩→b≠g):QsAt w' (.slice A l c) qs:=by
 obtain⟨A',c',e,hc,h⟩:=h;refine⟨A',c',e,hc,?_⟩;simp only[Value.slice.injEq] at e;obtain⟨rfl,rfl,rfl⟩:=e;rcases h with h|⟨b,rows,e,hr,hl,hi⟩
 ·exact .inl h
 ·exact .inr ⟨b,rows,e,⟨(hs.2.2.1 b (hne b e)).trans hr.1,hr.2⟩,hl,hi.keep hs.1⟩
theorem QsAt.nil (w:World):QsAt w (.slice none 0 0) []:=⟨none,0,rfl,Nat.le_refl _,.inl ⟨rfl,rfl⟩⟩
theorem QsAt.form (h:QsAt w v qs):∃A c,v= .slice A qs.length c∧qs.length≤c:=by
 obtain⟨A,c,hv,hc,_⟩:=h;exact⟨A,c,hv,hc⟩
theorem QsAt.cut {A:Option Addr} {c l:Nat} (h:QsAt w (.slice A l c) qs) (m:Nat) (hm:m≤qs.length):QsAt w (.slice A m c) (qs.take m):=by
 obtain⟨A',c',e,hc,h⟩:=h;simp only[Value.slice.injEq] at e;obtain⟨rfl,rfl,rfl⟩:=e;refine⟨A,c,by rw[List.length_take,Nat.min_eq_left hm],by rw[List.length_take];omega,?_⟩;rcases h with ⟨h,h'⟩|⟨b,rows,e,hr,hl,hi⟩
 ·exact .inl ⟨h,by rw[h'];simp⟩
 ·exact .inr ⟨b,rows,e,hr,by rw[List.length_take];omega,hi.take m⟩
theorem OwnQ.lt (h:OwnQ w b qs):b<w.heap.size:=by
 obtain⟨rows,hr,_⟩:=h;exact hr.lt
theorem OwnQ.below (h:OwnQ w b qs) (hb:Below w.heap.size w w'):OwnQ w' b qs:=by
 obtain⟨rows,hr,hl,hi⟩:=h;exact⟨rows,hr.below hb,hl,hi.keep (KM.below hb)⟩
theorem OwnQ.drew (h:OwnQ w b qs):OwnQ w.drew b qs:=h.below (Below.refl _ _).drew
theorem OwnQ.step {g:Nat} (h:OwnQ w b qs) (hs:pO g w w') (hne:b≠g):OwnQ w' b qs:=by
 obtain⟨rows,hr,hl,hi⟩:=h;exact⟨rows,⟨(hs.2.2.1 b hne).trans hr.1,hr.2⟩,hl,hi.keep hs.1⟩
theorem OwnQ.nums (h:OwnQ w b qs) (c:Nat) (hc:qs.length≤c):QsAt w (.slice (some ⟨b,0,none⟩) qs.length c) qs:=by
 obtain⟨rows,hr,hl,hi⟩:=h;exact⟨_,c,rfl,hc,.inr ⟨b,rows,rfl,hr,hl,hi⟩⟩
theorem OwnQ.free (h:OwnQ w b qs) (j:Nat):w.frozen? ⟨b,j,none⟩=false:=by
 obtain⟨rows,hr,_⟩:=h;exact hr.free j
theorem OwnQ.at_ (h:OwnQ w b qs) {i:Nat} {q:Rat} (hi:qs[i]? =some q):
  ∃s B m d s' B' m' d',R4 w b (i*4) (.bool s) (.slice B m d) (.bool s') (.slice B' m' d')∧NQ w (.agg #[.bool s,.slice B m d,.bool s',.slice B' m' d']) q:=by
 obtain⟨rows,hr,hl,hir⟩:=h;obtain⟨s,B,m,d,s',B',m',d',h1,h2⟩:=hir i q hi;exact⟨s,B,m,d,s',B',m',d',⟨hr.cell 0 h1 rfl,hr.cell 1 h1 rfl,hr.cell 2 h1 rfl,hr.cell 3 h1 rfl⟩,h2⟩
theorem QsAt.at_ {A:Option Addr} {c l:Nat} (h:QsAt w (.slice A l c) qs) {i:Nat} {q:Rat} (hi:qs[i]? =some q):
  ∃b s B m d s' B' m' d',A=some ⟨b,0,none⟩∧b<w.heap.size∧R4 w b (i*4) (.bool s) (.slice B m d) (.bool s') (.slice B' m' d')∧NQ w (.agg #[.bool s,.slice B m d,.bool s',.slice B' m' d']) q:=by
 obtain⟨A',c',e,hc,h⟩:=h;simp only[Value.slice.injEq] at e;obtain⟨rfl,rfl,rfl⟩:=e;rcases h with ⟨-,h⟩|⟨b,rows,e,hr, -,hir⟩
 ·rw[h] at hi;simp at hi
 ·obtain⟨s,B,m,d,s',B',m',d',h1,h2⟩:=hir i q hi;exact⟨b,s,B,m,d,s',B',m',d',e,hr.lt,⟨hr.cell 0 h1 rfl,hr.cell 1 h1 rfl,hr.cell 2 h1 rfl,hr.cell 3 h1 rfl⟩,h2⟩
theorem OwnQ.stored (h:OwnQ w b qs) {i:Nat} (hi:i<qs.length) {s s':Bool} {A A':Option Addr} {l c l' c':Nat} {q:Rat} (hn:NQ w (.agg #[.bool s,.slice A l c,.bool s',.slice A' l' c']) q):
  let W:=(((w.setCell ⟨b,i*4,none⟩ (.bool s)).setCell ⟨b,i*4+1,none⟩ (.slice A l c)).setCell ⟨b,i*4+2,none⟩ (.bool s')).setCell ⟨b,i*4+3,none⟩ (.slice A' l' c')
  OwnQ W b (qs.set i q)∧pO b w W:=by
 obtain⟨rows,hr,hl,hir⟩:=h;obtain⟨s1,A1,l1,c1,s2,A2,l2,c2,h1,h2⟩:=hir i qs[i] (List.getElem?_eq_getElem hi);have hlt:i<rows.length:=by omega
 have r1:=hr.set 0 h1 (by omega) (.bool s);have g1:(rows.set i ([Value.bool s1,.slice A1 l1 c1,.bool s2,.slice A2 l2 c2].set 0 (.bool s)))[i]? =some [.bool s,.slice A1 l1 c1,.bool s2,.slice A2 l2 c2]:=by rw[List.getElem?_set_self hlt];rfl
 have r2:=r1.set 1 g1 (by omega) (.slice A l c);rw[List.set_set] at r2;have g2:(rows.set i ([Value.bool s,.slice A1 l1 c1,.bool s2,.slice A2 l2 c2].set 1 (.slice A l c)))[i]? =some [.bool s,.slice A l c,.bool s2,.slice A2 l2 c2]:=by rw[List.getElem?_set_self hlt];rfl
 have r3:=r2.set 2 g2 (by omega) (.bool s');rw[List.set_set] at r3;have g3:(rows.set i ([Value.bool s,.slice A l c,.bool s2,.slice A2 l2 c2].set 2 (.bool s')))[i]? =some [.bool s,.slice A l c,.bool s',.slice A2 l2 c2]:=by rw[List.getElem?_set_self hlt];rfl
 have r4:=r3.set 3 g3 (by omega) (.slice A' l' c');rw[List.set_set] at r4;have a0:=hr.cell 0 h1 rfl;have a1:=r1.cell 1 g1 rfl;have a2:=r2.cell 2 g2 rfl;have a3:=r3.cell 3 g3 rfl;have hk:=(((KM.put a0 (NoInt.bool _) (.bool s)).trans (KM.put a1 (NoInt.slice _ _ _) (.slice A l c))).trans (KM.put a2 (NoInt.bool _) (.bool s'))).trans (KM.put a3 (NoInt.slice _ _ _) (.slice A' l' c'));refine⟨⟨_,r4,by simpa using hl,fun j m hj=> ?_⟩,hk,(((Keep.put a0 (NoInt.bool _) _).trans (Keep.put a1 (NoInt.slice _ _ _) _)).trans (Keep.put a2 (NoInt.bool _) _)).trans (Keep.put a3 (NoInt.slice _ _ _) _),fun g hg=> ?_,by simp,rfl,rfl,rfl⟩
 ·by_cases e:i=j
  ·subst e;rw[List.getElem?_set_self hi] at hj;injection hj with hj;subst hj;exact⟨s,A,l,c,s',A',l',c',by rw[List.getElem?_set_self hlt];rfl,hn.keep hk⟩
  ·rw[List.getElem?_set_ne e] at hj;obtain⟨a1,a2,a3,a4,a5,a6,a7,a8,k1,k2⟩:=hir j m hj;exact⟨a1,a2,a3,a4,a5,a6,a7,a8,by rw[List.getElem?_set_ne e];exact k1,k2.keep hk⟩
 ·rw[Below.heap_setCell _ ⟨b,i*4+3,none⟩ _ g hg,Below.heap_setCell _ ⟨b,i*4+2,none⟩ _ g hg,Below.heap_setCell _ ⟨b,i*4+1,none⟩ _ g hg,Below.heap_setCell _ ⟨b,i*4,none⟩ _ g hg]
theorem OwnQ.made {n:Nat} (h:Rw w b 4 (List.replicate n [.bool false,.slice none 0 0,.bool false,.slice none 0 0]) 78):OwnQ w b (List.replicate n 0):=
 ⟨_,h,by simp,fun i m hi=>⟨false,none,0,0,false,none,0,0,by
  have:=(List.getElem?_eq_some_iff.1 hi).1;rw[List.length_replicate] at this;rw[List.getElem?_replicate,if_pos this],by
  have:=List.getElem?_replicate (n:=n) (a:=(0:Rat)) (i:=i);rw[hi] at this;split at this
  ·injection this with this;subst this;exact NQ.zero w
  ·cases this⟩⟩
theorem Rw.src {k n:Nat} {t:TypeId} (hr:Rw w b k rows t) (h0:0<k) (hn:n≤rows.length):Src w (some ⟨b,0,none⟩) (rows.take n).flatten:=by
 have hk:∀r∈rows.take n,r.length=k:=fun r h=>hr.2 r (List.mem_of_mem_take h);refine .inr ⟨b,0,rfl,fun j u hu=> ?_⟩;have hj:j<n*k:=by
  have:=(List.getElem?_eq_some_iff.1 hu).1;rw[gK hk,List.length_take,Nat.min_eq_left hn] at this;exact this
 have hd:j/k<n:=by rw[Nat.div_lt_iff_lt_mul h0];exact hj
 obtain⟨r,hri⟩:∃r,(rows.take n)[j/k]? =some r:=⟨_,List.getElem?_eq_getElem (by rw[List.length_take];omega)⟩;have h1:=mS hk hri (Nat.mod_lt j h0);have e:j/k*k+j%k=j:=by rw[Nat.mul_comm];exact Nat.div_add_mod j k
 rw[e,hu] at h1;rw[List.getElem?_take,if_pos hd] at hri;have:=hr.cell (j%k) hri h1.symm;rw[e] at this;rw[Nat.zero_add];exact this
theorem GW {base n:Nat} (h:w.ownsRow base 78 4 v n rows.flatten) (hk:∀r∈rows,r.length=4) (hn:rows.length=n) (hqs:qs.length=n) (hi:QRow w rows qs):
  QsAt w v qs∧(v= .slice none 0 0∨∃g cap,v= .slice (some ⟨g,0,none⟩) n cap∧base≤g∧OwnQ w g qs):=by
 rcases h.2 with ⟨rfl,h'⟩|⟨g,cap,cur,rfl,hb,hg,hc,hm,hs,ht⟩
 ·obtain rfl:qs=[]:=List.eq_nil_of_length_eq_zero (by omega);exact⟨QsAt.nil w,.inl rfl⟩
 ·obtain⟨rows',h1,h2,h3⟩:=uY 4 cap cur.toList (by simpa using hs);have hO:OwnQ w g qs:=by
   refine⟨rows',⟨by unfold Bx;rw[hg,h2],h3⟩,by omega,fun i m hm'=> ?_⟩;obtain⟨s,A,l,c,s',A',l',c',e1,e2⟩:=hi i m hm';refine⟨s,A,l,c,s',A',l',c',?_,e2⟩;have hin:i<n:=by rw[←hqs];exact(List.getElem?_eq_some_iff.1 hm').1
   obtain⟨r',hr'⟩:∃r',rows'[i]? =some r':=⟨_,List.getElem?_eq_getElem (by omega)⟩;rw[hr'];congr 1;have hl':=h3 r' (List.mem_of_getElem? hr');refine List.ext_getElem? (fun j=> ?_);by_cases hj:j<4
   ·rw[←mS h3 hr' hj,←mS hk e1 hj,h2,←ht,List.getElem?_take,if_pos (by omega)]
   ·rw[List.getElem?_eq_none (by omega),List.getElem?_eq_none (by simp;omega)]
  have:=hO.nums cap (by omega);rw[hqs] at this;exact⟨this,.inr ⟨g,cap,rfl,hb,hO⟩⟩
end
section
variable {w:World} {ops:Array Oper} {rest:List Oper} {o:Oper} {a:Act} {Q:Exit→Act→World→Prop}
end
section
variable {a b:World} [u:Up a b]
theorem QsAt.up {v:Value} {qs:List Rat} (h:QsAt a v qs):QsAt b v qs:=h.below u.out
theorem OwnQ.up {g:Nat} {qs:List Rat} (h:OwnQ a g qs):OwnQ b g qs:=h.below u.out
theorem R4.up {g o:Nat} {v0 v1 v2 v3:Value} (h:R4 a g o v0 v1 v2 v3) (hl:g<a.heap.size):R4 b g o v0 v1 v2 v3:=
 ⟨(u.out.cell (p:=⟨g,o,none⟩) hl).trans h.1,(u.out.cell (p:=⟨g,o+1,none⟩) hl).trans h.2.1,(u.out.cell (p:=⟨g,o+2,none⟩) hl).trans h.2.2.1,(u.out.cell (p:=⟨g,o+3,none⟩) hl).trans h.2.2.2⟩
end
theorem R4.old {w w':World} {B g o:Nat} {v0 v1 v2 v3:Value} (h:R4 w g o v0 v1 v2 v3) (hb:Below B w w') (hl:g<B):R4 w' g o v0 v1 v2 v3:=
 ⟨(hb.cell (p:=⟨g,o,none⟩) hl).trans h.1,(hb.cell (p:=⟨g,o+1,none⟩) hl).trans h.2.1,(hb.cell (p:=⟨g,o+2,none⟩) hl).trans h.2.2.1,(hb.cell (p:=⟨g,o+3,none⟩) hl).trans h.2.2.2⟩
def UD (w:World) (v:Value):Prop:=∀g,v.ownBlock=some g→∀cur t f,w.heap[g]? =some (.cells cur t f)→∀y∈cur.toList,NoInt y
def GrowQ (w:World) (base:Nat) (v:Value) (qs:List Rat):Prop:=(∃rows,w.ownsRow base 78 4 v qs.length rows.flatten∧rows.length=qs.length∧(∀r∈rows,r.length=4)∧QRow w rows qs)∧UD w v
theorem GrowQ.nil (w:World) {base:Nat}:GrowQ w base (.slice none 0 0) []:=⟨⟨[],World.ownsRow_nil _ _ _ _,rfl,(fun _ h=>by cases h),(fun i q h=>by simp at h)⟩,fun g h=>by simp[Value.ownBlock] at h⟩
theorem GrowQ.nums {w:World} {base:Nat} {v:Value} {qs:List Rat} (h:GrowQ w base v qs):QsAt w v qs:=by
 obtain⟨⟨rows,h1,h2,h3,h4⟩, -⟩:=h;exact(GW h1 h3 h2 rfl h4).1
theorem GrowQ.below {w w':World} {base:Nat} {v:Value} {qs:List Rat} (h:GrowQ w base v qs) (hb:Below w.heap.size w w'):GrowQ w' base v qs:=by
 obtain⟨⟨rows,h1,h2,h3,h4⟩,hN⟩:=h;have hlt:∀g,v.ownBlock=some g→g<w.heap.size:=fun g e=>by
  rcases h1.2 with ⟨rfl,_⟩|⟨g2,cap,cur,rfl,_,hg,_⟩
  ·simp[Value.ownBlock] at e
  ·simp[Value.ownBlock] at e;subst e;exact(Array.getElem?_eq_some_iff.1 hg).1
 refine⟨⟨rows,⟨h1.1,?_⟩,h2,h3,h4.keep (KM.below hb)⟩,fun g e cur t f hg=>hN g e cur t f ((hb.block g (hlt g e)).symm.trans hg)⟩;rcases h1.2 with h|⟨g2,cap,cur,rfl,hB,hg,h⟩
 ·exact .inl h
 ·exact .inr ⟨g2,cap,cur,rfl,hB,(hb.block g2 (Array.getElem?_eq_some_iff.1 hg).1).trans hg,h⟩
theorem GrowQ.drew {w:World} {base:Nat} {v:Value} {qs:List Rat} (h:GrowQ w base v qs):GrowQ w.drew base v qs:=h.below (Below.refl _ _).drew
theorem GrowQ.up {a b:World} [u:Up a b] {base:Nat} {v:Value} {qs:List Rat} (h:GrowQ a base v qs):GrowQ b base v qs:=h.below u.out
end Go.Proofs.YtbhplgdbfmifkaaGreatDoor
namespace Go.Proofs.YtbhplgdbfmifkaaGreatDoor
open Sos Lib
theorem zV {n d:Int} {K:Nat} (hn:nl n.natAbs≤K) (hd:nl d.natAbs≤K) (h1:1≤K):RL K ((n:Rat)/d):=lF n d K hn hd h1
theorem zW {K:Nat} {q:Rat} (h:RL K q):1≤K:=by
 have h1:=h.2;rcases Nat.eq_zero_or_pos K with h0|h0
 ·subst h0;have:=bX q.den;rw[show nl q.den=0 by omega] at this;have:=q.den_pos;simp at *;omega
 ·exact h0
theorem iB {x y:Rat} {a b:Nat} (hx:RL a x) (hy:RL b y):RL (a+b) (x*y):=by
 rw[←yY];refine zV ?_ ?_ (by have:=zW hx;omega)
 ·rw[Int.natAbs_mul];exact Nat.le_trans (cJ _ _) (Nat.add_le_add hx.1 hy.1)
 ·rw[Int.natAbs_mul];exact Nat.le_trans (cJ _ _) (Nat.add_le_add hx.2 hy.2)
def eP (p:List Rat) (x:Rat):Rat:=p.foldr (fun a s=>s*x+a) 0
def d5 (ns:List Int) (a b:Int):Int:=(ns.foldr (fun c v=>(v.1*a+c*v.2,v.2*b)) ((0:Int),(1:Int))).1
def dR (ns:List Int) (a b:Int):Int:=(ns.foldr (fun c v=>(v.1*a+c*v.2,v.2*b)) ((0:Int),(1:Int))).2
theorem X2 {ns:List Int} {i:Nat} {n:Int} (a b:Int) (h:ns[i]? =some n):d5 (ns.drop i) a b=d5 (ns.drop (i+1)) a b*a+n*dR (ns.drop (i+1)) a b∧dR (ns.drop i) a b=dR (ns.drop (i+1)) a b*b:=by
 obtain⟨hi,rfl⟩:=List.getElem?_eq_some_iff.1 h;rw[List.drop_eq_getElem_cons hi];exact⟨rfl,rfl⟩
theorem X4 (ns:List Int) (a b:Int):dR ns a b=b^ns.length:=by
 induction ns with
 |nil=>simp[dR]
 |cons c ns ih=>show dR ns a b*b=_;rw[ih,List.length_cons,Int.pow_succ]
theorem XA (ns:List Int) (a b:Int) (hb:b≠0):(d5 ns a b:Rat)*b=dR ns a b*eP (ns.map (fun n:Int=>(n:Rat))) (a/b):=by
 have hb':(b:Rat)≠0:=by exact_mod_cast hb
 induction ns with
 |nil=>show((0:Int):Rat)*b=((1:Int):Rat)*0;simp
 |cons c ns ih=>
  have e1:d5 (c :: ns) a b=d5 ns a b*a+c*dR ns a b:=rfl;have e2:dR (c :: ns) a b=dR ns a b*b:=rfl;have e3:eP ((c :: ns).map (fun n:Int=>(n:Rat))) (a/b)=eP (ns.map (fun n:Int=>(n:Rat))) (a/b)*(a/b)+c:=rfl;rw[e1,e2,e3];push_cast;generalize (d5 ns a b:Rat)=v at *;generalize (dR ns a b:Rat)=p at *;generalize eP (ns.map (fun n:Int=>(n:Rat))) (a/b)=s at *;have h3:(v*a+c*p)*b=(v*b)*a+c*p*b:=by grind
  rw[h3,ih];have h4:(a:Rat)=(a/b)*b:=by rw[Rat.div_mul_cancel hb']
  generalize (a:Rat)/b=t at *;rw[h4];grind
end Go.Proofs.YtbhplgdbfmifkaaGreatDoor
namespace Go.Proofs.YtbhplgdbfmifkaaGreatDoor
open Go.RowKit Sos
def kU (p:List Rat):List Rat:=(List.range (p.length-1)).map (fun i=>cf p (i+1)*((i+1:Nat):Rat))
theorem VY (p:List Rat):(kU p).length=p.length-1:=by unfold kU;rw[List.length_map,List.length_range]
theorem oZ (n c:Nat) (A:Option Addr) (w:World) (hn:n≤1099511627776):Calls Tryz.prog 89 #[.slice A n c] w fun e w'=>e= .returned (.int .i64 ((n:Int)-1))∧w'=w:=by
 go_enter Tryz.func89,Tryz.ntmps89;go_wp2;go_ret;exact⟨rfl,rfl⟩
def cA (l:List Int):Nat:=l.foldr (fun n g=>Nat.gcd g n.natAbs) 0
theorem tM:cA []=0:=rfl
theorem jS (n:Int) (l:List Int):cA (n :: l)=Nat.gcd (cA l) n.natAbs:=rfl
theorem OB (l:List Int) (i:Nat):cA l∣cA (l.drop i):=by
 induction l generalizing i with
 |nil=>simp
 |cons n l ih=>
  cases i with
  |zero=>exact Nat.dvd_refl _
  |succ i=>rw[List.drop_succ_cons];exact Nat.dvd_trans (Nat.gcd_dvd_left _ _) (ih i)
theorem tN {l:List Int} {n:Int} (h:n∈l):(cA l:Int)∣n:=by
 induction l with
 |nil=>cases h
 |cons m l ih=>
  rw[jS];rcases List.mem_cons.1 h with rfl|h
  ·exact Int.ofNat_dvd_left.2 (Nat.gcd_dvd_right _ _)
  ·exact Int.dvd_trans (Int.natCast_dvd_natCast.2 (Nat.gcd_dvd_left _ _)) (ih h)
theorem OC {l:List Int} (h:cA l=0):∀n∈l,n=0:=fun n hn=>by
 have:=tN hn;rw[h] at this;exact Int.zero_dvd.1 this
theorem tU {l:List Int} {d:Nat} (h:∀n∈l,(d:Int)∣n):d∣cA l:=by
 induction l with
 |nil=>simp[tM]
 |cons m l ih=>exact Nat.dvd_gcd (ih (fun n hn=>h n (List.mem_cons_of_mem _ hn))) (Int.ofNat_dvd_left.1 (h m (List.mem_cons_self ..)))
theorem tO {l:List Int} {K:Nat} (h:∀n∈l,nl n.natAbs≤K):nl (cA l)≤K:=by
 induction l with
 |nil=>rw[tM,cC];exact Nat.zero_le _
 |cons m l ih=>
  rw[jS];by_cases hm:m.natAbs=0
  ·rw[hm,Nat.gcd_zero_right];exact ih (fun n hn=>h n (List.mem_cons_of_mem _ hn))
  ·exact Nat.le_trans (aX (Nat.le_of_dvd (Nat.pos_of_ne_zero hm) (Nat.gcd_dvd_right _ _))) (h m (List.mem_cons_self ..))
theorem OD {l:List Int} {i:Nat} {n:Int} (h:l[i]? =some n):Nat.gcd (cA (l.drop (i+1))) n.natAbs=cA (l.drop i):=by
 obtain⟨hi,e⟩:=List.getElem?_eq_some_iff.1 h;rw[List.drop_eq_getElem_cons hi,e,jS]
theorem qK (ns:List Int) (v:Value) (w:World) (hG:Glob w) (hv:WholeAt w v ns) (K:Nat) (hK:∀n∈ns,nl n.natAbs≤K) (hK2:5*K+4≤aF) (hl:ns.length≤1099511627776):
  Calls Tryz.prog 56 #[v] w (bW w (cA ns)):=by
 obtain⟨A,c,rfl,hc⟩:=hv.form;have hK3:K≤17592186044416:=by unfold aF at hK2;omega
 have R:Bx ((w.alloc (.cells #[.bool false,.slice none 0 0] 50)).alloc (.cells #[.bool false,.slice none 0 0] 50)) (w.heap.size) [.bool false,.slice none 0 0] 50:=(Bx.newAt w [.bool false,.slice none 0 0] 50 (w.heap.size) (by simp)).alloc (.cells #[.bool false,.slice none 0 0] 50);have C:Bx ((w.alloc (.cells #[.bool false,.slice none 0 0] 50)).alloc (.cells #[.bool false,.slice none 0 0] 50)) (w.heap.size+1) [.bool false,.slice none 0 0] 50:=Bx.newAt (w.alloc (.cells #[.bool false,.slice none 0 0] 50)) [.bool false,.slice none 0 0] 50 (w.heap.size+1) (by simp);have hb:Below w.heap.size w ((w.alloc (.cells #[.bool false,.slice none 0 0] 50)).alloc (.cells #[.bool false,.slice none 0 0] 50)):=((Below.refl _ _).alloc (by simp) _).alloc (by simp<;>omega) _;go_enter Tryz.func56,Tryz.ntmps56;go_wp2_with fail;generalize (w.alloc (.cells #[.bool false,.slice none 0 0] 50)).alloc (.cells #[.bool false,.slice none 0 0] 50)=W at *;have hC:IntBx W (w.heap.size+1) 0:=⟨_,_,_,_,C,IntAt.zero _⟩;clear C;go_loopg [4] ns.length (fun k i wr=>i= .int .i64 ((k:Int)-1)∧k≤ns.length∧IntBx wr (w.heap.size+1) (cA (ns.drop k))∧Bx wr w.heap.size [.bool false,.slice none 0 0] 50∧Below w.heap.size w wr)
 case atStart=>exact⟨by go_num,Nat.le_refl _,by rw[List.drop_length];exact hC,R,hb⟩
 case round=>
  clear hC R hb;obtain⟨rfl,hkl,⟨s,B,l,d,C,hi⟩,R,hb⟩:=hrel;generalize wr=wy at *;have hdn:nl (cA (ns.drop gk))≤K:=tO (fun n hn=>hK n (List.mem_of_mem_drop hn));replace C_0:=C.cell 0 rfl;replace C_f0:=C.free 0;replace C_1:=C.cell 1 rfl;replace C_f1:=C.free 1;replace R_0:=R.cell 0 rfl;replace R_f0:=R.free 0;replace R_1:=R.cell 1 rfl;replace R_f1:=R.free 1;cases gk with
  |zero=>
   go_wp2_with fail;rw[List.drop_zero] at hi;obtain⟨z0,z1, -,hbz,hk⟩:=gE (s:=s) (u:= .slice B l d) hb (by omega) R;have hz:=hi.keep hk;generalize (wy.setCell ⟨w.heap.size,0,none⟩ (.bool s)).setCell ⟨w.heap.size,1,none⟩ (.slice B l d)=W6 at *;exact bodyPost_ret (v:= .agg #[.bool s,.slice B l d]) (by simp[results,Tryz.results56,go_sem,z0,z1]) rfl ⟨_,rfl,hz,hbz⟩
  |succ k=>
   obtain⟨n,hn⟩:∃n,ns[k]? =some n:=⟨_,List.getElem?_eq_getElem (by omega)⟩;have hga:=OD hn;have hkn:=hK n (List.mem_of_getElem? hn);have hone:((cA (ns.drop (k+1)):Nat):Int)=1→cA ns=1:=fun h=>by
    have h1:cA (ns.drop (k+1))=1:=by omega
    have:=OB ns (k+1);rw[h1] at this;exact Nat.dvd_one.1 this
   have HN:=Lib.hid hn;have HGA:=Lib.hid hga;clear hn hga;generalize cA (ns.drop (k+1))=G at *;have hk0:(0:Int)≤(k:Int):=by omega
   go_wp2_with fail;refine(jL _ _ _ hi (by rw[Int.natAbs_natCast];omega)).mono ?_;rintro e1 w1 ⟨rfl,hb1⟩;by_cases h1:(G:Int)=1
   ·have hd:decide ((G:Int)=1)=true:=by simpa using h1
    have HO:=Lib.hid (hone h1);rw[hd];clear hd hone;replace hi:=hi.below hb1;replace C:=C.below hb1;replace C_0:=C.cell 0 rfl;replace C_f0:=C.free 0;replace C_1:=C.cell 1 rfl;replace C_f1:=C.free 1;replace R:=R.below hb1;replace R_0:=R.cell 0 rfl;replace R_f0:=R.free 0;replace R_1:=R.cell 1 rfl;replace R_f1:=R.free 1;replace hk:=Keep.below hb1;replace hb:=aB hb hb1;go_wp2_with fail;have hi2:IntAt w1 (.agg #[.bool s,.slice B l d]) (cA ns:Int):=by rw[HO.out];rw[h1] at hi;exact hi
    clear hi;obtain⟨z0,z1, -,hbz,hk⟩:=gE (s:=s) (u:= .slice B l d) hb (by omega) R;have hz:=hi2.keep hk;generalize (w1.setCell ⟨w.heap.size,0,none⟩ (.bool s)).setCell ⟨w.heap.size,1,none⟩ (.slice B l d)=W6 at *;exact bodyPost_ret (v:= .agg #[.bool s,.slice B l d]) (by simp[results,Tryz.results56,go_sem,z0,z1]) rfl ⟨_,rfl,hz,hbz⟩
   ·have hd:decide ((G:Int)=1)=false:=by simpa using h1
    rw[hd];clear hd hone h1;replace hi:=hi.below hb1;replace C:=C.below hb1;replace C_0:=C.cell 0 rfl;replace C_f0:=C.free 0;replace C_1:=C.cell 1 rfl;replace C_f1:=C.free 1;replace R:=R.below hb1;replace R_0:=R.cell 0 rfl;replace R_f0:=R.free 0;replace R_1:=R.cell 1 rfl;replace R_f1:=R.free 1;replace hk:=Keep.below hb1;replace hb:=aB hb hb1;obtain⟨b,s',B',l',d',rfl,hbl,g0,g1,hi'⟩:=(hv.below hb).at_ HN.out;have hbl1:=hb.size;have hid:=hi.drew;have hid':=hi'.drew;have hCd:IntBx w1.drew (w.heap.size+1) (G:Int):=⟨_,_,_,_,C.drew,hid⟩;have hbd:=hb.drew;have Rd:=R.drew;have hgd:=fun W v u hG h1 h2=>mT (G:Int) n v u W hG h1 h2 K (by rw[Int.natAbs_natCast];exact hdn) hkn hK2;rw[Int.natAbs_natCast,HGA.out] at hgd;have hk1:(k:Int)<(ns.length:Int):=by omega
    clear C_f0 C_f1 R_0 R_1 R_f0 R_f1 R C hb1;go_wp2_with fail
    go_region_with (first
     |(go_at_call 45;(with_reducible refine(hgd _ _ _ (hG.below hbd) hid hid').mono ?_);rintro e2 w2 ⟨v2,rfl,h2,hb2⟩;obtain⟨s2,A2,k2,c2,rfl⟩:=h2.form;replace hCd:=hCd.below hb2;replace Rd:=Rd.below hb2;replace hbd:=aB hbd hb2;obtain⟨s9,B9,l9,d9,C9, -⟩:=id hCd;have C_0:=C9.cell 0 rfl;have C_1:=C9.cell 1 rfl;have C_f0:=C9.free 0;have C_f1:=C9.free 1))
    all_goals (
     go_wp2_with fail;obtain⟨z1,hst⟩:=hCd.stored h2;have zR:Bx _ w.heap.size [.bool false,.slice none 0 0] 50:=(hst.2.1 w.heap.size (by omega)).trans Rd;have zb:=dE hbd hst (by omega);go_roundg k
     case rel=>exact⟨by go_num,by omega,z1,zR,zb⟩
     case measure=>omega)
def bK (ns:List Int) (x:Int):List Int:=ns.map (fun n=>n.tdiv x)
theorem xQ (ns:List Int):bK ns 1=ns:=by
 unfold bK;exact(List.map_congr_left (fun a _=>Int.tdiv_one a)).trans (List.map_id ns)
theorem j9 (ns:List Int) (x:Int):(bK ns x).length=ns.length:=List.length_map _
theorem OE (n x:Int) (K:Nat) (h:nl n.natAbs≤K):nl (n.tdiv x).natAbs≤K:=by
 rw[Int.natAbs_tdiv];exact Nat.le_trans (aX (Nat.div_le_self _ _)) h
theorem n8 {ns:List Int} {x:Int} {K:Nat} (h:∀n∈ns,nl n.natAbs≤K):∀n∈bK ns x,nl n.natAbs≤K:=fun n hn=>by
 unfold bK at hn;obtain⟨m,hm,rfl⟩:=List.mem_map.1 hn;exact OE m x K (h m hm)
theorem p6 (ns:List Int) (x:Int) (v vx:Value) (w:World) (hv:WholeAt w v ns) (hx:IntAt w vx x) (h0:ns≠[]→x≠0) (K:Nat) (hK:∀n∈ns,nl n.natAbs≤K) (hKx:nl x.natAbs≤K) (hK2:5*K+4≤aF) (hl:ns.length≤1099511627776):
  Calls Tryz.prog 118 #[v,vx] w fun e w'=>∃v',e= .returned v'∧WholeAt w' v' (bK ns x)∧Below w.heap.size w w':=by
 unfold aF at hK2;obtain⟨A,c,rfl,hc⟩:=hv.form;obtain⟨sx,Ax,kx,cx,rfl⟩:=hx.form;have B1:Bx (w.alloc (.cells #[.bool sx,.slice Ax kx cx] 50)) (w.heap.size) [.bool sx,.slice Ax kx cx] 50:=Bx.newAt w [.bool sx,.slice Ax kx cx] 50 (w.heap.size) (by simp);have hb:Below w.heap.size w (w.alloc (.cells #[.bool sx,.slice Ax kx cx] 50)):=(Below.refl _ _).alloc (by simp) _;go_enter Tryz.func118,Tryz.ntmps118;go_wp2_with fail;generalize w.alloc (.cells #[.bool sx,.slice Ax kx cx] 50)=W at *;refine(jL x _ _ (hx.below hb) (by omega)).mono ?_;rintro e1 w1 ⟨rfl,hb1⟩;replace B1:=B1.below hb1;replace B1_0:=B1.cell 0 rfl;replace B1_1:=B1.cell 1 rfl;replace hk:=Keep.below hb1;replace hb:=aB hb hb1;clear hb1;by_cases h1:x=1
 ·have hd:decide (x=1)=true:=by simpa using h1
  rw[hd];clear hd;go_wp2_with fail;go_ret;rw[h1,xQ];exact⟨_,rfl,hv.below hb,hb⟩
 ·have hd:decide (x=1)=false:=by simpa using h1
  rw[hd];clear hd h1;have hzl:=j9 ns x;have HZL:=Lib.hid hzl;clear hzl;go_wp2_with (at_make;refine eZ rfl rfl 50 _ 2 32 Tryz.underlying47 jZ rfl (by decide) ns.length rfl rfl rfl rfl (by omega) (by omega) ?_;intro w2 hz2 hr2 hb2);have R0:OwnW w2 w1.heap.size (List.replicate ns.length 0):=OwnW.made hr2;have hbl:=hb.size;have hB1l:w.heap.size<w1.heap.size:=B1.lt;replace B1:=B1.below hb2;replace hb:=aB hb hb2;clear hr2 hz2 hb2;generalize hg:w1.heap.size=g at *;clear hg;go_loopg [16] ns.length (fun k i wr=>∃j,Hid (j+k=ns.length)∧i= .int .i64 j∧OwnW wr g ((bK ns x).take j++List.replicate k 0)∧Bx wr w.heap.size [.bool sx,.slice Ax kx cx] 50∧Below w.heap.size w wr)
  case atStart=>exact⟨0,by unfold Hid;omega,rfl,by simpa using R0,B1,hb⟩
  case round=>
   clear R0 B1 hb;obtain⟨j,HJ,rfl,R,B1,hb⟩:=hrel;generalize wr=wy at *;have hj0:(0:Int)≤(j:Int):=by omega
   cases gk with
   |zero=>
    have hj:j=ns.length:=HJ.out;subst hj;rw[List.replicate_zero,List.append_nil,List.take_of_length_le (by rw[HZL.out];exact Nat.le_refl _)] at R;have hw:=R.whole ns.length (by rw[HZL.out];exact Nat.le_refl _);rw[HZL.out] at hw;go_wp2_with fail;go_ret;exact⟨_,rfl,hw,hb⟩
   |succ k=>
    obtain⟨n,hn⟩:∃n,ns[j]? =some n:=⟨_,List.getElem?_eq_getElem (by have:=HJ.out;omega)⟩;obtain⟨b,s,B,l,d,rfl,hbl',g0,g1,hi⟩:=(hv.below hb).at_ hn;have hkn:=hK n (List.mem_of_getElem? hn);have hx0:x≠0:=h0 (fun e=>by rw[e] at hn;simp at hn);have hj1:(j:Int)<(ns.length:Int):=by have:=HJ.out;omega
    have hym:(bK ns x)[j]? =some (n.tdiv x):=by unfold bK;rw[List.getElem?_map,hn];rfl
    have hfl:=kF (ys:=bK ns x) (z:=(0:Int)) (j:=j) (k:=k+1) (by rw[HZL.out];exact HJ.out);have hfs:=kC (z:=(0:Int)) (k:=k) hym;have hgx:j<((bK ns x).take j++List.replicate (k+1) 0).length:=by rw[hfl,HZL.out];have:=HJ.out;omega
    have HFS:=Lib.hid hfs;clear hym hfl hfs hn;have hxx:=hx.below hb;have hqu:=fun W h1 h2=>iC n x (.agg #[.bool s,.slice B l d]) (.agg #[.bool sx,.slice Ax kx cx]) W h1 h2 hx0 (by omega);unfold bW at hqu;generalize n.tdiv x=y at *;have B1_c10:∀o0:Obj,(wy.alloc o0).cell? ⟨w.heap.size,0,none⟩=some (.bool sx):=fun o0=>(B1.alloc o0).cell 0 rfl;have B1_g10:∀o0:Obj,(wy.alloc o0).frozen? ⟨w.heap.size,0,none⟩=false:=fun o0=>(B1.alloc o0).free 0;have B1_c11:∀o0:Obj,(wy.alloc o0).cell? ⟨w.heap.size,1,none⟩=some (.slice Ax kx cx):=fun o0=>(B1.alloc o0).cell 1 rfl;have B1_g11:∀o0:Obj,(wy.alloc o0).frozen? ⟨w.heap.size,1,none⟩=false:=fun o0=>(B1.alloc o0).free 1;go_wp2_with fail;replace R:=R.alloc (.cells #[.bool s,.slice B l d] 50);have B1_ltwy:=B1.lt;have hszwy:=hb.size;replace B1:=B1.alloc (.cells #[.bool s,.slice B l d] 50);have X:=Bx.newAt wy [.bool s,.slice B l d] 50 (wy.heap.size) (by simp);replace hb:=hb.alloc hb.size (.cells #[.bool s,.slice B l d] 50);replace hk:=Keep.alloc wy (.cells #[.bool s,.slice B l d] 50);replace hi:=hi.keep hk;replace hxx:=hxx.keep hk;generalize wy.alloc (.cells #[.bool s,.slice B l d] 50)=W1 at *;replace B1_0:=B1.cell 0 rfl;replace B1_1:=B1.cell 1 rfl;replace X_0:=X.cell 0 rfl;replace X_1:=X.cell 1 rfl;clear B1_c10 B1_c11 B1_g10 B1_g11 g0 g1;refine(hqu _ hi hxx).mono ?_;rintro e2 w2 ⟨v2,rfl,h2,hb2⟩;obtain⟨s2,A2,k2,c2,rfl⟩:=h2.form;replace R:=R.below hb2;replace B1:=B1.below hb2;replace hb:=aB hb hb2;obtain⟨s',B',l',d',q0,q1, -⟩:=R.at_ (List.getElem?_eq_getElem hgx);have f0:=R.free (j*2);have f1:=R.free (j*2+1);clear hqu;go_wp2_with fail;obtain⟨hp,hst⟩:=R.stored hgx h2;rw[HFS.out] at hp;have B1':Bx _ w.heap.size [.bool sx,.slice Ax kx cx] 50:=(hst.2.1 w.heap.size (by omega)).trans B1;have hb':=dE hb hst (by omega);go_roundg k
    case rel=>exact⟨j+1,by have:=HJ.out;unfold Hid;omega,by go_num,hp,B1',hb'⟩
    case measure=>omega
def aZ (ns:List Int):List Int:=bK ns (cA ns)
theorem gA (ns:List Int):(aZ ns).length=ns.length:=j9 _ _
theorem DZ {ns:List Int} (h:aN ns) (h0:ns≠[]):(cA ns:Int)≠0:=fun e=>by
 obtain⟨a,ha⟩:∃a,ns.getLast?=some a:=⟨_,List.getLast?_eq_some_getLast h0⟩;exact h a ha (OC (by omega) a (List.mem_of_getLast? ha))
theorem mI {ns:List Int} {K:Nat} (h:∀n∈ns,nl n.natAbs≤K):∀n∈aZ ns,nl n.natAbs≤K:=n8 h
theorem E2 (ns:List Int) (x:Int) (i:Nat):cf (bK ns x) i=(cf ns i).tdiv x:=nY (fun n:Int=>n.tdiv x) (Int.zero_tdiv x) ns i
theorem E3 {ns:List Int} {x:Int} (h:∀n∈ns,x∣n) (i:Nat):x∣cf ns i:=by
 by_cases hi:i<ns.length
 ·rw[dO hi];exact h _ (List.getElem_mem hi)
 ·rw[aP (by omega)];exact Int.dvd_zero x
theorem E6 (ns:List Int) (i:Nat):cf (aZ ns) i*(cA ns:Int)=cf ns i:=by
 unfold aZ;rw[E2];exact Int.tdiv_mul_cancel (E3 (fun n hn=>tN hn) i)
theorem cZ {α:Type} [OfNat α 0] {l:List α} (h0:l≠[]):aN l↔cf l (l.length-1)≠0:=by
 obtain⟨a,ha⟩:∃a,l.getLast?=some a:=⟨_,List.getLast?_eq_some_getLast h0⟩;have e:=tJ ha;constructor
 ·intro h;rw[e];exact h a ha
 ·intro h b hb;rw[ha] at hb;injection hb with hb;rw[←hb,←e];exact h
theorem j8 {ns:List Int} (h:aN ns):aN (aZ ns):=by
 by_cases h0:ns=[]
 ·rw[h0];intro a ha;simp[aZ,bK] at ha
 ·have h0':aZ ns≠[]:=fun e=>h0 (List.eq_nil_of_length_eq_zero (by rw[←gA,e];rfl));rw[cZ h0',gA];intro e;have:=E6 ns (ns.length-1);rw[e,Int.zero_mul] at this;exact(cZ h0).1 h this.symm
theorem qJ (ns:List Int) (v:Value) (w:World) (hG:Glob w) (hv:WholeAt w v ns) (ht:aN ns) (K:Nat) (hK:∀n∈ns,nl n.natAbs≤K) (hK2:5*K+4≤aF) (hl:ns.length≤1099511627776):
  Calls Tryz.prog 54 #[v] w fun e w'=>∃v',e= .returned v'∧WholeAt w' v' (aZ ns)∧Below w.heap.size w w':=by
 obtain⟨A,c,rfl,hc⟩:=hv.form;go_enter Tryz.func54,Tryz.ntmps54;go_wp2_with fail;refine(qK ns _ _ hG hv K hK hK2 hl).mono ?_;rintro e1 w1 ⟨v1,rfl,h1,hb1⟩;obtain⟨s1,A1,k1,c1,rfl⟩:=h1.form;go_wp2_with fail;refine(p6 ns (cA ns) _ _ _ (hv.below hb1) h1 (fun h0=>DZ ht h0) K hK (by rw[Int.natAbs_natCast];exact tO hK) hK2 hl).mono ?_;rintro e2 w2 ⟨v2,rfl,h2,hb2⟩;go_wp2;go_ret;exact⟨_,rfl,h2,aB hb1 hb2⟩
def fT (ns:List Int):List Int:=(List.range (ns.length-1)).map (fun i:Nat=>cf ns (i+1)*((i:Int)+1))
theorem gI (ns:List Int):(fT ns).length=ns.length-1:=by unfold fT;rw[List.length_map,List.length_range]
theorem XM (ns:List Int) {i:Nat} (h:i<ns.length-1):(fT ns)[i]? =some (cf ns (i+1)*((i:Int)+1)):=by
 unfold fT;rw[List.getElem?_map,List.getElem?_range h];rfl
theorem lT (ns:List Int) (i:Nat):cf (fT ns) i=cf ns (i+1)*((i:Int)+1):=by
 unfold fT;rw[oX];split
 ·rfl
 ·rw[aP (by omega),Int.zero_mul]
theorem OA (ns:List Int) (v:Value) (w:World) (hv:WholeAt w v ns) (K:Nat) (hK:∀n∈ns,nl n.natAbs≤K) (hK2:K+2≤aF) (hl:ns.length≤1073741824):
  Calls Tryz.prog 23 #[v] w fun e w'=>∃v',e= .returned v'∧WholeAt w' v' (fT ns)∧Below w.heap.size w w':=by
 unfold aF at hK2;obtain⟨A,c,rfl,hc⟩:=hv.form;go_enter Tryz.func23,Tryz.ntmps23;by_cases h0:ns.length=0
 ·have q0:((ns.length:Int)==0)=true:=by rw[h0];rfl
  have hn0:ns=[]:=List.eq_nil_of_length_eq_zero h0;have HN:=Lib.hid hn0;clear hn0 h0;go_wp2_with fail;go_ret;rw[HN.out];exact⟨_,rfl,WholeAt.nil _ _ _,Below.refl _ _⟩
 ·have q0:((ns.length:Int)==0)=false:=by rw[beq_eq_false_iff_ne];omega
  obtain⟨M,hM⟩:∃M,ns.length=M+1:=⟨ns.length-1,by omega⟩;have hMi:(ns.length:Int)-1=(M:Int):=by omega
  have hzl:(fT ns).length=M:=by rw[gI];omega
  have HZL:=Lib.hid hzl;clear hzl h0;go_wp2_with (at_make;refine eZ rfl rfl 50 _ 2 32 Tryz.underlying47 jZ rfl (by decide) M rfl rfl (by first|rfl|omega) (by first|rfl|omega) (by omega) (by omega) ?_;intro w2 hz2 hr2 hb2);have R0:OwnW w2 w.heap.size (List.replicate M 0):=OwnW.made hr2;clear hr2 hz2;go_loopg [14] M (fun k i wr=>∃j,Hid (j+k=M)∧i= .int .i64 j∧OwnW wr w.heap.size ((fT ns).take j++List.replicate k 0)∧Below w.heap.size w wr)
  case atStart=>exact⟨0,by unfold Hid;omega,rfl,by simpa using R0,hb2⟩
  case round=>
   clear R0 hb2;obtain⟨j,HJ,rfl,R,hb⟩:=hrel;generalize wr=wy at *;have hj0:(0:Int)≤(j:Int):=by omega
   cases gk with
   |zero=>
    have hj:j=M:=HJ.out;subst hj;rw[List.replicate_zero,List.append_nil,List.take_of_length_le (by rw[HZL.out];exact Nat.le_refl _)] at R;have hw:=R.whole j (by rw[HZL.out];exact Nat.le_refl _);rw[HZL.out] at hw;go_wp2_with fail;go_ret;exact⟨_,rfl,hw,hb⟩
   |succ k=>
    have hjM:j<M:=by have:=HJ.out;omega
    obtain⟨n,hn⟩:∃n,ns[j+1]? =some n:=⟨_,List.getElem?_eq_getElem (by omega)⟩;obtain⟨b,s,B,l,d,rfl,hbl',g0,g1,hi⟩:=(hv.below hb).at_ hn;have hkn:=hK n (List.mem_of_getElem? hn);have hcn:cf ns (j+1)=n:=oW hn;have hj1:(j:Int)<(M:Int):=by omega
    have hj2:(j:Int)+1<(ns.length:Int):=by omega
    have hj3:(0:Int)≤(j:Int)+1:=by omega
    have hym:=XM ns (i:=j) (by omega);rw[hcn] at hym;have hfl:=kF (ys:=fT ns) (z:=(0:Int)) (j:=j) (k:=k+1) (by rw[HZL.out];exact HJ.out);have hfs:=kC (z:=(0:Int)) (k:=k) hym;have hgx:j<((fT ns).take j++List.replicate (k+1) 0).length:=by rw[hfl,HZL.out];have:=HJ.out;omega
    have HFS:=Lib.hid hfs;clear hym hfl hfs hn hcn;have hj1l:nl ((j:Int)+1).natAbs≤1:=bI (by rw[show((j:Int)+1).natAbs=j+1 by omega];unfold BN;omega);have hnew:=fun W=>jK ((j:Int)+1) W (by omega) (by omega);have hmul:=fun W v u h1 h2=>f8 n ((j:Int)+1) v u W h1 h2 (by omega);unfold bW at hmul hnew;generalize n*((j:Int)+1)=y at *;have hid:=hi.drew;have Rd:=R.drew;have hbd:=hb.drew;have hjn:((j:Int)+1).toNat=j+1:=by omega
    have hwr:IntKind.i64.wrap ((j:Int)+1)=(j:Int)+1:=by rw[IntKind.wrap_i64];omega
    clear hi R hb;go_wp2_with fail
    go_region_with (first
     |(go_at_call 58;(with_reducible refine(hnew _).mono ?_);rintro e3 w3 ⟨v3,rfl,h3,hb3⟩;replace hid:=hid.below hb3;replace Rd:=Rd.below hb3;replace hbd:=aB hbd hb3;(try replace g0:=(hb3.cell (p:=⟨b,(j+1)*2,none⟩) hbl').trans g0);(try replace g1:=(hb3.cell (p:=⟨b,(j+1)*2+1,none⟩) hbl').trans g1);replace hbl':=Nat.lt_of_lt_of_le hbl' hb3.size)
     |(go_at_call 57;(with_reducible refine(hmul _ _ _ hid h3).mono ?_);rintro e2 w2 ⟨v2,rfl,h2,hb2⟩;obtain⟨s2,A2,k2,c2,rfl⟩:=h2.form;replace Rd:=Rd.below hb2;replace hbd:=aB hbd hb2;obtain⟨s',B',l',d',q0,q1, -⟩:=Rd.at_ (List.getElem?_eq_getElem hgx);have f0:=Rd.free (j*2);have f1:=Rd.free (j*2+1)))
    all_goals (
     go_wp2_with fail;obtain⟨hp,hst⟩:=Rd.stored hgx h2;rw[HFS.out] at hp;have hb':=dE hbd hst (by omega);go_roundg k
     case rel=>exact⟨j+1,by have:=HJ.out;unfold Hid;omega,by go_num,hp,hb'⟩
     case measure=>omega)
theorem VX (p:List Rat) (i:Nat):cf (kU p) i=cf p (i+1)*((i+1:Nat):Rat):=by
 unfold kU;rw[oX];split
 ·rfl
 ·rw[aP (l:=p) (by omega),Rat.zero_mul]
theorem lS {ns:List Int} {K:Nat} (hK:∀n∈ns,nl n.natAbs≤K) (hl:ns.length≤1073741824):∀n∈fT ns,nl n.natAbs≤K+1:=fun n hn=>by
 unfold fT at hn;obtain⟨i,hi,rfl⟩:=List.mem_map.1 hn;have:=List.mem_range.1 hi;exact bZ _ _ _ _ (cI hK _) (bI (by rw[show((i:Int)+1).natAbs=i+1 by omega];unfold BN;omega))
abbrev R2 (w:World) (b o:Nat) (v0 v1:Value):Prop:=w.cell? ⟨b,o,none⟩=some v0∧w.cell? ⟨b,o+1,none⟩=some v1
theorem R2.up {a b:World} [u:Up a b] {g o:Nat} {v0 v1:Value} (h:R2 a g o v0 v1) (hl:g<a.heap.size):R2 b g o v0 v1:=⟨(u.out.cell (p:=⟨g,o,none⟩) hl).trans h.1,(u.out.cell (p:=⟨g,o+1,none⟩) hl).trans h.2⟩
theorem sP {ns:List Int} {a b:Int} {T:Nat} (hn:∀n∈ns,n.natAbs≤T) (ha:a.natAbs≤T) (hb:b.natAbs≤T):(d5 ns a b).natAbs≤ns.length*T^ns.length∧(dR ns a b).natAbs≤T^ns.length:=by
 induction ns with
 |nil=>exact⟨by show(0:Int).natAbs≤_;simp,by show(1:Int).natAbs≤_;simp⟩
 |cons c ns ih=>
  obtain⟨h1,h2⟩:=ih (fun n hn'=>hn n (List.mem_cons_of_mem _ hn'));have e1:d5 (c :: ns) a b=d5 ns a b*a+c*dR ns a b:=rfl;have e2:dR (c :: ns) a b=dR ns a b*b:=rfl;have hc:=hn c (List.mem_cons_self ..);have m1:=Nat.mul_le_mul h1 ha;have m2:=Nat.mul_le_mul hc h2;have m3:=Nat.mul_le_mul h2 hb;rw[e1,e2,List.length_cons];constructor
  ·refine Nat.le_trans (Int.natAbs_add_le _ _) ?_;rw[Int.natAbs_mul,Int.natAbs_mul,Nat.succ_mul,Nat.pow_succ];rw[Nat.mul_assoc] at m1;rw[Nat.mul_comm T] at m2;exact Nat.add_le_add m1 m2
  ·rw[Int.natAbs_mul,Nat.pow_succ];exact m3
theorem tD {t K:Nat} (h:t≤65):t*(BN^K)^t<BN^(K*t+1)∧(BN^K)^t<BN^(K*t+1):=by
 rw[←Nat.pow_mul,Nat.pow_succ,Nat.mul_comm _ BN];have hp:0<BN^(K*t):=Nat.pow_pos (by decide);exact⟨Nat.mul_lt_mul_of_pos_right (Nat.lt_of_le_of_lt h (by decide)) hp,by have:=Nat.mul_lt_mul_of_pos_right (show 1<BN by decide) hp;rwa [Nat.one_mul] at this⟩
theorem fX {n K:Nat} (h:nl n≤K):n≤BN^K:=Nat.le_of_lt (Nat.lt_of_lt_of_le (bX n) (Nat.pow_le_pow_right (by decide) h))
theorem z8 (ns:List Int) (x:Rat) (v vx:Value) (w:World) (hv:WholeAt w v ns) (hx:RatAt w vx x) (K:Nat) (hK:∀n∈ns,nl n.natAbs≤K) (kx:RL K x) (hl:ns.length≤65) (hK2:140*K+10≤17592186044416):
  Calls Tryz.prog 161 #[v,vx] w (bW w (d5 ns x.num x.den)):=by
 obtain⟨A,c,rfl,hc⟩:=hv.form;obtain⟨s1,A1,k1,c1,s2,A2,k2,c2,rfl⟩:=hx.form;have hnu:=fun W h=>UX x (.agg #[.bool s1,.slice A1 k1 c1,.bool s2,.slice A2 k2 c2]) W h;have hde:=fun W h=>I4 x (.agg #[.bool s1,.slice A1 k1 c1,.bool s2,.slice A2 k2 c2]) W h (Nat.le_trans kx.2 (by omega));unfold bW at hnu hde;have ka:=kx.1;have kb:nl (x.den:Int).natAbs≤K:=kx.2;obtain⟨W,eW,hb,X,R,V⟩:=dK w [.bool s1,.slice A1 k1 c1,.bool s2,.slice A2 k2 c2] 54 [.bool false,.slice none 0 0] 50 [.bool false,.slice none 0 0] 50;have cM:=aa X.g4 (aa R.g2 V.g2);go_enter Tryz.func161,Tryz.ntmps161;go_wp2_with fail;(try rw[eW]);clear eW;replace hx:=hx.below hb;generalize x.num=a at *;generalize (x.den:Int)=b at *;clear kx;have X_ltW:=X.lt;go_cut [6,7] (fun s6 s7 wx=>∃g6 g7,s6= .pointer (some ⟨g6,0,none⟩)∧s7= .pointer (some ⟨g7,0,none⟩)∧W.heap.size≤g6∧W.heap.size≤g7∧g6≠g7∧IntBx wx g6 (a)∧IntBx wx g7 (b)∧Below W.heap.size W wx)
 case first=>
  go_region_held3 (fun w'=>w'.cell? ⟨w.heap.size,0,none⟩=some (.bool s1)∧w'.cell? ⟨w.heap.size,1,none⟩=some (.slice A1 k1 c1)∧w'.cell? ⟨w.heap.size,2,none⟩=some (.bool s2)∧w'.cell? ⟨w.heap.size,3,none⟩=some (.slice A2 k2 c2))
   (with_reducible exact⟨X.up.cell 0 rfl,X.up.cell 1 rfl,X.up.cell 2 rfl,X.up.cell 3 rfl⟩)
   (first
    |(go_at_call 192;(with_reducible refine(hnu _ hx.up).mono ?_);rintro e2 w2 ⟨v2,rfl,h2,hb2⟩;have l2:=hb2.size;(try simp at l2);have:=St.mk hb2;obtain⟨s2,A2,k2,c2,rfl⟩:=h2.form)
    |(go_at_call 70;(with_reducible refine(hde _ hx.up).mono ?_);rintro e3 w3 ⟨v3,rfl,h3,hb3⟩;have l3:=hb3.size;(try simp at l3);have:=St.mk hb3;have TT3:=Up.out (a:=W) (b:=w3);have ll3:=TT3.size;have h2z:=h2.up (b:=w3);(try (have D2_0:=(Bx.newAt W [.bool false,.slice none 0 0] 50 (W.heap.size) rfl).up (b:=w3);obtain⟨D2_0_k,D2_0_a,D2_0_n,D2_0_m⟩:=dd D2_0));(try (have D2_1:=(Bx.newAt (W.alloc Z0) [.bool false,.slice none 0 0] 50 (W.heap.size+1) (World.size_alloc _ _)).up (b:=w3);obtain⟨D2_1_k,D2_1_a,D2_1_n,D2_1_m⟩:=dd D2_1));(try (have D3_0:=(Bx.newAt w2 [.bool false,.slice none 0 0] 50 (w2.heap.size) rfl).up (b:=w3);obtain⟨D3_0_k,D3_0_a,D3_0_n,D3_0_m⟩:=dd D3_0));(try (have D3_1:=(Bx.newAt (w2.alloc Z0) [.bool false,.slice none 0 0] 50 (w2.heap.size+1) (World.size_alloc _ _)).up (b:=w3);obtain⟨D3_1_k,D3_1_a,D3_1_n,D3_1_m⟩:=dd D3_1));obtain⟨s3,A3,k3,c3,rfl⟩:=h3.form))
  all_goals (
   go_wp2_with fail;go_meet;refine⟨_,_,rfl,rfl,by omega,by omega,by omega,?_⟩
   first
    |(with_reducible exact rQ h2z h3 TT3)
    |(with_reducible exact uX h2z h3 TT3)
    |(with_reducible exact iQ h2z h3 (zb D2_0) TT3 (by omega))
    |(with_reducible exact iQ h2z h3 (zb D2_1) TT3 (by omega))
    |(with_reducible exact iQ h2z h3 (zb D3_0) TT3 (by omega))
    |(with_reducible exact iQ h2z h3 (zb D3_1) TT3 (by omega))
    |(with_reducible exact iR (zb D2_0) h2z h3 TT3 (by omega))
    |(with_reducible exact iR (zb D2_1) h2z h3 TT3 (by omega))
    |(with_reducible exact iR (zb D3_0) h2z h3 TT3 (by omega))
    |(with_reducible exact iR (zb D3_1) h2z h3 TT3 (by omega))
    |(with_reducible exact bE (zb D2_0) (zb D2_1) h2z h3 (by omega) TT3 (by omega) (by omega))
    |(with_reducible exact bE (zb D2_0) (zb D3_0) h2z h3 (by omega) TT3 (by omega) (by omega))
    |(with_reducible exact bE (zb D2_0) (zb D3_1) h2z h3 (by omega) TT3 (by omega) (by omega))
    |(with_reducible exact bE (zb D2_1) (zb D2_0) h2z h3 (by omega) TT3 (by omega) (by omega))
    |(with_reducible exact bE (zb D2_1) (zb D3_0) h2z h3 (by omega) TT3 (by omega) (by omega))
    |(with_reducible exact bE (zb D2_1) (zb D3_1) h2z h3 (by omega) TT3 (by omega) (by omega))
    |(with_reducible exact bE (zb D3_0) (zb D2_0) h2z h3 (by omega) TT3 (by omega) (by omega))
    |(with_reducible exact bE (zb D3_0) (zb D2_1) h2z h3 (by omega) TT3 (by omega) (by omega))
    |(with_reducible exact bE (zb D3_0) (zb D3_1) h2z h3 (by omega) TT3 (by omega) (by omega))
    |(with_reducible exact bE (zb D3_1) (zb D2_0) h2z h3 (by omega) TT3 (by omega) (by omega))
    |(with_reducible exact bE (zb D3_1) (zb D2_1) h2z h3 (by omega) TT3 (by omega) (by omega))
    |(with_reducible exact bE (zb D3_1) (zb D3_0) h2z h3 (by omega) TT3 (by omega) (by omega)))
 case rest=>
  obtain⟨gn,gd,rfl,rfl,hgn,hgd,hgnd,hN,hD,hb1⟩:=hcut;have hWl:w.heap.size+1+1<W.heap.size:=V.lt;replace R:=R.below hb1;replace V:=V.below hb1;replace hb:=aB hb hb1;have hnl:=hN.lt;have hdl:=hD.lt;clear hnu hde hx hb1 X cM;have cM:=aa R.g2 V.g2;go_wp2_with fail;refine(jK 1 _ (by decide) (by decide)).mono ?_;rintro e4 w4 ⟨v4,rfl,h4,hb4⟩;obtain⟨s4,A4,k4,c4,rfl⟩:=h4.form;obtain⟨W5,eW5,hb5,P⟩:=bA w4 [.bool s4,.slice A4 k4 c4] 50;have hl4:=hb4.size;replace R:=(R.below hb4).below hb5;replace V:=(V.below hb4).below hb5;replace hN:=(hN.below hb4).below hb5;replace hD:=(hD.below hb4).below hb5;replace h4:=h4.below hb5;replace hb:=(aB hb hb4).trans (hb5.mono (aB hb hb4).size);replace cM:=aa R.g2 (aa V.g2 P.g2);go_wp2_with fail;(try rw[eW5]);clear eW5;generalize w4.heap.size=gp at *;have n1:gn≠gp:=by omega
  have n2:gd≠gp:=by omega
  have n3:w.heap.size+1+1<gn:=by omega
  have n4:w.heap.size+1+1<gd:=by omega
  have n5:w.heap.size+1+1<gp:=by omega
  clear hl4 hnl hdl hgn hgd hWl hb4 hb5;go_loopg [9] ns.length (fun k i wr=>∃z:Int,Hid (z=(k:Int)-1)∧i= .int .i64 z∧k≤ns.length∧Bx wr (w.heap.size+1) [.bool false,.slice none 0 0] 50∧IntBx wr (w.heap.size+1+1) (d5 (ns.drop k) a b)∧IntBx wr gn a∧IntBx wr gd b∧IntBx wr gp (dR (ns.drop k) a b)∧Below w.heap.size w wr)
  case atStart=>exact⟨(ns.length:Int)-1,rfl,rfl,Nat.le_refl _,R,⟨_,_,_,_,V,by rw[List.drop_length];exact IntAt.zero _⟩,hN,hD,⟨_,_,_,_,P,by rw[List.drop_length];exact h4⟩,hb⟩
  case round=>
   clear R V P hN hD h4 hb cM;obtain⟨z,HZ,rfl,hk,R,⟨s5,A5,k5,c5,V,hV⟩,⟨s6,A6,k6,c6,N,hN⟩,⟨s7,A7,k7,c7,D,hD⟩,⟨s8,A8,k8,c8,P,hP⟩,hb⟩:=hrel;generalize wr=wx at *;have cM:=aa R.g2 (aa V.g2 (aa N.k2 (aa D.k2 P.g2)));cases gk with
   |zero=>
    have hz:z<0:=by have:=HZ.out;omega
    have hz':¬0≤z:=by omega
    rw[List.drop_zero] at hV;clear hP HZ;go_wp2_with fail;have R_l:=R.lt;have V_l:=V.lt;have N_l:=N.lt;have D_l:=D.lt;have P_l:=P.lt;have hsz_:=hb.size;obtain⟨W6,eW6,R,hb,hk,ff⟩:=R.put2 hb (by omega) (.bool s5) (.slice A5 k5 c5) rfl rfl;replace V:=ff V (by omega);replace N:=ff N (by omega);replace D:=ff D (by omega);replace P:=ff P (by omega);replace hV:=hV.keep hk;rw[eW6];clear eW6;replace cM:=aa R.k2 (aa V.k2 (aa N.k2 (aa D.k2 P.k2)));exact bodyPost_ret (v:= .agg #[.bool s5,.slice A5 k5 c5]) (by simp[results,Tryz.results161,go_sem,R.k2]) rfl ⟨_,rfl,hV,hb⟩
   |succ k=>
    obtain rfl:z=(k:Int):=by have:=HZ.out;omega
    obtain⟨n,hn⟩:∃n,ns[k]? =some n:=⟨_,List.getElem?_eq_getElem (by omega)⟩;obtain⟨B,s9,A9,k9,c9,rfl,hbl,g0,g1,hi⟩:=(hv.below hb).at_ hn;have hkl:(k:Int)<(ns.length:Int):=by omega
    have hk0:(0:Int)≤(k:Int):=by omega
    obtain⟨hv1,hv2⟩:=X2 a b hn;have hbd:=sP (ns:=ns.drop (k+1)) (a:=a) (b:=b) (T:=BN^K) (fun n h=>fX (hK n (List.mem_of_mem_drop h))) (fX ka) (fX kb);have hkn:=hK n (List.mem_of_getElem? hn);obtain⟨t,ht⟩:∃t,(ns.drop (k+1)).length=t:=⟨_,rfl⟩;have ht6:t≤65:=by rw[←ht,List.length_drop];omega
    rw[ht] at hbd;obtain⟨pw1,pw2⟩:=tD (K:=K) ht6;have hkt:K*t≤65*K:=by rw[Nat.mul_comm];exact Nat.mul_le_mul_right _ ht6
    have HV:Hid (0+d5 (ns.drop (k+1)) a b*a+n*dR (ns.drop (k+1)) a b=d5 (ns.drop k) a b):=by unfold Hid;rw[hv1,Int.zero_add]
    have HP:=Lib.hid hv2;obtain⟨Y',hY⟩:∃Y',d5 (ns.drop k) a b=Y':=⟨_,rfl⟩;rw[hY] at HV;have HY:=Lib.hid hY;clear hv1 hv2 ht hn hY;generalize d5 (ns.drop (k+1)) a b=Y at *;generalize dR (ns.drop (k+1)) a b=Q at *;have lY:nl Y.natAbs≤K*t+1:=bI (Nat.lt_of_le_of_lt hbd.1 pw1);have lQ:nl Q.natAbs≤K*t+1:=bI (Nat.lt_of_le_of_lt hbd.2 pw2);have m1:Y.natAbs*a.natAbs<BN^(K*t+1+K):=by
     have h1:=bX (Y.natAbs*a.natAbs);exact Nat.lt_of_lt_of_le h1 (Nat.pow_le_pow_right (by decide) (Nat.le_trans (cJ _ _) (Nat.add_le_add lY ka)))
    have m2:n.natAbs*Q.natAbs<BN^(K*t+1+K):=by
     have h1:=bX (n.natAbs*Q.natAbs);exact Nat.lt_of_lt_of_le h1 (Nat.pow_le_pow_right (by decide) (Nat.le_trans (cJ _ _) (by omega)))
    have m3:BN^(K*t+1+K)*BN≤BN^(67*K+3):=by rw[←Nat.pow_succ];exact Nat.pow_le_pow_right (by decide) (by omega)
    have m4:2*BN^(K*t+1+K)≤BN^(K*t+1+K)*BN:=by rw[Nat.mul_comm];exact Nat.mul_le_mul_left _ (by decide)
    obtain⟨ws,es,hbs, -⟩:=bA wx [.slice none 0 0,.slice none 0 0] 118;have hS0:=(SumAt.new wx (67*K+3)).now;have hes:wx.alloc (.cells #[.slice none 0 0,.slice none 0 0] 118)=ws:=es;rw[hes] at hS0;have:=St.mk hbs;have hs1:=vG wx.heap.size ws.heap.size (67*K+3) 0 0 Y a s5 A5 k5 c5 s6 A6 k6 c6 ws hS0 hV.up hN.up hV.blk hN.blk (by omega) (by unfold aF;omega) (by omega);have hs2:=fun W Z h h1 h2=>vG wx.heap.size Z (67*K+3) (0+Y.natAbs*a.natAbs) (0+Y*a) n Q s9 A9 k9 c9 s8 A8 k8 c8 W h h1 h2 hi.blk hP.blk (by omega) (by unfold aF;omega) (by omega);have hsv:=fun W Z M h=>vF wx.heap.size Z (67*K+3) M Y' W h (by unfold aF;omega);have hmu:=fun W v u h h'=>f8 Q b v u W h h' (by omega);rw[HV.out] at hs2;unfold bW at hsv hmu;have gr:R2 wx B (k*2) (.bool s9) (.slice A9 k9 c9):=⟨g0,g1⟩;clear hS0 hbd pw1 pw2 m1 m2 m3 m4 lY lQ hkt hes g0 g1;have cX:=aa (V.up (b:=ws)).k2 (N.up (b:=ws)).k2;go_wp2_with fail;(try rw[es]);clear es;refine hs1.mono ?_;rintro e1 w1 ⟨rfl,hS1,hb1, -⟩;have:=St.mk (hbs.trans hb1);have hbl1:=hbl;clear hs1;go_wp2_with fail
    go_region_held3 (fun w'=>R2 w' B (k*2) (.bool s9) (.slice A9 k9 c9)∧C2 w' gp (.bool s8) (.slice A8 k8 c8)) (with_reducible exact⟨gr.up hbl,P.up.k2⟩)
     (first
      |(go_at_call 64;(with_reducible refine(hs2 _ _ (hS1.below Up.out) hi.up hP.up).mono ?_);rintro e2 w2 ⟨rfl,hS2,hb2, -⟩;have:=St.mk ((Up.out (a:=wx)).trans hb2)))
    all_goals (
     clear hs2 hS1 cX;go_wp2_with fail;refine(hsv _ _ _ hS2).mono ?_;rintro e3 w3 ⟨v3,rfl,h3,hb3⟩;obtain⟨s3,A3,k3,c3,rfl⟩:=h3.form;have:=St.mk hb3;replace R:=R.up (b:=w3);replace V:=V.up (b:=w3);replace N:=N.up (b:=w3);replace D:=D.up (b:=w3);replace P:=P.up (b:=w3);replace hN:=hN.up (b:=w3);replace hD:=hD.up (b:=w3);replace hP:=hP.up (b:=w3);replace hb:=mL (b:=w3) hb;replace cM:=aa R.g2 (aa V.g2 (aa N.k2 (aa D.k2 P.g2)));clear hsv hS2;go_wp2_with fail;have R_l:=R.lt;have V_l:=V.lt;have N_l:=N.lt;have D_l:=D.lt;have P_l:=P.lt;have hsz_:=hb.size;obtain⟨W4,eW4,V,hb,hk,ff⟩:=V.put2 hb (by omega) (.bool s3) (.slice A3 k3 c3) rfl rfl;replace R:=ff R (by omega);replace N:=ff N (by omega);replace D:=ff D (by omega);replace P:=ff P (by omega);replace h3:=h3.keep hk;replace hN:=hN.keep hk;replace hD:=hD.keep hk;replace hP:=hP.keep hk;rw[eW4];clear eW4;replace cM:=aa R.g2 (aa V.g2 (aa N.k2 (aa D.k2 P.g2)));refine(hmu _ _ _ hP hD).mono ?_;rintro e5 w5 ⟨v5,rfl,h5,hb5⟩;obtain⟨sx,Ax,kx,cx,rfl⟩:=h5.form;replace R:=R.below hb5;replace V:=V.below hb5;replace N:=N.below hb5;replace D:=D.below hb5;replace P:=P.below hb5;replace cM:=aa R.g2 (aa V.g2 (aa N.k2 (aa D.k2 P.g2)));replace hk:=Keep.below hb5;replace h3:=h3.keep hk;replace hN:=hN.keep hk;replace hD:=hD.keep hk;replace hb:=aB hb hb5;clear hmu;go_wp2_with fail;have R_l:=R.lt;have V_l:=V.lt;have N_l:=N.lt;have D_l:=D.lt;have P_l:=P.lt;have hsz_:=hb.size;obtain⟨W6,eW6,P,hb,hk,ff⟩:=P.put2 hb (by omega) (.bool sx) (.slice Ax kx cx) rfl rfl;replace R:=ff R (by omega);replace V:=ff V (by omega);replace N:=ff N (by omega);replace D:=ff D (by omega);replace h5:=h5.keep hk;replace h3:=h3.keep hk;replace hN:=hN.keep hk;replace hD:=hD.keep hk;rw[eW6];clear eW6;replace cM:=aa R.k2 (aa V.k2 (aa N.k2 (aa D.k2 P.k2)));go_roundg k
     case rel=>exact⟨(k:Int)-1,rfl,by first|rfl|go_num,by omega,R,⟨_,_,_,_,V,by rw[HY.out];exact h3⟩,⟨_,_,_,_,N,hN⟩,⟨_,_,_,_,D,hD⟩,⟨_,_,_,_,P,by rw[HP.out];exact h5⟩,hb⟩
     case measure=>omega)
theorem rC (a:List Rat) (k i:Nat):cf (a++List.replicate k 0) i=cf a i:=by
 by_cases h:i<a.length
 ·rw[dO (l:=a) h,oW (a:=a[i])];rw[List.getElem?_append_left h,List.getElem?_eq_getElem h]
 ·rw[aP (l:=a) (by omega)];by_cases h2:i<a.length+k
  ·refine oW ?_;rw[List.getElem?_append_right (by omega),List.getElem?_replicate,if_pos (by omega)]
  ·exact aP (by rw[List.length_append,List.length_replicate];omega)
end Go.Proofs.YtbhplgdbfmifkaaGreatDoor
namespace Go.Proofs.YtbhplgdbfmifkaaGreatDoor
open Sos
def d8 (l:List Rat) (g:Nat→Rat) (i k:Nat):List Rat:=(List.range l.length).map (fun j=>if i≤j∧j<i+k then g j else cf l j)
theorem H4 {a b:List Rat} (hl:a.length=b.length) (h:∀j,cf a j=cf b j):a=b:=List.ext_getElem hl (fun j h1 h2=>by have:=h j;rwa [dO h1,dO h2] at this)
theorem zL {l:List Rat} {i:Nat} {x:Rat} (h:i<l.length) (j:Nat):cf (l.set i x) j=if j=i then x else cf l j:=by
 by_cases e:j=i
 ·subst e;rw[if_pos rfl];exact oW (by rw[List.getElem?_set_self h])
 ·rw[if_neg e];unfold cf;rw[List.getD_eq_getElem?_getD,List.getD_eq_getElem?_getD,List.getElem?_set_ne (fun h=>e h.symm)]
section
variable {l:List Rat} {g:Nat→Rat} {i k:Nat}
theorem oF (j:Nat):cf (d8 l g i k) j=if i≤j∧j<i+k∧j<l.length then g j else cf l j:=by
 unfold d8;rw[oX];by_cases h:j<l.length
 ·rw[if_pos h];by_cases h2:i≤j∧j<i+k
  ·rw[if_pos h2,if_pos ⟨h2.1,h2.2,h⟩]
  ·rw[if_neg h2,if_neg (fun h3=>h2 ⟨h3.1,h3.2.1⟩)]
 ·rw[if_neg h,if_neg (fun h3=>h h3.2.2),aP (by omega)]
end
def dL (a:List Rat) (c:Rat) (b:List Rat):List Rat:=(List.range (max a.length b.length)).map (fun i=>cf a i+c*cf b i)
theorem oG (a:List Rat) (c:Rat) (b:List Rat) (i:Nat):cf (dL a c b) i=cf a i+c*cf b i:=by
 unfold dL;rw[oX];split
 ·rfl
 ·rw[aP (l:=a) (by omega),aP (l:=b) (by omega),Rat.mul_zero,Rat.add_zero]
structure DivQ (A B Q R:List Rat):Prop where
 id_:∀i,conv (cf Q) (cf B) i+cf R i=cf A i
 q_trim:aN Q
 r_trim:aN R
 r_lt:R.length<B.length
structure DivJ (A B Q R:List Rat) (i:Nat):Prop where
 id_:∀j,conv (cf Q) (cf B) j+cf R j=cf A j
 q0:∀j,j<i→cf Q j=0
 r0:∀j,i+B.length≤j+1→cf R j=0
theorem DivJ.start (A B:List Rat) (h:B.length≤A.length):DivJ A B (List.replicate (A.length-B.length+1) 0) A (A.length-B.length+1):=
 have hz:∀j,cf (List.replicate (A.length-B.length+1) (0:Rat)) j=0:=fun j=>by
  have:=rC [] (A.length-B.length+1) j;rw[List.nil_append,bS] at this;exact this
 ⟨fun j=>by rw[eR hz,Rat.zero_add],fun j _=>hz j,fun j hj=>aP (by omega)⟩
theorem DivJ.step {A B Q R:List Rat} {i:Nat} (h:DivJ A B Q R (i+1)) (hB:cf B (B.length-1)≠0) (hn:1≤B.length) (hq:i<Q.length) (hr:i+B.length≤R.length) {f:Rat} (hf:f=cf R (i+B.length-1)/cf B (B.length-1)):
  DivJ A B (Q.set i f) (d8 R (fun j=>cf R j-f*cf B (j-i)) i B.length) i:=by
 have hr':∀j,cf (d8 R (fun j=>cf R j-f*cf B (j-i)) i B.length) j=cf R j-(if i≤j then f*cf B (j-i) else 0):=fun j=>by
  rw[oF];by_cases h1:i≤j∧j<i+B.length∧j<R.length
  ·rw[if_pos h1,if_pos h1.1]
  ·rw[if_neg h1];by_cases h2:i≤j
   ·rw[if_pos h2,aP (l:=B) (by omega)];grind
   ·rw[if_neg h2];grind
 refine⟨fun j=> ?_,fun j hj=> ?_,fun j hj=> ?_⟩
 ·have e:conv (cf (Q.set i f)) (cf B) j=conv (cf Q) (cf B) j+conv (fun k=>if k=i then f else 0) (cf B) j:=by
   rw[←j7];refine cO (fun k=> ?_) (fun _=>rfl) j;rw[zL hq];by_cases e:k=i
   ·rw[if_pos e,if_pos e,h.q0 k (by omega),Rat.zero_add]
   ·rw[if_neg e,if_neg e,Rat.add_zero]
  rw[e,mY,hr',←h.id_ j];grind
 ·rw[zL hq,if_neg (by omega)];exact h.q0 j (by omega)
 ·rw[hr',if_pos (by omega)];by_cases e:j=i+B.length-1
  ·subst e;rw[show i+B.length-1-i=B.length-1 by omega,hf,Rat.div_mul_cancel hB];grind
  ·rw[h.r0 j (by omega),aP (l:=B) (by omega)];grind
theorem UQ {l:List Rat} {n:Nat} (h:∀j,n≤j→cf l j=0):(aH aG l).length≤n:=by
 rcases Nat.lt_or_ge n (aH aG l).length with hl|hl
 ·exfalso;have hne:aH aG l≠[]:=by intro e;rw[e] at hl;simp at hl
  have h1:=List.getLast?_eq_some_getLast hne;have h2:=tJ h1;rw[dS,h _ (by omega)] at h2;exact fC l _ h1 h2.symm
 ·exact hl
theorem DivJ.done {A B Q R:List Rat} (h:DivJ A B Q R 0) (hn:1≤B.length):DivQ A B (aH aG Q) (aH aG R):=
 ⟨fun j=>by rw[cO (dS Q) (fun _=>rfl) j,dS];exact h.id_ j,fC _,fC _,by
  have:=UQ (l:=R) (n:=B.length-1) (fun j hj=>h.r0 j (by omega));omega⟩
theorem H5 {d:Nat→Rat} {ys:List Rat} {L:Nat} (hB:cf ys (ys.length-1)≠0) (hn:1≤ys.length) (hd:∀i,L≤i→d i=0) (h:∀i,ys.length≤i+1→conv d (cf ys) i=0):∀i,d i=0:=by
 induction L with
 |zero=>exact fun i=>hd i (Nat.zero_le _)
 |succ L ih=>
  refine ih (fun i hi=> ?_);by_cases hL:L+1≤i
  ·exact hd i hL
  ·have e:i=L:=by omega
   subst e;have h1:=mZ (p:=d) (q:=cf ys) (m:=i) (n:=ys.length-1) (fun j hj=>hd j (by omega)) (fun j hj=>aP (by omega));rw[h _ (by omega)] at h1;rcases Rat.mul_eq_zero.1 h1.symm with h2|h2
   ·exact h2
   ·exact absurd h2 hB
theorem DivQ.unique {A B Q R Q' R':List Rat} (h:DivQ A B Q R) (h':DivQ A B Q' R') (hB:cf B (B.length-1)≠0) (hn:1≤B.length):Q=Q'∧R=R':=by
 have hc:∀i,conv (fun k=>cf Q k+(-1)*cf Q' k) (cf B) i=cf R' i-cf R i:=fun i=>by
  rw[j7,fF];have h1:=h.id_ i;have h2:=h'.id_ i;grind
 have hz:=H5 (d:=fun k=>cf Q k+(-1)*cf Q' k) (L:=Q.length+Q'.length) hB hn (fun i hi=>by show cf Q i+(-1)*cf Q' i=0;rw[aP (by omega),aP (by omega)];grind) (fun i hi=>by rw[hc,aP (by have:=h'.r_lt;omega),aP (by have:=h.r_lt;omega)];grind);refine⟨iJ h.q_trim h'.q_trim (fun i=> ?_),iJ h.r_trim h'.r_trim (fun i=> ?_)⟩
 ·have:=hz i;grind
 ·have:=hc i;rw[eR hz] at this;grind
end Go.Proofs.YtbhplgdbfmifkaaGreatDoor
namespace Go.Proofs.YtbhplgdbfmifkaaGreatDoor
open Go.RowKit Sos
theorem PQRes.mono {xs ys q r:List Int} {m:Int} {KB KB':Nat} (h:PQRes xs ys KB m q r) (hK:KB≤KB'):PQRes xs ys KB' m q r:=
 ⟨h.id_,h.m0,h.r_lt,h.q_trim,h.r_trim,h.q_len,h.pow,fun n hn=>Nat.le_trans (h.bq n hn) hK,fun n hn=>Nat.le_trans (h.br n hn) hK,Nat.le_trans h.bm hK⟩
inductive Euc (B:Nat):List Int→List Int→List Int→Prop
 |done (a:List Int):Euc B a [] a
 |one {a b:List Int} (hb:b.length=1):Euc B a b [1]
 |step {a b q r g:List Int} {m:Int} (hb:1<b.length) (h:PQRes a b B m q r) (t:Euc B b (aZ r) g):Euc B a b g
def fL (B:Nat) (xs ys g:List Int):Prop:=if xs.length<ys.length then Euc B (aZ ys) (aZ xs) g else Euc B (aZ xs) (aZ ys) g
theorem WholeAt.single {w:World} {s:Bool} {A:Option Addr} {k c:Nat} {n:Int} (h:IntAt w (.agg #[.bool s,.slice A k c]) n):WholeAt (w.alloc (.cells #[.bool s,.slice A k c] 50)) (.slice (some ⟨w.heap.size,0,none⟩) 1 1) [n]:=by
 have B:=Bx.new w [.bool s,.slice A k c] 50;have:OwnW (w.alloc (.cells #[.bool s,.slice A k c] 50)) w.heap.size [n]:=by
  refine⟨[[.bool s,.slice A k c]],⟨B,fun r hr=> ?_⟩,Nat.le_refl _,fun i m hi=> ?_⟩
  ·rw[List.mem_singleton.1 hr];rfl
  ·cases i with
   |zero=>injection hi with hi;subst hi;exact⟨s,A,k,c,rfl,h.keep (Keep.alloc _ _)⟩
   |succ i=>simp at hi
 exact this.whole 1 (Nat.le_refl _)
theorem DW {d:Nat} (h:1≤d):d+2≤3^d:=by
 induction d with
 |zero=>omega
 |succ d ih=>
  rw[Nat.pow_succ];by_cases h1:d=0
  ·subst h1;decide
  ·have:=ih (by omega);omega
theorem DX {K la lb lr B:Nat} (h:(K+1)*(la-lb+2)*3^lb≤B) (hr:lr<lb) (hab:lb≤la):(K+(la+1-lb)*(K+1)+1)*(lb-lr+2)*3^lr≤B:=by
 have e1:K+(la+1-lb)*(K+1)+1=(K+1)*(la-lb+2):=by
  rw[show la+1-lb=la-lb+1 by omega,Nat.add_mul (la-lb) 1 (K+1),Nat.mul_add (K+1) (la-lb) 2,Nat.mul_comm (la-lb) (K+1)];omega
 have e2:lb=(lb-lr)+lr:=by omega
 have h2:=DW (d:=lb-lr) (by omega);have h3:(K+1)*(la-lb+2)*3^lb=(K+1)*(la-lb+2)*3^(lb-lr)*3^lr:=by
  conv=>lhs;rw[e2,Nat.pow_add]
  rw[show(lb-lr+lr)=lb by omega,Nat.mul_assoc];simp only[Nat.mul_assoc]
 rw[h3] at h;rw[e1];exact Nat.le_trans (Nat.mul_le_mul_right _ (Nat.mul_le_mul_left _ h2)) h
theorem tK {K la lb B:Nat} (h:(K+1)*(la-lb+2)*3^lb≤B) (hab:lb≤la):K+(la+1-lb)*(K+1)+1≤B:=by
 have e1:K+(la+1-lb)*(K+1)+1=(K+1)*(la-lb+2):=by
  rw[show la+1-lb=la-lb+1 by omega,Nat.add_mul (la-lb) 1 (K+1),Nat.mul_add (K+1) (la-lb) 2,Nat.mul_comm (la-lb) (K+1)];omega
 rw[e1];exact Nat.le_trans (Nat.le_mul_of_pos_right _ (Nat.pow_pos (by decide))) h
theorem DY (xs ys:List Int) (vx vy:Value) (w:World) (hG:Glob w) (hx:WholeAt w vx xs) (hy:WholeAt w vy ys) (tx:aN xs) (ty:aN ys) (K B:Nat) (hKx:∀n∈xs,nl n.natAbs≤K) (hKy:∀n∈ys,nl n.natAbs≤K) (hK1:1≤K)
  (hB:xs.length<ys.length→(K+1)*(ys.length-xs.length+2)*3^xs.length≤B) (hB':¬xs.length<ys.length→(K+1)*(xs.length-ys.length+2)*3^ys.length≤B) (hB2:5*B+8≤aF) (hlx:xs.length≤1073741824) (hly:ys.length≤1073741824):
  Calls Tryz.prog 82 #[vx,vy] w fun e w'=>∃v' g,e= .returned v'∧WholeAt w' v' g∧fL B xs ys g∧Below w.heap.size w w':=by
 obtain⟨A,c,rfl,hc⟩:=hx.form;obtain⟨A',c',rfl,hc'⟩:=hy.form;have hKB:K≤B:=by
  by_cases h:xs.length<ys.length
  ·have:=tK (hB h) (by omega);omega
  ·have:=tK (hB' h) (by omega);omega
 have lX:=gA xs;have lY:=gA ys;have pX:=qJ xs _ w hG hx tx K hKx (by omega) (by omega);have pY:=fun W hb=>qJ ys _ W (hG.below hb) (hy.below hb) ty K hKy (by omega) (by omega);have kX:=mI hKx;have kY:=mI hKy;have tX:=j8 tx;have tY:=j8 ty;unfold fL;generalize aZ xs=X at *;generalize aZ ys=Y at *;rw[←lX] at hlx;rw[←lY] at hly;rw[←lX,←lY] at hB hB';by_cases hlt:xs.length<ys.length
 ·simp only[if_pos hlt];have hlt2:X.length<Y.length:=by omega
  have hlt':(X.length:Int)<(Y.length:Int):=by omega
  clear lX lY hlt;go_enter Tryz.func82,Tryz.ntmps82;go_wp2_with fail;refine pX.mono ?_;rintro e1 w1 ⟨v1,rfl,h1,hb⟩;obtain⟨A1,c1,rfl,hc1⟩:=h1.form;go_wp2_with fail;refine(pY _ hb).mono ?_;rintro e2 w2 ⟨v2,rfl,h2,hb2⟩;obtain⟨A2,c2,rfl,hc2⟩:=h2.form;replace h1:=h1.below hb2;replace hb:=aB hb hb2;clear pX pY hb2 hx hy;go_wp2_with fail
  go_loopg [5,6] X.length (fun k va vb wr=>∃a b A c A' c' K',Hid (b.length=k)∧va= .slice A a.length c∧vb= .slice A' b.length c'∧WholeAt wr (.slice A a.length c) a∧WholeAt wr (.slice A' b.length c') b∧Hid (aN a)∧Hid (aN b)∧Hid (∀g,Euc B a b g→Euc B Y X g)∧
   (∀n∈a,nl n.natAbs≤K')∧(∀n∈b,nl n.natAbs≤K')∧1≤K'∧b.length≤a.length∧a.length≤1073741824∧Hid ((K'+1)*(a.length-b.length+2)*3^b.length≤B)∧Below w.heap.size w wr)
  case atStart=>exact⟨Y,X,A2,c2,A1,c1,K,rfl,rfl,rfl,h2,h1,tY,tX,fun g h=>h,kY,kX,hK1,by omega,by omega,hB hlt2,hb⟩
  case round=>
   clear h1 h2 hb hB hB' tX tY kX kY;obtain⟨a,b,Aa,ca,Ab,cb,K',HL,rfl,rfl,ha,hbb,HTa,HTb,HE,ka,kb,hK1',hab,hla,HP,hb⟩:=hrel;generalize wr=wy at *;have hKB':=tK HP.out hab;by_cases h0:b.length=0
   ·have q0:¬(0:Int)<(b.length:Int):=by omega
    have hb0:b=[]:=List.eq_nil_of_length_eq_zero h0;have hE:=HE.out a (by rw[hb0];exact Euc.done a);have HEE:=Lib.hid hE;clear hb0 h0 hE;go_wp2_with fail;go_ret
    first|exact⟨_,a,rfl,ha,HEE.out,hb⟩|exact⟨_,rfl,a,ha,HEE.out,hb⟩
   ·have q0:(0:Int)<(b.length:Int):=by omega
    by_cases h1:b.length=1
    ·have q1:((b.length:Int)==1)=true:=by simp;omega
     have hE:=HE.out [1] (Euc.one h1);have HEE:=Lib.hid hE;clear h0 h1 hE;go_wp2_with fail;refine(jK 1 _ (by decide) (by decide)).mono ?_;rintro e3 w3 ⟨v3,rfl,h3,hb3⟩;obtain⟨s3,A3,k3,c3,rfl⟩:=h3.form;go_wp2_with fail;go_ret;exact⟨_,[1],rfl,WholeAt.single h3,HEE.out,(aB hb hb3).alloc (Nat.le_trans hb.size hb3.size) _⟩
    ·have q1:((b.length:Int)==1)=false:=by simp;omega
     have hb0:b≠[]:=fun e=>h0 (by rw[e];rfl);have hb1:1<b.length:=by omega
     have pq:=pE a b _ _ wy ha hbb hb0 HTa.out HTb.out K' _ ka kb hK1' (Nat.le_refl _) (by omega) hla (by omega);unfold oA at pq;go_wp2_with fail;refine pq.mono ?_;rintro e3 w3 ⟨vq,vr,vm,q,r,m,rfl,hq,hr,hm,hres,hb3⟩;obtain⟨Aq,cq,rfl, -⟩:=hq.form;obtain⟨Ar,cr,rfl,hcr⟩:=hr.form;obtain⟨s3,A3,k3,c3,rfl⟩:=hm.form;have hrl:=hres.r_lt;have hpr:=fun W hG h=>qJ r (.slice Ar r.length cr) W hG h hres.r_trim _ hres.br (by omega) (by omega);have ht:=j8 hres.r_trim;have hk:=mI hres.br;have hk2:∀n∈b,nl n.natAbs≤K'+(a.length+1-b.length)*(K'+1):=fun n hn=>Nat.le_trans (kb n hn) (Nat.le_add_right _ _);have hl:=gA r;have hnx:(K'+(a.length+1-b.length)*(K'+1)+1)*(b.length-(aZ r).length+2)*3^(aZ r).length≤B:=by rw[hl];exact DX HP.out hrl hab
     have hE:∀g,Euc B b (aZ r) g→Euc B Y X g:=fun g t=>HE.out g (Euc.step hb1 (hres.mono (by omega)) t);have HH:=Lib.hid (And.intro hnx (And.intro hE ht));have hK9:1≤K'+(a.length+1-b.length)*(K'+1):=Nat.le_trans hK1' (Nat.le_add_right _ _);have HLR:=Lib.hid hl;clear hl hres hnx hE ht pq h0 h1 hb0;generalize aZ r=P at *;generalize K'+(a.length+1-b.length)*(K'+1)=KK at *;replace hbb:=hbb.below hb3;replace hb:=aB hb hb3;go_wp2_with fail;have hbX:Below w3.heap.size w3 (w3.alloc (.cells #[.bool s3,.slice A3 k3 c3] 50)):=(Below.refl _ _).alloc (Nat.le_refl _) _;replace hbb:=hbb.below hbX;replace hr:=hr.below hbX;replace hb:=aB hb hbX;clear hbX;generalize w3.alloc (.cells #[.bool s3,.slice A3 k3 c3] 50)=w4 at *;refine(hpr _ (hG.below hb) hr).mono ?_;rintro e5 w5 ⟨v5,rfl,h5,hb5⟩;obtain⟨A5,c5,rfl,hc5⟩:=h5.form;replace hbb:=hbb.below hb5;replace hb:=aB hb hb5;go_wp2_with fail;go_roundg P.length
     case rel=>exact⟨b,P,Ab,cb,A5,c5,KK,rfl,rfl,rfl,hbb,h5,HTb,HH.out.2.2,HH.out.2.1,hk2,hk,hK9,by have:=HLR.out;omega,by omega,HH.out.1,hb⟩
     case measure=>have:=HL.out;have:=HLR.out;omega
 ·simp only[if_neg hlt];have hlt2:¬X.length<Y.length:=by omega
  have hlt':¬(X.length:Int)<(Y.length:Int):=by omega
  clear lX lY hlt;go_enter Tryz.func82,Tryz.ntmps82;go_wp2_with fail;refine pX.mono ?_;rintro e1 w1 ⟨v1,rfl,h1,hb⟩;obtain⟨A1,c1,rfl,hc1⟩:=h1.form;go_wp2_with fail;refine(pY _ hb).mono ?_;rintro e2 w2 ⟨v2,rfl,h2,hb2⟩;obtain⟨A2,c2,rfl,hc2⟩:=h2.form;replace h1:=h1.below hb2;replace hb:=aB hb hb2;clear pX pY hb2 hx hy;go_wp2_with fail
  go_loopg [5,6] Y.length (fun k va vb wr=>∃a b A c A' c' K',Hid (b.length=k)∧va= .slice A a.length c∧vb= .slice A' b.length c'∧WholeAt wr (.slice A a.length c) a∧WholeAt wr (.slice A' b.length c') b∧Hid (aN a)∧Hid (aN b)∧Hid (∀g,Euc B a b g→Euc B X Y g)∧
   (∀n∈a,nl n.natAbs≤K')∧(∀n∈b,nl n.natAbs≤K')∧1≤K'∧b.length≤a.length∧a.length≤1073741824∧Hid ((K'+1)*(a.length-b.length+2)*3^b.length≤B)∧Below w.heap.size w wr)
  case atStart=>exact⟨X,Y,A1,c1,A2,c2,K,rfl,rfl,rfl,h1,h2,tX,tY,fun g h=>h,kX,kY,hK1,by omega,by omega,hB' hlt2,hb⟩
  case round=>
   clear h1 h2 hb hB hB' tX tY kX kY;obtain⟨a,b,Aa,ca,Ab,cb,K',HL,rfl,rfl,ha,hbb,HTa,HTb,HE,ka,kb,hK1',hab,hla,HP,hb⟩:=hrel;generalize wr=wy at *;have hKB':=tK HP.out hab;by_cases h0:b.length=0
   ·have q0:¬(0:Int)<(b.length:Int):=by omega
    have hb0:b=[]:=List.eq_nil_of_length_eq_zero h0;have hE:=HE.out a (by rw[hb0];exact Euc.done a);have HEE:=Lib.hid hE;clear hb0 h0 hE;go_wp2_with fail;go_ret
    first|exact⟨_,a,rfl,ha,HEE.out,hb⟩|exact⟨_,rfl,a,ha,HEE.out,hb⟩
   ·have q0:(0:Int)<(b.length:Int):=by omega
    by_cases h1:b.length=1
    ·have q1:((b.length:Int)==1)=true:=by simp;omega
     have hE:=HE.out [1] (Euc.one h1);have HEE:=Lib.hid hE;clear h0 h1 hE;go_wp2_with fail;refine(jK 1 _ (by decide) (by decide)).mono ?_;rintro e3 w3 ⟨v3,rfl,h3,hb3⟩;obtain⟨s3,A3,k3,c3,rfl⟩:=h3.form;go_wp2_with fail;go_ret;exact⟨_,[1],rfl,WholeAt.single h3,HEE.out,(aB hb hb3).alloc (Nat.le_trans hb.size hb3.size) _⟩
    ·have q1:((b.length:Int)==1)=false:=by simp;omega
     have hb0:b≠[]:=fun e=>h0 (by rw[e];rfl);have hb1:1<b.length:=by omega
     have pq:=pE a b _ _ wy ha hbb hb0 HTa.out HTb.out K' _ ka kb hK1' (Nat.le_refl _) (by omega) hla (by omega);unfold oA at pq;go_wp2_with fail;refine pq.mono ?_;rintro e3 w3 ⟨vq,vr,vm,q,r,m,rfl,hq,hr,hm,hres,hb3⟩;obtain⟨Aq,cq,rfl, -⟩:=hq.form;obtain⟨Ar,cr,rfl,hcr⟩:=hr.form;obtain⟨s3,A3,k3,c3,rfl⟩:=hm.form;have hrl:=hres.r_lt;have hpr:=fun W hG h=>qJ r (.slice Ar r.length cr) W hG h hres.r_trim _ hres.br (by omega) (by omega);have ht:=j8 hres.r_trim;have hk:=mI hres.br;have hk2:∀n∈b,nl n.natAbs≤K'+(a.length+1-b.length)*(K'+1):=fun n hn=>Nat.le_trans (kb n hn) (Nat.le_add_right _ _);have hl:=gA r;have hnx:(K'+(a.length+1-b.length)*(K'+1)+1)*(b.length-(aZ r).length+2)*3^(aZ r).length≤B:=by rw[hl];exact DX HP.out hrl hab
     have hE:∀g,Euc B b (aZ r) g→Euc B X Y g:=fun g t=>HE.out g (Euc.step hb1 (hres.mono (by omega)) t);have HH:=Lib.hid (And.intro hnx (And.intro hE ht));have hK9:1≤K'+(a.length+1-b.length)*(K'+1):=Nat.le_trans hK1' (Nat.le_add_right _ _);have HLR:=Lib.hid hl;clear hl hres hnx hE ht pq h0 h1 hb0;generalize aZ r=P at *;generalize K'+(a.length+1-b.length)*(K'+1)=KK at *;replace hbb:=hbb.below hb3;replace hb:=aB hb hb3;go_wp2_with fail;have hbX:Below w3.heap.size w3 (w3.alloc (.cells #[.bool s3,.slice A3 k3 c3] 50)):=(Below.refl _ _).alloc (Nat.le_refl _) _;replace hbb:=hbb.below hbX;replace hr:=hr.below hbX;replace hb:=aB hb hbX;clear hbX;generalize w3.alloc (.cells #[.bool s3,.slice A3 k3 c3] 50)=w4 at *;refine(hpr _ (hG.below hb) hr).mono ?_;rintro e5 w5 ⟨v5,rfl,h5,hb5⟩;obtain⟨A5,c5,rfl,hc5⟩:=h5.form;replace hbb:=hbb.below hb5;replace hb:=aB hb hb5;go_wp2_with fail;go_roundg P.length
     case rel=>exact⟨b,P,Ab,cb,A5,c5,KK,rfl,rfl,rfl,hbb,h5,HTb,HH.out.2.2,HH.out.2.1,hk2,hk,hK9,by have:=HLR.out;omega,by omega,HH.out.1,hb⟩
     case measure=>have:=HL.out;have:=HLR.out;omega
end Go.Proofs.YtbhplgdbfmifkaaGreatDoor
namespace Go.Proofs.YtbhplgdbfmifkaaGreatDoor
open Sos
def Prp (A:List Rat) (a:List Int):Prop:=A.length=a.length∧aN a∧∃c:Rat,c≠0∧∀i,cf A i=c*cf a i
theorem fJ {n:Int} (h:n≠0):(n:Rat)≠0:=fun e=>h (Rat.intCast_inj.1 e)
theorem rG (c:Rat) (l:List Int) (i:Nat):cf (l.map (fun n:Int=>c*(n:Rat))) i=c*cf l i:=nY (fun n:Int=>c*(n:Rat)) (by show c*((0:Int):Rat)=0;rw[Rat.intCast_zero,Rat.mul_zero]) l i
theorem AF {c:Rat} {l:List Int} (hc:c≠0) (h:aN l):Prp (l.map (fun n:Int=>c*(n:Rat))) l:=⟨List.length_map _,h,c,hc,rG c l⟩
theorem Prp.ne {A:List Rat} {a:List Int} (h:Prp A a) (h0:a≠[]):cf A (A.length-1)≠0:=by
 obtain⟨hl,ht,c,hc,hA⟩:=h;rw[hA,hl];have:=fJ ((cZ h0).1 ht);intro e;rcases Rat.mul_eq_zero.1 e with e|e
 ·exact hc e
 ·exact this e
theorem Prp.trim {A:List Rat} {a:List Int} (h:Prp A a):aN A:=by
 by_cases h0:a=[]
 ·have:A=[]:=List.eq_nil_of_length_eq_zero (by rw[h.1,h0];rfl);rw[this];intro x hx;simp at hx
 ·exact(cZ (fun e=>h0 (List.eq_nil_of_length_eq_zero (by rw[←h.1,e];rfl)))).2 (h.ne h0)
theorem Prp.none {A:List Rat} (h:Prp A []):A=[]:=List.eq_nil_of_length_eq_zero h.1
theorem ID {A Bq Q R:List Rat} {a b q r:List Int} {KB:Nat} {m:Int} (hA:Prp A a) (hB:Prp Bq b) (hb:b≠[]) (h:PQRes a b KB m q r) (hD:DivQ A Bq Q R):Prp R r:=by
 obtain⟨hAl, -,c,hc,hA⟩:=hA;have hBn:=hB.ne hb;obtain⟨hBl, -,d,hd,hB⟩:=hB;have hm:=fJ h.m0;have hcm:c/m≠0:=by
  rw[Rat.div_def];intro e;rcases Rat.mul_eq_zero.1 e with e|e
  ·exact hc e
  ·exact hm (by have:=Rat.inv_inv (m:Rat);rw[e,Rat.inv_zero] at this;exact this.symm)
 have hq:DivQ A Bq (q.map (fun n:Int=>(c/m/d)*(n:Rat))) (r.map (fun n:Int=>(c/m)*(n:Rat))):=by
  have tq:aN (q.map (fun n:Int=>(c/m/d)*(n:Rat))):=by
   refine(AF ?_ h.q_trim).trim;rw[Rat.div_def];intro e;rcases Rat.mul_eq_zero.1 e with e|e
   ·exact hcm e
   ·exact hd (by have:=Rat.inv_inv d;rw[e,Rat.inv_zero] at this;exact this.symm)
  refine⟨fun i=> ?_,tq,(AF hcm h.r_trim).trim,by rw[List.length_map,hBl];exact h.r_lt⟩;rw[cO (rG _ q) hB i,fF,kZ,rG,hA];have h1:((m*cf a i:Int):Rat)=((conv (cf q) (cf b) i+cf r i:Int):Rat):=by rw[h.id_ i]
  rw[Rat.intCast_mul,Rat.intCast_add,o5] at h1;generalize conv (fun k=>((cf q k:Int):Rat)) (fun k=>((cf b k:Int):Rat)) i=z at *
  have h2:c/m/d*(d*z)=c/m*z:=by rw[←Rat.mul_assoc,Rat.div_mul_cancel hd]
  rw[h2];have h3:c/m*z+c/m*((cf r i:Int):Rat)=c/m*(m*cf a i):=by rw[h1];grind
  rw[h3,←Rat.mul_assoc,Rat.div_mul_cancel hm]
 obtain⟨-,rfl⟩:=hD.unique hq hBn (by rw[hBl];exact List.length_pos_iff.2 hb);exact AF hcm h.r_trim
theorem AG {R:List Rat} {r:List Int} (h:Prp R r):Prp R (aZ r):=by
 obtain⟨hl,ht,c,hc,hR⟩:=h;by_cases h0:r=[]
 ·subst h0;exact⟨hl,j8 ht,c,hc,fun i=>by rw[hR,bS];have:aZ []=[]:=List.eq_nil_of_length_eq_zero (gA []);rw[this,bS]⟩
 ·refine⟨by rw[gA];exact hl,j8 ht,c*((cA r:Int):Rat),fun e=> ?_,fun i=> ?_⟩
  ·rcases Rat.mul_eq_zero.1 e with e|e
   ·exact hc e
   ·exact fJ (DZ ht h0) e
  ·rw[hR,←E6 r i,Rat.intCast_mul];grind
def dB (g:List Int):List Rat:=aT g (cf g (g.length-1))
def nG (p:List Rat):List Rat:=aH aG (dL [] (1/cf p (p.length-1)) p)
theorem AH {p:List Rat} {e:List Int} (h:Prp p e):nG p=dB e:=by
 by_cases h0:e=[]
 ·subst h0;rw[h.none];rfl
 ·have hn:=h.ne h0;obtain⟨hl,ht,c,hc,hp⟩:=h;have hle:=(cZ h0).1 ht;refine iJ (fC _) (mN hle ht) (fun i=> ?_);unfold nG dB;rw[dS,oG,bS,jB,hp,hp,hl];have h3:=fJ hle;rw[hp,hl] at hn;grind
theorem rH {e:List Int} (ht:aN e):Prp (dB e) e:=by
 by_cases h0:e=[]
 ·subst h0;exact⟨rfl,ht,1,by decide,fun i=>by rw[bS];show cf [] i=_;rw[bS,Rat.intCast_zero,Rat.mul_zero]⟩
 ·have hle:=fJ ((cZ h0).1 ht);refine⟨List.length_map _,ht,1/((cf e (e.length-1):Int):Rat),fun h=> ?_,fun i=>by unfold dB;rw[jB];grind⟩;have:(1:Rat)=0:=by
   have h2:1/((cf e (e.length-1):Int):Rat)*((cf e (e.length-1):Int):Rat)=1:=Rat.div_mul_cancel hle;rw[←h2,h,Rat.zero_mul]
  exact absurd this (by decide)
theorem VU {e:List Int} (h:e.length=1) (ht:aN e):dB e=dB [1]:=by
 obtain⟨x,rfl⟩:∃x,e=[x]:=List.length_eq_one_iff.1 h;have hx:=ht x rfl;have:=fJ hx;show[(x:Rat)/(x:Rat)]=[((1:Int):Rat)/((1:Int):Rat)]
 have h1:(x:Rat)/x=1:=by grind
 have h2:((1:Int):Rat)/((1:Int):Rat)=1:=by rw[Rat.intCast_one];grind
 rw[h1,h2]
def Trc (B:Nat) (a b g:List Int):Prop:=Euc B a b g∨(b=[]∧a.length=1∧g=[1])∨a.length<b.length∧Euc B b a g∧∀n∈a,nl n.natAbs≤B
theorem Trc.done {B:Nat} {a g:List Int} (h:Trc B a [] g) (ht:aN a):dB a=dB g:=by
 rcases h with h|⟨-,h,rfl⟩|⟨h, -⟩
 ·cases h with
  |done=>rfl
  |one hb=>cases hb
  |step hb=>simp at hb
 ·exact VU h ht
 ·simp at h
theorem rI {A:List Rat} {D:Int} {K:Nat} (h:ComDen A D K) (t:aN A):Prp A (aI A D):=by
 have hD:=fJ (show D≠0 by have:=h.pos;omega);refine⟨(eK A D).symm,gR h.pos h.dvd t,1/(D:Rat),fun e=> ?_,fun i=> ?_⟩
 ·have h2:1/(D:Rat)*D=1:=Rat.div_mul_cancel hD;rw[e,Rat.zero_mul] at h2;exact absurd h2 (by decide)
 ·rw[lD A D h.dvd];grind
end Go.Proofs.YtbhplgdbfmifkaaGreatDoor
namespace Go.Proofs.YtbhplgdbfmifkaaGreatDoor
open Go.RowKit Sos
def qW (u:Value):Prop:=∃A n c,u= .slice A n c
def PRow (w:World) (B:Nat) (e:TypeId) (v:Value) (vals:List Value):Prop:=
 (v= .slice none 0 0∧vals=[])∨∃g cap cur,v= .slice (some ⟨g,0,none⟩) vals.length cap∧B≤g∧w.heap[g]? =some (.cells cur e (0,0))∧vals.length≤cap∧cap≤maxLen∧cur.size=cap∧cur.toList.take vals.length=vals∧∀u∈cur.toList,qW u
theorem PRow.nil (w:World) (B:Nat) (e:TypeId):PRow w B e (.slice none 0 0) []:= .inl ⟨rfl,rfl⟩
theorem PRow.below {w w':World} {B:Nat} {e:TypeId} {v:Value} {vals:List Value} (h:PRow w B e v vals) (hb:Below w.heap.size w w'):PRow w' B e v vals:=by
 rcases h with h|⟨g,cap,cur,hv,hB,hg,h⟩
 ·exact .inl h
 ·exact .inr ⟨g,cap,cur,hv,hB,(hb.block g (Array.getElem?_eq_some_iff.1 hg).1).trans hg,h⟩
theorem PRow.ge {w:World} {B:Nat} {e:TypeId} {v:Value} {vals:List Value} (h:PRow w B e v vals):∀g,v.ownBlock=some g→B≤g:=fun g hg=>by
 rcases h with ⟨rfl,_⟩|⟨g',cap,cur,rfl,hB,_⟩
 ·simp[Value.ownBlock] at hg
 ·simp[Value.ownBlock] at hg;omega
theorem PRow.form {w:World} {B:Nat} {e:TypeId} {v:Value} {vals:List Value} (h:PRow w B e v vals):∃A c,v= .slice A vals.length c∧vals.length≤c:=by
 rcases h with ⟨rfl,rfl⟩|⟨g',cap,cur,rfl,hB,_,hl,_⟩
 ·exact⟨none,0,rfl,Nat.le_refl _⟩
 ·exact⟨_,_,rfl,hl⟩
theorem PRow.at_ {w:World} {B:Nat} {e:TypeId} {A:Option Addr} {l c:Nat} {vals:List Value} (h:PRow w B e (.slice A l c) vals) {i:Nat} {u:Value} (hi:vals[i]? =some u):∃b,A=some ⟨b,0,none⟩∧b<w.heap.size∧w.cell? ⟨b,i,none⟩=some u:=by
 rcases h with ⟨_,rfl⟩|⟨g',cap,cur,hv,hB,hg,hl,hm,hs,ht,hn⟩
 ·simp at hi
 ·simp only[Value.slice.injEq] at hv;refine⟨g',hv.1,(Array.getElem?_eq_some_iff.1 hg).1,?_⟩;rw[cell_of_row w g' i cur e (0,0) hg,←Array.getElem?_toList];rw[←ht,List.getElem?_take] at hi;split at hi
  ·exact hi
  ·cases hi
theorem RA {w:World} {g:Nat} {cur cs:Array Value} {e:TypeId} (hg:w.heap[g]? =some (.cells cur e (0,0))) (hn:∀u∈cur.toList,qW u) {u:Value} {n:Nat} (h:NatAt w u n):NatAt (w.setRow g cs) u n:=by
 obtain⟨A,c,hv,hc,hr,ho⟩:=h;have hsz:(w.setRow g cs).heap.size=w.heap.size:=by simp[World.setRow]
 refine⟨A,c,hv,hc,?_,ho.mono (by rw[hsz];exact Nat.le_refl _)⟩;rcases hr with hr|⟨b,off,rfl,hlt,hcs⟩
 ·exact .inl hr
 ·by_cases hz:dg n=[]
  ·exact .inl hz
  ·have hbg:b≠g:=fun eb=>by
    subst eb;have h0:=hcs 0 (List.length_pos_iff.2 hz);rw[cell_of_row w b (off+0) cur e (0,0) hg,←Array.getElem?_toList] at h0;obtain⟨A',n',c',he⟩:=hn _ (List.mem_of_getElem? h0);cases he
   refine .inr ⟨b,off,rfl,by rw[hsz];exact hlt,fun i hi=> ?_⟩;exact(World.cell?_of_block (setRow_other w g b cs hbg)).trans (hcs i hi)
section
variable {P:Program} {ops:Array Oper} {rest:List Oper} {o:Oper} {a:Act} {Q:Exit→Act→World→Prop} {w:World}
theorem FG (hgd:o.guard=none) {s x:Operand} {t:TypeId} (ho:o.op= .call { callee:= .builtin .append,args:= #[s,x],argTypes:= #[t,t] })
  (e:TypeId) (bytes:Nat) (ht:P.underlying t=some (.slice e)) (hi:(P.info? e).map (fun i=>(i.zero,i.size,i.bytes))=some (some (.slice none 0 0),1,bytes))
  (B:Nat) (v:Value) (vals:List Value) (hs:a.eval s=v) (hrow:PRow w B e v vals) (b:Nat) (u:Value) (hx:a.eval x= .slice (some ⟨b,0,none⟩) 1 1) (hc:w.cell? ⟨b,0,none⟩=some u) (hu:qW u)
  (hbytes:(vals.length+1)*bytes≤140737488355328) (h63:vals.length+1≤maxLen) (hB:B≤w.heap.size)
  (h:∀v' w',PRow w' B e v' (vals++[u])→Keep w w'→w.grownBy w' v.ownBlock→wpList P ops Q rest (a.put o.dst v') w'):
  wpList P ops Q (o :: rest) a w:=by
 obtain⟨i,hi0,hz,hs1,hby⟩:=info_parts hi;have hsmall:vals.length+1≤9223372036854775807:=by simp only[maxLen] at h63;omega
 have hone:u.oneCell'=true:=by obtain⟨A,n,c,rfl⟩:=hu;rfl
 have hnews:∀j y,[u][j]? =some y→w.cell? ((⟨b,0,none⟩:Addr).add j)=some y:=fun j y hj=>by
  match j,hj with
  |0,hj=>simp at hj;subst hj;simpa [Addr.add] using hc
 have grown:∀(cap old:Nat),cap=grownCap w (vals.length+1) old e→vals.length+1≤cap→cap≤maxLen→∀row,(∀y∈vals,qW y)→
   PRow (w.drew.alloc (.cells (vals.toArray++[u].toArray++Builtin.zeroCells (Value.slice none 0 0).cells (cap-(vals.length+1))) e)) B e (.slice (some ⟨w.heap.size,0,none⟩) (vals.length+1) cap) (vals++[u])∧
   Keep w (w.drew.alloc (.cells (vals.toArray++[u].toArray++Builtin.zeroCells (Value.slice none 0 0).cells (cap-(vals.length+1))) e))∧
   w.grownBy (w.drew.alloc (.cells (vals.toArray++[u].toArray++Builtin.zeroCells (Value.slice none 0 0).cells (cap-(vals.length+1))) e)) row:=by
  intro cap old _ h1 h2 row hv;have hzc:(Builtin.zeroCells (Value.slice none 0 0).cells (cap-(vals.length+1))).size=cap-(vals.length+1):=by rw[size_zeroCells];simp[Value.cells]
  refine⟨.inr ⟨w.heap.size,cap,_,by rw[List.length_append];rfl,hB,heap_alloc_new w.drew _,by rw[List.length_append];exact h1,h2,?_,?_,?_⟩,Keep.below ((Below.refl w.heap.size w).drew.alloc (Nat.le_refl _) _),⟨rfl,rfl,rfl,by simp,fun k hk _=>heap_alloc_old w.drew _ hk⟩⟩
  ·rw[Array.size_append,Array.size_append,hzc];simp;omega
  ·rw[Array.toList_append,Array.toList_append];exact List.take_left
  ·intro y hy;rw[Array.toList_append,Array.toList_append] at hy;rcases List.mem_append.1 hy with hy|hy
   ·rcases List.mem_append.1 hy with hy|hy
    ·exact hv y hy
    ·have hyu:y=u:=by simpa using hy
     rw[hyu];exact hu
   ·have hy2:y∈Builtin.zeroCells #[Value.slice none 0 0] (cap-(vals.length+1)):=Array.mem_toList_iff.1 hy;unfold Builtin.zeroCells at hy2;obtain⟨j,_,rfl⟩:=Array.mem_map.1 hy2;simp only[List.size_toArray,List.length_cons,List.length_nil,Nat.zero_add,Nat.mod_one];exact⟨none,0,0,rfl⟩
 have key:∃v' w',(Builtin.append_ #[t,t] o.type #[v,.slice (some ⟨b,0,none⟩) 1 1]).run P w= .ok v' w'∧PRow w' B e v' (vals++[u])∧Keep w w'∧w.grownBy w' v.ownBlock:=by
  have hcp:=grownCap_ge w (vals.length+1);have hcm:=fun old=>grownCap_le_maxLen w (vals.length+1) old e h63;rcases hrow with ⟨rfl,rfl⟩|⟨g,cap,cur,rfl,hBg,hg,hl,hm,hsz,htk,hn⟩
  ·have hr:=run_append_nil (P:=P) w t o.type e i (.slice none 0 0) ht hi0 hz ⟨b,0,none⟩ 1 1 [u] (by rw[hs1];rfl) hnews (by omega) (by omega) (by rw[hby];simp at hbytes;omega);have hgr:=grown _ 0 rfl (hcp 0 e) (hcm 0) (Value.ownBlock (.slice none 0 0)) (fun y hy=>by cases hy);simp only[List.length_nil,Nat.zero_add,List.nil_append,Array.empty_append] at hgr⊢;exact⟨_,_,hr,hgr⟩
  ·have hvs:∀y∈vals,qW y:=fun y hy=>hn y (by rw[←htk] at hy;exact List.mem_of_mem_take hy);by_cases hroom:vals.length+1≤cap
   ·have hr:=run_append_room (P:=P) w t o.type e i ht hi0 g vals.length cap cur hg ⟨b,0,none⟩ 1 1 [u] (by rw[hs1];rfl) hnews (fun y hy=>by rw[List.mem_singleton.1 hy];exact hone) hroom (by rw[hs1];simp;omega);rw[hs1,Nat.mul_one,htk] at hr;refine⟨_,_,hr,.inr ⟨g,cap,_,by rw[List.length_append];rfl,hBg,setRow_heap w g cur _ e _ hg,by rw[List.length_append];exact hroom,hm,?_,?_,?_⟩,fun x n hx=>RA hg hn hx,⟨rfl,rfl,rfl,by simp[World.setRow],fun k _ hk=>setRow_other w g k _ (fun e=>hk (by simp[Value.ownBlock,e]))⟩⟩
    ·simp[List.length_drop];omega
    ·exact List.take_left
    ·intro y hy;have hy':y∈vals++[u]++cur.toList.drop (vals.length+[u].length):=hy;rcases List.mem_append.1 hy' with hy|hy
     ·rcases List.mem_append.1 hy with hy|hy
      ·exact hvs y hy
      ·rw[List.mem_singleton.1 hy];exact hu
     ·exact hn y (List.mem_of_mem_drop hy)
   ·have holds:∀j y,vals[j]? =some y→w.cell? ((⟨g,0,none⟩:Addr).add j)=some y:=fun j y hj=>by
     have h1:w.cell? ⟨g,j,none⟩=some y:=by
      rw[cell_of_row w g j cur e (0,0) hg,←Array.getElem?_toList];rw[←htk,List.getElem?_take] at hj;split at hj
      ·exact hj
      ·cases hj
     unfold Addr.add;split
     ·rename_i h0;subst h0;simpa using h1
     ·simpa using h1
    have hr:=run_append_grow (P:=P) w t o.type e i (.slice none 0 0) ht hi0 hz ⟨g,0,none⟩ vals.length cap vals (by rw[hs1,Nat.mul_one]) holds ⟨b,0,none⟩ 1 1 [u] (by rw[hs1];rfl) hnews (by omega) (by omega) (growslice_fits (by omega) (by rw[hby];exact hbytes));have hgr:=grown _ cap rfl (hcp cap e) (hcm cap) (Value.ownBlock (.slice (some ⟨g,0,none⟩) vals.length cap)) hvs;exact⟨_,_,hr,hgr⟩
 obtain⟨v',w',hrun,h2,h3,h4⟩:=key;refine wpList_plain hgd fun K hK=> ?_;unfold Oper.wp execOp;simp only[ho,resolve,invoke,builtin,Sem.run_bind,Sem.run_pure,Result.andThen_ok,List.map_toArray,List.map_cons,List.map_nil,hs,hx,hrun];exact hK _ _ (h v' w' h2 h3 h4)
end
def RowsAt {α:Type} (E:World→Value→α→Prop) (w:World) (B:Nat) (e:TypeId) (v:Value) (ls:List α):Prop:=
 ∃vals,PRow w B e v vals∧vals.length=ls.length∧∀(i:Nat) (u:Value) (l:α),vals[i]? =some u→ls[i]? =some l→E w u l
theorem RowsAt.nil {α:Type} (E:World→Value→α→Prop) (w:World) (B:Nat) (e:TypeId):RowsAt E w B e (.slice none 0 0) []:=⟨[],PRow.nil _ _ _,rfl,fun i u l h=>by simp at h⟩
theorem RowsAt.form {α:Type} {E:World→Value→α→Prop} {w:World} {B:Nat} {e:TypeId} {v:Value} {ls:List α} (h:RowsAt E w B e v ls):∃A c,v= .slice A ls.length c∧ls.length≤c:=by
 obtain⟨vals,h1,h2,_⟩:=h;rw[←h2];exact h1.form
theorem RowsAt.at_ {α:Type} {E:World→Value→α→Prop} {w:World} {B:Nat} {e:TypeId} {A:Option Addr} {n c:Nat} {ls:List α} (h:RowsAt E w B e (.slice A n c) ls) {i:Nat} {l:α} (hi:ls[i]? =some l):∃b u,A=some ⟨b,0,none⟩∧b<w.heap.size∧w.cell? ⟨b,i,none⟩=some u∧E w u l:=by
 obtain⟨vals,h1,h2,h3⟩:=h;have hl:i<vals.length:=by rw[h2];exact(List.getElem?_eq_some_iff.1 hi).1
 obtain⟨b,hA,hb,hc⟩:=h1.at_ (List.getElem?_eq_getElem hl);exact⟨b,_,hA,hb,hc,h3 i _ l (List.getElem?_eq_getElem hl) hi⟩
abbrev WsAt:=RowsAt WholeAt
abbrev TsAt:=RowsAt StrsAt
theorem WsAt.below {w w':World} {B:Nat} {v:Value} {ls:List (List Int)} (h:WsAt w B 47 v ls) (hb:Below w.heap.size w w'):WsAt w' B 47 v ls:=by
 obtain⟨vals,h1,h2,h3⟩:=h;exact⟨vals,h1.below hb,h2,fun i u l hu hl=>(h3 i u l hu hl).below hb⟩
theorem TsAt.below {w w':World} {B:Nat} {v:Value} {ls:List (List (List UInt8))} (h:TsAt w B 22 v ls) (hb:Below w.heap.size w w'):TsAt w' B 22 v ls:=by
 obtain⟨vals,h1,h2,h3⟩:=h;exact⟨vals,h1.below hb,h2,fun i u l hu hl=>(h3 i u l hu hl).below hb⟩
theorem WholeAt.grown {w w':World} {B:Nat} {v u:Value} {vals:List Value} {l:List Int} (h:WholeAt w u l) (hr:PRow w B 47 v vals) (hk:Keep w w') (hg:w.grownBy w' v.ownBlock):WholeAt w' u l:=by
 obtain⟨A,c,e,hc,h⟩:=h;refine⟨A,c,e,hc,?_⟩;rcases h with h|⟨b,rows,e',hr',hi⟩
 ·exact .inl h
 ·refine .inr ⟨b,rows,e',⟨(hg.block b hr'.lt (fun hb=> ?_)).trans hr'.1,hr'.2⟩,hi.keep hk⟩;rcases hr with ⟨rfl,_⟩|⟨g,cap,cur,rfl,_,hgg,_⟩
  ·simp[Value.ownBlock] at hb
  ·simp[Value.ownBlock] at hb;subst hb;have h1:w.heap[b]? =some (.cells rows.flatten.toArray 50 (0,0)):=hr'.1;rw[hgg] at h1;injection h1 with h1;injection h1 with _ h1;exact absurd h1 (by decide)
theorem StrsAt.grown {w w':World} {B:Nat} {e:TypeId} {v u:Value} {vals:List Value} {l:List (List UInt8)} (h:StrsAt w u l) (hr:PRow w B e v vals) (hg:w.grownBy w' v.ownBlock):StrsAt w' u l:=by
 obtain⟨A,c,e',hc,h⟩:=h;refine⟨A,c,e',hc,?_⟩;rcases h with h|⟨b,off,e'',hl,hi⟩
 ·exact .inl h
 ·by_cases hl0:l=[]
  ·exact .inl hl0
  ·refine .inr ⟨b,off,e'',Nat.lt_of_lt_of_le hl hg.size,fun i t ht=>(World.cell?_of_block (hg.block b hl (fun hb=> ?_))).trans (hi i t ht)⟩;rcases hr with ⟨rfl,_⟩|⟨g,cap,cur,rfl,_,hgg,_,_,_,_,hn⟩
   ·simp[Value.ownBlock] at hb
   ·simp[Value.ownBlock] at hb;subst hb;have h0:=hi i t ht;rw[cell_of_row w b (off+i) cur e (0,0) hgg,←Array.getElem?_toList] at h0;obtain⟨A',n',c',he⟩:=hn _ (List.mem_of_getElem? h0);cases he
theorem WsAt.push {w w':World} {B:Nat} {v v' u:Value} {vals:List Value} {ls:List (List Int)} {l:List Int} (h1:PRow w B 47 v vals) (h2:vals.length=ls.length) (h3:∀(i:Nat) (u:Value) (l:List Int),vals[i]? =some u→ls[i]? =some l→WholeAt w u l) (hu:WholeAt w u l)
  (hp:PRow w' B 47 v' (vals++[u])) (hk:Keep w w') (hg:w.grownBy w' v.ownBlock):WsAt w' B 47 v' (ls++[l]):=by
 refine⟨_,hp,by rw[List.length_append,List.length_append,h2];rfl,fun i x y hx hy=> ?_⟩;rcases Nat.lt_or_ge i vals.length with hi|hi
 ·rw[List.getElem?_append_left hi] at hx;rw[List.getElem?_append_left (by omega)] at hy;exact(h3 i x y hx hy).grown h1 hk hg
 ·rw[List.getElem?_append_right hi] at hx;rw[List.getElem?_append_right (by omega),←h2] at hy;have h0:i-vals.length=0:=by
   have:=(List.getElem?_eq_some_iff.1 hx).1;simp at this;omega
  rw[h0] at hx hy;simp at hx hy;subst hx;subst hy;exact hu.grown h1 hk hg
theorem TsAt.push {w w':World} {B:Nat} {v v' u:Value} {vals:List Value} {ls:List (List (List UInt8))} {l:List (List UInt8)} (h1:PRow w B 22 v vals) (h2:vals.length=ls.length) (h3:∀(i:Nat) (u:Value) (l:List (List UInt8)),vals[i]? =some u→ls[i]? =some l→StrsAt w u l) (hu:StrsAt w u l)
  (hp:PRow w' B 22 v' (vals++[u])) (hg:w.grownBy w' v.ownBlock):TsAt w' B 22 v' (ls++[l]):=by
 refine⟨_,hp,by rw[List.length_append,List.length_append,h2];rfl,fun i x y hx hy=> ?_⟩;rcases Nat.lt_or_ge i vals.length with hi|hi
 ·rw[List.getElem?_append_left hi] at hx;rw[List.getElem?_append_left (by omega)] at hy;exact(h3 i x y hx hy).grown h1 hg
 ·rw[List.getElem?_append_right hi] at hx;rw[List.getElem?_append_right (by omega),←h2] at hy;have h0:i-vals.length=0:=by
   have:=(List.getElem?_eq_some_iff.1 hx).1;simp at this;omega
  rw[h0] at hx hy;simp at hx hy;subst hx;subst hy;exact hu.grown h1 hg
theorem FH {B:Nat} {a w w':World} {v:Value} {e:TypeId} {vals:List Value} (h:Below B a w) (hg:w.grownBy w' v.ownBlock) (hr:PRow w B e v vals) (hB:B≤a.heap.size):Below B a w':=
 ⟨hg.os.trans h.os,hg.tape.trans h.tape,hg.output.trans h.output,Nat.le_trans h.size hg.size,fun k hk=>(hg.block k (Nat.lt_of_lt_of_le hk (Nat.le_trans hB h.size)) (fun e=>by have:=hr.ge k e.symm;omega)).trans (h.block k hk)⟩
theorem RB:(Tryz.prog.info? 47).map (fun i=>(i.zero,i.size,i.bytes))=some (some (.slice none 0 0),1,24):=by kernel_rfl
section
variable {P:Program} {ops:Array Oper} {rest:List Oper} {o:Oper} {a:Act} {Q:Exit→Act→World→Prop} {w:World}
end
def dG (xs ys:List Int) (y:Int):List Int:=(List.range (max xs.length ys.length)).map (fun i=>cf xs i+cf ys i*y)
theorem WholeAt.rows' {w:World} {A:Option Addr} {c:Nat} {ns:List Int} (h:WholeAt w (.slice A ns.length c) ns):
  ∃rows:List (List Value),rows.length=ns.length∧(∀r∈rows,r.length=2)∧Src w A rows.flatten∧IRow w rows ns∧∀u∈rows.flatten,u.oneCell'=true:=by
 by_cases h0:ns=[]
 ·subst h0;exact⟨[],rfl,(fun r hr=>by cases hr),.inl rfl,(fun i n hn=>by simp at hn),(fun u hu=>by simp at hu)⟩
 ·obtain⟨rows,h1,h2,h3,h4,h5,h6⟩:=h.rows h0;exact⟨rows,h1,h3,h4,h5,h6⟩
end Go.Proofs.YtbhplgdbfmifkaaGreatDoor
