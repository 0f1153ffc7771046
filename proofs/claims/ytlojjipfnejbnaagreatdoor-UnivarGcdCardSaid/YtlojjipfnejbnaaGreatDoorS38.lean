/-
  Contracts of functions that the statement reaches, and plain laws: NumT, NumU, RefA, PlusA, RefP, UniK, ArP, RowL.
-/
import Derived.Test.YtlojjipfnejbnaaGreatDoorS19
import Derived.Test.YtlojjipfnejbnaaGreatDoorS26
import Derived.Test.YtlojjipfnejbnaaGreatDoorS29
import Derived.Test.YtlojjipfnejbnaaGreatDoorS33
import Derived.Test.YtlojjipfnejbnaaGreatDoorS35
import Derived.Test.YtlojjipfnejbnaaGreatDoorS36
import Derived.Test.YtlojjipfnejbnaaGreatDoorS37
set_option linter.unusedVariables false
set_option linter.unusedSimpArgs false
set_option maxHeartbeats 8000000
set_option maxRecDepth 100000
namespace Go.Proofs.YtlojjipfnejbnaaGreatDoor
open Go.RowKit Sos
abbrev R4 (w:World) (b o:Nat) (v0 v1 v2 v3:Value):Prop:=w.cell? ⟨b,o,none⟩=some v0∧w.cell? ⟨b,o+1,none⟩=some v1∧w.cell? ⟨b,o+2,none⟩=some v2∧w.cell? ⟨b,o+3,none⟩=some v3
def QRow (w:World) (rows:List (List Value)) (qs:List Rat):Prop:=∀(i:Nat) (q:Rat),qs[i]? =some q→∃s A l c s' A' l' c',rows[i]? =some [Value.bool s,Value.slice A l c,Value.bool s',Value.slice A' l' c']∧NQ w (.agg #[.bool s,.slice A l c,.bool s',.slice A' l' c']) q
def QsAt (w:World) (v:Value) (qs:List Rat):Prop:=∃A c,v= .slice A qs.length c∧qs.length≤c∧(A=none∧qs=[]∨∃b rows,A=some ⟨b,0,none⟩∧Rw w b 4 rows 96∧qs.length≤rows.length∧QRow w rows qs)
def OwnQ (w:World) (b:Nat) (qs:List Rat):Prop:=∃rows,Rw w b 4 rows 96∧qs.length≤rows.length∧QRow w rows qs
def pO (g:Nat) (w W:World):Prop:=KM w W∧jJ g w W
theorem KM.put {w:World} {p:Addr} {c:Value} (hp:w.cell? p=some c) (hc:NoInt c) (v:Value):KM w (w.setCell p v):=
 ⟨by simp,fun q k x hq=>by
  rw[World.cell?_setCell_other _ _ _ _ ?_,hq];rintro rfl;rw[hp] at hq;injection hq with hq;exact absurd hq (hc _ _)⟩
theorem rA:(Tryz.prog.info? 96).map (fun i=>(i.zero,i.size,i.bytes))=some (some (.agg #[.bool false,.slice none 0 0,.bool false,.slice none 0 0]),4,64):=by kernel_rfl
section
variable {w w':World} {b:Nat} {qs:List Rat} {v:Value} {rows:List (List Value)}
theorem QRow.keep (h:QRow w rows qs) (hk:KM w w'):QRow w' rows qs:=fun i q hi=>by
 obtain⟨s,A,l,c,s',A',l',c',h1,h2⟩:=h i q hi;exact⟨s,A,l,c,s',A',l',c',h1,h2.keep hk⟩
theorem QRow.take (h:QRow w rows qs) (m:Nat):QRow w rows (qs.take m):=fun i q hi=>by
 rw[List.getElem?_take] at hi;split at hi
 ·exact h i q hi
 ·cases hi
theorem QsAt.below (h:QsAt w v qs) (hb:Below w.heap.size w w'):QsAt w' v qs:=by
 obtain⟨A,c,hv,hc,h⟩:=h;refine⟨A,c,hv,hc,?_⟩;rcases h with h|⟨b,rows,e,hr,hl,hi⟩
 ·exact .inl h
 ·exact .inr ⟨b,rows,e,hr.below hb,hl,hi.keep (KM.below hb)⟩
theorem QsAt.drew (h:QsAt w v qs):QsAt w.drew v qs:=h.below (Below.refl _ _).drew
theorem QsAt.step {A:Option Addr} {l c g:Nat} (h:QsAt w (.slice A l c) qs) (hs:pO g w w') (hne:∀b,A=some ⟨b,0,none⟩→b≠g):QsAt w' (.slice A l c) qs:=by
 obtain⟨A',c',e,hc,h⟩:=h;refine⟨A',c',e,hc,?_⟩;simp only[Value.slice.injEq] at e;obtain⟨rfl,rfl,rfl⟩:=e;rcases h with h|⟨b,rows,e,hr,hl,hi⟩
 ·exact .inl h
 ·exact .inr ⟨b,rows,e,⟨(hs.2.2.1 b (hne b e)).trans hr.1,hr.2⟩,hl,hi.keep hs.1⟩
theorem QsAt.nil (w:World):QsAt w (.slice none 0 0) []:=⟨none,0,rfl,Nat.le_refl _,.inl ⟨rfl,rfl⟩⟩
theorem QsAt.form (h:QsAt w v qs):∃A c,v= .slice A qs.length c∧qs.length≤c:=by
 obtain⟨A,c,hv,hc,_⟩:=h;exact⟨A,c,hv,hc⟩
theorem QsAt.cut {A:Option Addr} {c l:Nat} (h:QsAt w (.slice A l c) qs) (m:Nat) (hm:m≤qs.length):QsAt w (.slice A m c) (qs.take m):=by
 obtain⟨A',c',e,hc,h⟩:=h;simp only[Value.slice.injEq] at e;obtain⟨rfl,rfl,rfl⟩:=e;refine⟨A,c,by rw[List.length_take,Nat.min_eq_left hm],by rw[List.length_take];omega,?_⟩;rcases h with ⟨h,h'⟩|⟨b,rows,e,hr,hl,hi⟩
 ·exact .inl ⟨h,by rw[h'];simp⟩
 ·exact .inr ⟨b,rows,e,hr,by rw[List.length_take];omega,hi.take m⟩
theorem OwnQ.lt (h:OwnQ w b qs):b<w.heap.size:=by
 obtain⟨rows,hr,_⟩:=h;exact hr.lt
theorem OwnQ.below (h:OwnQ w b qs) (hb:Below w.heap.size w w'):OwnQ w' b qs:=by
 obtain⟨rows,hr,hl,hi⟩:=h;exact⟨rows,hr.below hb,hl,hi.keep (KM.below hb)⟩
theorem OwnQ.drew (h:OwnQ w b qs):OwnQ w.drew b qs:=h.below (Below.refl _ _).drew
theorem OwnQ.step {g:Nat} (h:OwnQ w b qs) (hs:pO g w w') (hne:b≠g):OwnQ w' b qs:=by
 obtain⟨rows,hr,hl,hi⟩:=h;exact⟨rows,⟨(hs.2.2.1 b hne).trans hr.1,hr.2⟩,hl,hi.keep hs.1⟩
theorem OwnQ.nums (h:OwnQ w b qs) (c:Nat) (hc:qs.length≤c):QsAt w (.slice (some ⟨b,0,none⟩) qs.length c) qs:=by
 obtain⟨rows,hr,hl,hi⟩:=h;exact⟨_,c,rfl,hc,.inr ⟨b,rows,rfl,hr,hl,hi⟩⟩
theorem OwnQ.free (h:OwnQ w b qs) (j:Nat):w.frozen? ⟨b,j,none⟩=false:=by
 obtain⟨rows,hr,_⟩:=h;exact hr.free j
theorem OwnQ.at_ (h:OwnQ w b qs) {i:Nat} {q:Rat} (hi:qs[i]? =some q):
  ∃s B m d s' B' m' d',R4 w b (i*4) (.bool s) (.slice B m d) (.bool s') (.slice B' m' d')∧NQ w (.agg #[.bool s,.slice B m d,.bool s',.slice B' m' d']) q:=by
 obtain⟨rows,hr,hl,hir⟩:=h;obtain⟨s,B,m,d,s',B',m',d',h1,h2⟩:=hir i q hi;exact⟨s,B,m,d,s',B',m',d',⟨hr.cell 0 h1 rfl,hr.cell 1 h1 rfl,hr.cell 2 h1 rfl,hr.cell 3 h1 rfl⟩,h2⟩
theorem QsAt.at_ {A:Option Addr} {c l:Nat} (h:QsAt w (.slice A l c) qs) {i:Nat} {q:Rat} (hi:qs[i]? =some q):
  ∃b s B m d s' B' m' d',A=some ⟨b,0,none⟩∧b<w.heap.size∧R4 w b (i*4) (.bool s) (.slice B m d) (.bool s') (.slice B' m' d')∧NQ w (.agg #[.bool s,.slice B m d,.bool s',.slice B' m' d']) q:=by
 obtain⟨A',c',e,hc,h⟩:=h;simp only[Value.slice.injEq] at e;obtain⟨rfl,rfl,rfl⟩:=e;rcases h with ⟨-,h⟩|⟨b,rows,e,hr, -,hir⟩
 ·rw[h] at hi;simp at hi
 ·obtain⟨s,B,m,d,s',B',m',d',h1,h2⟩:=hir i q hi;exact⟨b,s,B,m,d,s',B',m',d',e,hr.lt,⟨hr.cell 0 h1 rfl,hr.cell 1 h1 rfl,hr.cell 2 h1 rfl,hr.cell 3 h1 rfl⟩,h2⟩
theorem OwnQ.stored (h:OwnQ w b qs) {i:Nat} (hi:i<qs.length) {s s':Bool} {A A':Option Addr} {l c l' c':Nat} {q:Rat} (hn:NQ w (.agg #[.bool s,.slice A l c,.bool s',.slice A' l' c']) q):
  let W:=(((w.setCell ⟨b,i*4,none⟩ (.bool s)).setCell ⟨b,i*4+1,none⟩ (.slice A l c)).setCell ⟨b,i*4+2,none⟩ (.bool s')).setCell ⟨b,i*4+3,none⟩ (.slice A' l' c')
  OwnQ W b (qs.set i q)∧pO b w W:=by
 obtain⟨rows,hr,hl,hir⟩:=h;obtain⟨s1,A1,l1,c1,s2,A2,l2,c2,h1,h2⟩:=hir i qs[i] (List.getElem?_eq_getElem hi);have hlt:i<rows.length:=by omega
 have r1:=hr.set 0 h1 (by omega) (.bool s);have g1:(rows.set i ([Value.bool s1,.slice A1 l1 c1,.bool s2,.slice A2 l2 c2].set 0 (.bool s)))[i]? =some [.bool s,.slice A1 l1 c1,.bool s2,.slice A2 l2 c2]:=by rw[List.getElem?_set_self hlt];rfl
 have r2:=r1.set 1 g1 (by omega) (.slice A l c);rw[List.set_set] at r2;have g2:(rows.set i ([Value.bool s,.slice A1 l1 c1,.bool s2,.slice A2 l2 c2].set 1 (.slice A l c)))[i]? =some [.bool s,.slice A l c,.bool s2,.slice A2 l2 c2]:=by rw[List.getElem?_set_self hlt];rfl
 have r3:=r2.set 2 g2 (by omega) (.bool s');rw[List.set_set] at r3;have g3:(rows.set i ([Value.bool s,.slice A l c,.bool s2,.slice A2 l2 c2].set 2 (.bool s')))[i]? =some [.bool s,.slice A l c,.bool s',.slice A2 l2 c2]:=by rw[List.getElem?_set_self hlt];rfl
 have r4:=r3.set 3 g3 (by omega) (.slice A' l' c');rw[List.set_set] at r4;have a0:=hr.cell 0 h1 rfl;have a1:=r1.cell 1 g1 rfl;have a2:=r2.cell 2 g2 rfl;have a3:=r3.cell 3 g3 rfl;have hk:=(((KM.put a0 (NoInt.bool _) (.bool s)).trans (KM.put a1 (NoInt.slice _ _ _) (.slice A l c))).trans (KM.put a2 (NoInt.bool _) (.bool s'))).trans (KM.put a3 (NoInt.slice _ _ _) (.slice A' l' c'));refine⟨⟨_,r4,by simpa using hl,fun j m hj=> ?_⟩,hk,(((Keep.put a0 (NoInt.bool _) _).trans (Keep.put a1 (NoInt.slice _ _ _) _)).trans (Keep.put a2 (NoInt.bool _) _)).trans (Keep.put a3 (NoInt.slice _ _ _) _),fun g hg=> ?_,by simp,rfl,rfl,rfl⟩
 ·by_cases e:i=j
  ·subst e;rw[List.getElem?_set_self hi] at hj;injection hj with hj;subst hj;exact⟨s,A,l,c,s',A',l',c',by rw[List.getElem?_set_self hlt];rfl,hn.keep hk⟩
  ·rw[List.getElem?_set_ne e] at hj;obtain⟨a1,a2,a3,a4,a5,a6,a7,a8,k1,k2⟩:=hir j m hj;exact⟨a1,a2,a3,a4,a5,a6,a7,a8,by rw[List.getElem?_set_ne e];exact k1,k2.keep hk⟩
 ·rw[Below.heap_setCell _ ⟨b,i*4+3,none⟩ _ g hg,Below.heap_setCell _ ⟨b,i*4+2,none⟩ _ g hg,Below.heap_setCell _ ⟨b,i*4+1,none⟩ _ g hg,Below.heap_setCell _ ⟨b,i*4,none⟩ _ g hg]
theorem OwnQ.made {n:Nat} (h:Rw w b 4 (List.replicate n [.bool false,.slice none 0 0,.bool false,.slice none 0 0]) 96):OwnQ w b (List.replicate n 0):=
 ⟨_,h,by simp,fun i m hi=>⟨false,none,0,0,false,none,0,0,by
  have:=(List.getElem?_eq_some_iff.1 hi).1;rw[List.length_replicate] at this;rw[List.getElem?_replicate,if_pos this],by
  have:=List.getElem?_replicate (n:=n) (a:=(0:Rat)) (i:=i);rw[hi] at this;split at this
  ·injection this with this;subst this;exact NQ.zero w
  ·cases this⟩⟩
theorem Rw.src {k n:Nat} {t:TypeId} (hr:Rw w b k rows t) (h0:0<k) (hn:n≤rows.length):Src w (some ⟨b,0,none⟩) (rows.take n).flatten:=by
 have hk:∀r∈rows.take n,r.length=k:=fun r h=>hr.2 r (List.mem_of_mem_take h);refine .inr ⟨b,0,rfl,fun j u hu=> ?_⟩;have hj:j<n*k:=by
  have:=(List.getElem?_eq_some_iff.1 hu).1;rw[gK hk,List.length_take,Nat.min_eq_left hn] at this;exact this
 have hd:j/k<n:=by rw[Nat.div_lt_iff_lt_mul h0];exact hj
 obtain⟨r,hri⟩:∃r,(rows.take n)[j/k]? =some r:=⟨_,List.getElem?_eq_getElem (by rw[List.length_take];omega)⟩;have h1:=mS hk hri (Nat.mod_lt j h0);have e:j/k*k+j%k=j:=by rw[Nat.mul_comm];exact Nat.div_add_mod j k
 rw[e,hu] at h1;rw[List.getElem?_take,if_pos hd] at hri;have:=hr.cell (j%k) hri h1.symm;rw[e] at this;rw[Nat.zero_add];exact this
theorem QsAt.srcs {A:Option Addr} {c l:Nat} (h:QsAt w (.slice A l c) qs):
  ∃rows:List (List Value),rows.length=qs.length∧l=qs.length∧(∀r∈rows,r.length=4)∧Src w A rows.flatten∧QRow w rows qs∧∀u∈rows.flatten,u.oneCell'=true:=by
 obtain⟨A',c',e,hc,h⟩:=h;simp only[Value.slice.injEq] at e;obtain⟨rfl,rfl,rfl⟩:=e;rcases h with ⟨rfl,rfl⟩|⟨b,rows,rfl,hr,hl,hi⟩
 ·exact⟨[],rfl,rfl,(fun _ h=>by cases h),.inl rfl,(fun i q h=>by simp at h),(fun _ h=>by cases h)⟩
 ·have hi':QRow w (rows.take qs.length) qs:=fun i q hq=>by
   obtain⟨s,A,l,c,s',A',l',c',e1,e2⟩:=hi i q hq;exact⟨s,A,l,c,s',A',l',c',by rw[List.getElem?_take,if_pos (List.getElem?_eq_some_iff.1 hq).1];exact e1,e2⟩
  refine⟨rows.take qs.length,by rw[List.length_take];omega,rfl,fun r h=>hr.2 r (List.mem_of_mem_take h),hr.src (by decide) hl,hi',fun u hu=> ?_⟩;obtain⟨r,hr1,hr2⟩:=List.mem_flatten.1 hu;obtain⟨i,hi1⟩:=List.mem_iff_getElem?.1 hr1;have h1:=(List.getElem?_eq_some_iff.1 hi1).1;rw[List.length_take] at h1;obtain⟨s,A,l,c,s',A',l',c',e1,_⟩:=hi' i _ (List.getElem?_eq_getElem (by omega));rw[hi1] at e1;injection e1 with e1;subst e1;simp at hr2;rcases hr2 with rfl|rfl|rfl|rfl<;>rfl
theorem GW {base n:Nat} (h:w.ownsRow base 96 4 v n rows.flatten) (hk:∀r∈rows,r.length=4) (hn:rows.length=n) (hqs:qs.length=n) (hi:QRow w rows qs):
  QsAt w v qs∧(v= .slice none 0 0∨∃g cap,v= .slice (some ⟨g,0,none⟩) n cap∧base≤g∧OwnQ w g qs):=by
 rcases h.2 with ⟨rfl,h'⟩|⟨g,cap,cur,rfl,hb,hg,hc,hm,hs,ht⟩
 ·obtain rfl:qs=[]:=List.eq_nil_of_length_eq_zero (by omega);exact⟨QsAt.nil w,.inl rfl⟩
 ·obtain⟨rows',h1,h2,h3⟩:=uY 4 cap cur.toList (by simpa using hs);have hO:OwnQ w g qs:=by
   refine⟨rows',⟨by unfold Bx;rw[hg,h2],h3⟩,by omega,fun i m hm'=> ?_⟩;obtain⟨s,A,l,c,s',A',l',c',e1,e2⟩:=hi i m hm';refine⟨s,A,l,c,s',A',l',c',?_,e2⟩;have hin:i<n:=by rw[←hqs];exact(List.getElem?_eq_some_iff.1 hm').1
   obtain⟨r',hr'⟩:∃r',rows'[i]? =some r':=⟨_,List.getElem?_eq_getElem (by omega)⟩;rw[hr'];congr 1;have hl':=h3 r' (List.mem_of_getElem? hr');refine List.ext_getElem? (fun j=> ?_);by_cases hj:j<4
   ·rw[←mS h3 hr' hj,←mS hk e1 hj,h2,←ht,List.getElem?_take,if_pos (by omega)]
   ·rw[List.getElem?_eq_none (by omega),List.getElem?_eq_none (by simp;omega)]
  have:=hO.nums cap (by omega);rw[hqs] at this;exact⟨this,.inr ⟨g,cap,rfl,hb,hO⟩⟩
theorem UC (w:World):(w.alloc (.cells #[] 96)).ownsRow w.heap.size 96 4 (.slice (some ⟨w.heap.size,0,none⟩) 0 0) 0 []:=
 ⟨by simp,.inr ⟨w.heap.size,0,#[],rfl,Nat.le_refl _,heap_alloc_new w _,Nat.le_refl _,by decide,rfl,rfl⟩⟩
end
section
variable {w:World} {ops:Array Oper} {rest:List Oper} {o:Oper} {a:Act} {Q:Exit→Act→World→Prop}
theorem zJ (hgd:o.guard=none) {s x:Operand} (ho:o.op= .call { callee:= .builtin .append,args:= #[s,x],argTypes:= #[63,63] })
  (hs:a.eval s= .slice (some ⟨w.heap.size,0,none⟩) 0 0) {A:Option Addr} {l c:Nat} {qs:List Rat} (hx:a.eval x= .slice A l c) (hq:QsAt w (.slice A l c) qs) (hl:qs.length≤1073741824)
  (h:∀v' w',QsAt w' v' qs→(v'= .slice none 0 0∨∃g cap,v'= .slice (some ⟨g,0,none⟩) qs.length cap∧w.heap.size≤g∧OwnQ w' g qs)→Below w.heap.size w w'→wpList Tryz.prog ops Q rest (a.put o.dst v') w'):
  wpList Tryz.prog ops Q (o :: rest) a (w.alloc (.cells #[] 96)):=by
 have hbA:Below w.heap.size w (w.alloc (.cells #[] 96)):=(Below.refl _ _).alloc (Nat.le_refl _) _;obtain⟨rows,hrl,rfl,hrk,hsrc,hir,hone⟩:=hq.srcs;refine eJ hgd ho 96 _ 4 64 Tryz.underlying63 rA rfl (by decide) w.heap.size (.slice (some ⟨w.heap.size,0,none⟩) 0 0) 0 [] hs (UC w) rows.flatten hx (by rw[gK hrk,hrl]) (hsrc.below hbA) hone (by omega) (by omega) (by simp) ?_;intro v' w' ho' hg' _;have hb':Below w.heap.size w w':=⟨hg'.os,hg'.tape,hg'.output,Nat.le_trans (by simp) hg'.size,fun k hk=>(hg'.block k (by simp;omega) (fun e=>by simp[Value.ownBlock] at e;omega)).trans (Below.heap_alloc w _ k hk)⟩;rw[Nat.zero_add,List.nil_append] at ho';obtain⟨h1,h2⟩:=GW ho' hrk hrl rfl (hir.keep (KM.below hb'));exact h v' w' h1 h2 hb'
end
section
variable {a b:World} [u:Up a b]
theorem QsAt.up {v:Value} {qs:List Rat} (h:QsAt a v qs):QsAt b v qs:=h.below u.out
theorem OwnQ.up {g:Nat} {qs:List Rat} (h:OwnQ a g qs):OwnQ b g qs:=h.below u.out
theorem R4.up {g o:Nat} {v0 v1 v2 v3:Value} (h:R4 a g o v0 v1 v2 v3) (hl:g<a.heap.size):R4 b g o v0 v1 v2 v3:=
 ⟨(u.out.cell (p:=⟨g,o,none⟩) hl).trans h.1,(u.out.cell (p:=⟨g,o+1,none⟩) hl).trans h.2.1,(u.out.cell (p:=⟨g,o+2,none⟩) hl).trans h.2.2.1,(u.out.cell (p:=⟨g,o+3,none⟩) hl).trans h.2.2.2⟩
end
theorem R4.old {w w':World} {B g o:Nat} {v0 v1 v2 v3:Value} (h:R4 w g o v0 v1 v2 v3) (hb:Below B w w') (hl:g<B):R4 w' g o v0 v1 v2 v3:=
 ⟨(hb.cell (p:=⟨g,o,none⟩) hl).trans h.1,(hb.cell (p:=⟨g,o+1,none⟩) hl).trans h.2.1,(hb.cell (p:=⟨g,o+2,none⟩) hl).trans h.2.2.1,(hb.cell (p:=⟨g,o+3,none⟩) hl).trans h.2.2.2⟩
def UD (w:World) (v:Value):Prop:=∀g,v.ownBlock=some g→∀cur t f,w.heap[g]? =some (.cells cur t f)→∀y∈cur.toList,NoInt y
def GrowQ (w:World) (base:Nat) (v:Value) (qs:List Rat):Prop:=(∃rows,w.ownsRow base 96 4 v qs.length rows.flatten∧rows.length=qs.length∧(∀r∈rows,r.length=4)∧QRow w rows qs)∧UD w v
theorem GrowQ.nil (w:World) {base:Nat}:GrowQ w base (.slice none 0 0) []:=⟨⟨[],World.ownsRow_nil _ _ _ _,rfl,(fun _ h=>by cases h),(fun i q h=>by simp at h)⟩,fun g h=>by simp[Value.ownBlock] at h⟩
theorem GrowQ.nums {w:World} {base:Nat} {v:Value} {qs:List Rat} (h:GrowQ w base v qs):QsAt w v qs:=by
 obtain⟨⟨rows,h1,h2,h3,h4⟩, -⟩:=h;exact(GW h1 h3 h2 rfl h4).1
theorem GrowQ.below {w w':World} {base:Nat} {v:Value} {qs:List Rat} (h:GrowQ w base v qs) (hb:Below w.heap.size w w'):GrowQ w' base v qs:=by
 obtain⟨⟨rows,h1,h2,h3,h4⟩,hN⟩:=h;have hlt:∀g,v.ownBlock=some g→g<w.heap.size:=fun g e=>by
  rcases h1.2 with ⟨rfl,_⟩|⟨g2,cap,cur,rfl,_,hg,_⟩
  ·simp[Value.ownBlock] at e
  ·simp[Value.ownBlock] at e;subst e;exact(Array.getElem?_eq_some_iff.1 hg).1
 refine⟨⟨rows,⟨h1.1,?_⟩,h2,h3,h4.keep (KM.below hb)⟩,fun g e cur t f hg=>hN g e cur t f ((hb.block g (hlt g e)).symm.trans hg)⟩;rcases h1.2 with h|⟨g2,cap,cur,rfl,hB,hg,h⟩
 ·exact .inl h
 ·exact .inr ⟨g2,cap,cur,rfl,hB,(hb.block g2 (Array.getElem?_eq_some_iff.1 hg).1).trans hg,h⟩
theorem GrowQ.drew {w:World} {base:Nat} {v:Value} {qs:List Rat} (h:GrowQ w base v qs):GrowQ w.drew base v qs:=h.below (Below.refl _ _).drew
theorem GrowQ.up {a b:World} [u:Up a b] {base:Nat} {v:Value} {qs:List Rat} (h:GrowQ a base v qs):GrowQ b base v qs:=h.below u.out
theorem S3 (ls:List (List UInt8)) (v:Value) (w:World) (hv:StrsAt w v ls) (hl:ls.length≤1073741824) (hll:∀l∈ls,l.length≤1073741824):
  Calls Tryz.prog 60 #[v] w fun e w'=>∃v',e= .returned (.tuple #[v',.bool (ls.all rd)])∧(ls.all rd=true→∃g,v'= .slice (some ⟨g,0,none⟩) ls.length ls.length∧w.heap.size≤g∧OwnQ w' g (aE ls))∧Below w.heap.size w w':=by
 obtain⟨A,c,rfl,hc⟩:=hv.form;have hzl:(aE ls).length=ls.length:=List.length_map _;have HZL:=Lib.hid hzl;clear hzl;go_enter Tryz.func60,Tryz.ntmps60;go_wp2_with (at_make;refine eZ rfl rfl 96 _ 4 64 Tryz.underlying63 rA rfl (by decide) ls.length rfl rfl rfl rfl (by omega) (by omega) ?_;intro w1 hz1 hr1 hb1);have R0:=OwnQ.made hr1;clear hr1 hz1;go_loopg [5] ls.length (fun k i wr=>∃j,Hid (j+k=ls.length)∧i= .int .i64 j∧OwnQ wr w.heap.size ((aE ls).take j++List.replicate k 0)∧Hid ((ls.take j).all rd=true)∧Below w.heap.size w wr)
 case atStart=>exact⟨0,by unfold Hid;omega,rfl,by simpa using R0,by unfold Hid;simp,hb1⟩
 case round=>
  clear R0 hb1;obtain⟨j,HJ,rfl,R,HA,hb⟩:=hrel;generalize wr=wx at *;have hj0:(0:Int)≤(j:Int):=by omega
  cases gk with
  |zero=>
   have hj:j=ls.length:=HJ.out;have hall:ls.all rd=true:=by
    have:=HA.out;rw[hj,List.take_length] at this;exact this
   subst hj;rw[List.replicate_zero,List.append_nil,List.take_of_length_le (by rw[HZL.out];exact Nat.le_refl _)] at R;have HALL:=Lib.hid hall;clear hall HA;go_wp2_with fail;go_ret2;rw[HALL.out];exact⟨_,rfl,fun _=>⟨w.heap.size,rfl,Nat.le_refl _,R⟩,hb⟩
  |succ k=>
   obtain⟨t,ht⟩:∃t,ls[j]? =some t:=⟨_,List.getElem?_eq_getElem (by have:=HJ.out;omega)⟩;obtain⟨b,off,rfl,hbl,g0⟩:=(hv.below hb).at_ ht;have htl:=hll t (List.mem_of_getElem? ht);have hj1:(j:Int)<(ls.length:Int):=by have:=HJ.out;omega
   have hym:(aE ls)[j]? =some ((aR t).getD 0):=by unfold aE;rw[List.getElem?_map,ht];rfl
   have hfl:=kF (ys:=aE ls) (z:=(0:Rat)) (j:=j) (k:=k+1) (by rw[HZL.out];exact HJ.out);have hfs:=kC (z:=(0:Rat)) (k:=k) hym;have hgx:j<((aE ls).take j++List.replicate (k+1) 0).length:=by rw[hfl,HZL.out];have:=HJ.out;omega
   have hta:(ls.take (j+1)).all rd=rd t:=by rw[List.take_add_one,ht,Option.toList_some,List.all_append,HA.out];simp
   have hno:rd t=false→ls.all rd=false:=fun h=>by
    rw[List.all_eq_false];exact⟨t,List.mem_of_getElem? ht,by rw[h];simp⟩
   have HFS:=Lib.hid hfs;have HTA:=Lib.hid hta;have HNO:=Lib.hid hno;clear hym hfl hfs hta hno ht;go_wp2_with fail;refine(FX t _ htl).mono ?_;rintro e2 w2 ⟨v2,q2,rfl,h2,hq2,hb2⟩;obtain⟨s2,A2,k2,c2,s3,A3,k3,c3,rfl⟩:=h2.form;replace R:=R.below hb2;replace hb:=aB hb hb2;cases hrd:rd t with
   |false=>
    have HN:=Lib.hid (HNO.out hrd);clear HNO HTA hrd hq2;go_wp2_with fail;go_ret2;rw[HN.out];exact⟨_,rfl,(fun h=>by cases h),hb.alloc hb.size _⟩
   |true=>
    have HQ:Hid (q2=(aR t).getD 0):=by
     obtain⟨r,hr⟩:=Option.isSome_iff_exists.1 hrd;unfold Hid;rw[hr];exact hq2 r hr
    rw[hrd] at HTA;clear HNO hrd hq2;obtain⟨W3,eW3,hb3,X3⟩:=bA w2 [.bool s2,.slice A2 k2 c2,.bool s3,.slice A3 k3 c3] 96;replace R:=R.below hb3;replace h2:=h2.below hb3;replace hb:=aB hb hb3;obtain⟨s',B',l',d',s'',B'',l'',d'',q0, -⟩:=R.at_ (List.getElem?_eq_getElem hgx);have f0:=R.free;have cX:=X3.k4;rw[HQ.out] at h2;generalize (aR t).getD 0=q3 at *;go_wp2_with fail;(try rw[eW3]);clear eW3;go_wp2_with fail;obtain⟨hp,hst⟩:=R.stored hgx h2;rw[HFS.out] at hp;have hb':=dE hb hst.2 (Nat.le_refl _);go_roundg k
    case rel=>exact⟨j+1,by have:=HJ.out;unfold Hid;omega,by go_num,hp,HTA,hb'⟩
    case measure=>omega
theorem oB (qs:List Rat) (v:Value) (w:World) (hv:QsAt w v qs) (K:Nat) (hK:∀q∈qs,RL K q) (hK2:K≤549755813888) (hl:qs.length≤1073741824):
  Calls Tryz.prog 49 #[v] w fun e w'=>∃v',e= .returned v'∧StrsAt w' v' (qs.map aO)∧Below w.heap.size w w':=by
 obtain⟨A,c,rfl,hc⟩:=hv.form;have hzl:(qs.map aO).length=qs.length:=List.length_map _;have HZL:=Lib.hid hzl;clear hzl;go_enter Tryz.func49,Tryz.ntmps49;go_wp2_with (at_make;refine eZ rfl rfl 9 _ 1 16 Tryz.underlying22 ED rfl (by decide) qs.length rfl rfl rfl rfl (by omega) (by omega) ?_;intro w1 hz1 hr1 hb1);have R0:=OwnS.made hr1;clear hr1 hz1;go_loopg [4] qs.length (fun k i wr=>∃j,Hid (j+k=qs.length)∧i= .int .i64 j∧OwnS wr w.heap.size ((qs.map aO).take j++List.replicate k [])∧Below w.heap.size w wr)
 case atStart=>exact⟨0,by unfold Hid;omega,rfl,by simpa using R0,hb1⟩
 case round=>
  clear R0 hb1;obtain⟨j,HJ,rfl,R,hb⟩:=hrel;generalize wr=wx at *;have hj0:(0:Int)≤(j:Int):=by omega
  cases gk with
  |zero=>
   have hj:j=qs.length:=HJ.out;subst hj;rw[List.replicate_zero,List.append_nil,List.take_of_length_le (by rw[HZL.out];exact Nat.le_refl _)] at R;have hw:=R.strs qs.length (by rw[HZL.out];exact Nat.le_refl _);rw[HZL.out] at hw;go_wp2_with fail;go_ret;exact⟨_,rfl,hw,hb⟩
  |succ k=>
   obtain⟨q,hq⟩:∃q,qs[j]? =some q:=⟨_,List.getElem?_eq_getElem (by have:=HJ.out;omega)⟩;obtain⟨b,s,B,m,d,s',B',m',d',rfl,hbl,g0,hi⟩:=(hv.below hb).at_ hq;have hKq:=hK q (List.mem_of_getElem? hq);have hj1:(j:Int)<(qs.length:Int):=by have:=HJ.out;omega
   have hym:(qs.map aO)[j]? =some (aO q):=by rw[List.getElem?_map,hq];rfl
   have hfl:=kF (ys:=qs.map aO) (z:=([]:List UInt8)) (j:=j) (k:=k+1) (by rw[HZL.out];exact HJ.out);have hfs:=kC (z:=([]:List UInt8)) (k:=k) hym;have hgx:j<((qs.map aO).take j++List.replicate (k+1) []).length:=by rw[hfl,HZL.out];have:=HJ.out;omega
   have HFS:=Lib.hid hfs;clear hym hfl hfs hq;go_wp2_with fail;refine(GO q _ _ hi K hKq hK2).mono ?_;rintro e2 w2 ⟨rfl,hb2⟩;replace R:=R.below hb2;replace hb:=aB hb hb2;have q0:=R.at_ (List.getElem?_eq_getElem hgx);have f0:=R.free j;generalize aO q=tx at *;go_wp2_with fail;obtain⟨hp,hst⟩:=R.stored hgx tx;rw[HFS.out] at hp;have hb':=dE hb hst (Nat.le_refl _);go_roundg k
   case rel=>exact⟨j+1,by have:=HJ.out;unfold Hid;omega,by go_num,hp,hb'⟩
   case measure=>omega
def gY (w:World) (L:List (List UInt8)) (c:Int) (e:Ending) (w':World):Prop:=∃v',e= .returned (.tuple #[v',.int .i64 c])∧StrsAt w' v' L∧Below w.heap.size w w'
def pH (w:World) (qs:List Rat) (e:Ending) (w':World):Prop:=∃v',e= .returned v'∧QsAt w' v' qs∧Below w.heap.size w w'
def r6 (ls:List (List UInt8)):List Rat:=if vl ls=true then aE ls else []
def pI (w:World) (ls:List (List UInt8)) (e:Ending) (w':World):Prop:=∃v',e= .returned (.tuple #[v',.bool (vl ls)])∧QsAt w' v' (r6 ls)∧Below w.heap.size w w'
theorem jE {ls:List (List UInt8)} (h:vl ls=true):r6 ls=aE ls:=if_pos h
theorem yH {ls:List (List UInt8)} (h:vl ls=false):r6 ls=[]:=if_neg (by rw[h];simp)
theorem FO (q:Rat):(q.num.sign==0)=decide (q=0):=by
 rw[Bool.eq_iff_iff,decide_eq_true_iff,beq_iff_eq,Int.sign_eq_zero_iff_zero];exact⟨fun h=>Rat.num_eq_zero.1 h,fun h=>by rw[h];rfl⟩
theorem FP (ls:List (List UInt8)) (v:Value) (w:World) (hv:StrsAt w v ls) (hl:ls.length≤1073741824) (hll:∀l∈ls,l.length≤1073741824) (hK:∀q∈aE ls,RL 1099511627776 q):
  Calls Tryz.prog 53 #[v] w (pI w ls):=by
 obtain⟨A,c,rfl,hc⟩:=hv.form;go_enter Tryz.func53,Tryz.ntmps53;go_wp2_with fail;refine(S3 ls _ _ hv hl hll).mono ?_;rintro e1 w1 ⟨v1,rfl,h1,hb1⟩;cases ha:ls.all rd with
 |false=>
  have HV:Hid (vl ls=false):=by unfold Hid vl;rw[decide_eq_false_iff_not,ha];simp
  clear ha h1;go_wp2_with fail;go_ret2;unfold pI;rw[HV.out,yH HV.out];exact⟨_,rfl,QsAt.nil _,hb1⟩
 |true=>
  obtain⟨g,rfl,hg,R⟩:=h1 ha;have hzl:=dD ls;have hQ:=R.nums ls.length (by omega);rw[hzl] at hQ;clear h1;by_cases h65:ls.length≤65
  ·have r0:¬(65:Int)<(ls.length:Int):=by omega
   by_cases h0:ls.length=0
   ·have HV:Hid (vl ls=true):=by
     have:ls=[]:=List.eq_nil_of_length_eq_zero h0;unfold Hid;rw[this];rfl
    have r1:decide (0<ls.length)=false:=by rw[h0];rfl
    clear ha h0 hzl R;go_wp2_with fail;go_ret2;unfold pI;rw[HV.out,jE HV.out];exact⟨_,rfl,hQ,hb1⟩
   ·obtain⟨m,hm⟩:∃m,ls.length=m+1:=⟨ls.length-1,by omega⟩;have r1:decide (0<ls.length)=true:=by rw[hm];simp
    have r2:(ls.length:Int)-1=(m:Int):=by omega
    have r3:(m:Int)<(ls.length:Int):=by omega
    obtain⟨q,hq⟩:∃q,(aE ls)[m]? =some q:=⟨_,List.getElem?_eq_getElem (by omega)⟩;obtain⟨s,B,k,d,s',B',k',d',g0,hi⟩:=R.at_ hq;have hla:(aE ls).getLast?=some q:=by rw[List.getLast?_eq_getElem?,hzl,hm];exact hq
    have hsg:=zA q _ w1 hi (hK q (List.mem_of_getElem? hq)).1;have hsz:=FO q;have HV:Hid (vl ls= !decide (q=0)):=by
     unfold Hid vl;rw[Bool.eq_iff_iff,decide_eq_true_iff,ha,hla];simp[h65]
    have HM:=Lib.hid hm;generalize q.num.sign=sg at *;clear ha h0 hzl R hq hla hm;go_wp2_with fail;refine hsg.mono ?_;rintro e2 w2 ⟨rfl,hb2⟩;clear hsg;replace hb1:=aB hb1 hb2;replace hQ:=hQ.below hb2;cases hd:decide (q=0) with
    |true=>
     rw[hd] at hsz HV;clear hd;go_wp2_with fail;go_ret2;unfold pI;rw[HV.out,yH HV.out];exact⟨_,rfl,QsAt.nil _,hb1⟩
    |false=>
     rw[hd] at hsz HV;clear hd;go_wp2_with fail;go_ret2;unfold pI;rw[jE HV.out,HV.out];exact⟨_,rfl,hQ,hb1⟩
  ·have r0:(65:Int)<(ls.length:Int):=by omega
   have HV:Hid (vl ls=false):=FU h65;clear ha h65 hzl R;go_wp2_with fail;go_ret2;unfold pI;rw[HV.out,yH HV.out];exact⟨_,rfl,QsAt.nil _,hb1⟩
theorem r7 (qs:List Rat) (v:Value) (w:World) (hv:QsAt w v qs) (hK:∀q∈qs,nl q.num.natAbs≤1099511627776) (hl:qs.length≤1073741824):
  Calls Tryz.prog 62 #[v] w (pH w (aH aG qs)):=by
 obtain⟨A,c,rfl,hc⟩:=hv.form;go_enter Tryz.func62,Tryz.ntmps62;go_wp2_with fail;go_loopg [3] qs.length (fun k i wr=>∃m,Hid (m=k)∧i= .int .i64 m∧m≤qs.length∧Hid (aH aG (qs.take m)=aH aG qs)∧Below w.heap.size w wr)
 case atStart=>exact⟨qs.length,rfl,rfl,Nat.le_refl _,by unfold Hid;rw[List.take_length],Below.refl _ _⟩
 case round=>
  obtain⟨m,HM,rfl,hm,HT,hb⟩:=hrel;generalize wr=wy at *;have hm0:(0:Int)≤(m:Int):=by omega
  cases gk with
  |zero=>
   obtain rfl:m=0:=HM.out;have HTT:Hid (qs.take 0=aH aG qs):=by have:=HT.out;exact this
   have hb':=hb;have hcut:=(hv.below hb).cut 0 (by omega);have r0:(0:Int)≤(0:Int):=by decide
   clear HT;go_wp2_with (at_builtin;refine zJ rfl rfl rfl rfl hcut (by simp) ?_;intro v6 w6 h6 _ hb6);go_ret;exact⟨_,rfl,by rw[←HTT.out];exact h6,aB hb' hb6⟩
  |succ k=>
   have hmk:m=k+1:=HM.out;subst hmk;obtain⟨q,hq⟩:∃q,qs[k]? =some q:=⟨_,List.getElem?_eq_getElem (by omega)⟩;obtain⟨b,s,B,l,d,s',B',l',d',rfl,hbl,g0,hi⟩:=(hv.below hb).at_ hq;have hsg:=zA q _ wy hi (hK q (List.mem_of_getElem? hq));have hsz:=FO q;have hdn:=tH aG qs hq;have hst:=tI aG qs hq;have HDN:=Lib.hid hdn;have HST:=Lib.hid hst;have hcut:=(hv.below hb).cut (k+1) hm;clear hdn hst;have hm1:((k:Int)+1)≤(qs.length:Int):=by omega
   have hm2:k+1≤c:=by omega
   have hm3:k≤c:=by omega
   have hm4:(0:Int)≤(k:Int):=by omega
   generalize q.num.sign=sg at *;go_wp2_with fail;refine hsg.mono ?_;rintro e1 w1 ⟨rfl,hb1⟩;have hb':=aB hb hb1;replace hcut:=hcut.below hb1;cases hd:decide (q=0) with
   |true=>
    have hz:aG q=true:=hd;rw[hd] at hsz;clear hd;go_wp2_with fail;go_roundg k
    case rel=>exact⟨k,rfl,by simp,by omega,by unfold Hid;rw[←HDN.out hz];exact HT.out,hb'⟩
    case measure=>omega
   |false=>
    have hz:aG q=false:=hd;rw[hd] at hsz;have ht:qs.take (k+1)=aH aG qs:=by rw[←HT.out];exact(HST.out hz).symm
    have HTT:=Lib.hid ht;have hlt:(qs.take (k+1)).length≤1073741824:=by rw[List.length_take];omega
    clear hd ht HST HDN HT;go_wp2_with (at_builtin;refine zJ rfl rfl rfl rfl hcut hlt ?_;intro v6 w6 h6 _ hb6);go_ret;exact⟨_,rfl,by rw[←HTT.out];exact h6,aB hb' hb6⟩
theorem FQ (qs:List Rat) (v:Value) (w:World) (hv:QsAt w v qs) (K:Nat) (hK:∀q∈qs,RL K q) (hK2:K≤549755813888) (hl:qs.length≤1073741824):
  Calls Tryz.prog 61 #[v] w (dW w qs):=by
 obtain⟨A,c,rfl,hc⟩:=hv.form;go_enter Tryz.func61,Tryz.ntmps61;by_cases h65:qs.length≤65
 ·have r0:¬(65:Int)<(qs.length:Int):=by omega
  have HC:=Lib.hid h65;clear h65;go_wp2_with fail;refine(oB qs _ _ hv K hK hK2 hl).mono ?_;rintro e1 w1 ⟨v1,rfl,h1,hb1⟩;go_wp2_with fail;go_ret2;unfold dW;rw[if_pos HC.out,if_pos HC.out];exact⟨_,rfl,h1,hb1⟩
 ·have r0:(65:Int)<(qs.length:Int):=by omega
  have HC:=Lib.hid h65;clear h65;go_wp2_with fail;go_ret2;unfold dW;rw[if_neg HC.out,if_neg HC.out];exact⟨_,rfl,StrsAt.nil _ _ _,Below.refl _ _⟩
theorem GX {w:World} {g:Nat} {cur cs:Array Value} {e:TypeId} (hg:w.heap[g]? =some (.cells cur e (0,0))) (hn:∀u∈cur.toList,NoInt u) {u:Value} {n:Nat} (h:NatAt w u n):NatAt (w.setRow g cs) u n:=by
 obtain⟨A,c,hv,hc,hr,ho⟩:=h;have hsz:(w.setRow g cs).heap.size=w.heap.size:=by simp[World.setRow]
 refine⟨A,c,hv,hc,?_,ho.mono (by rw[hsz];exact Nat.le_refl _)⟩;rcases hr with hr|⟨b,off,rfl,hlt,hcs⟩
 ·exact .inl hr
 ·by_cases hz:dg n=[]
  ·exact .inl hz
  ·have hbg:b≠g:=fun eb=>by
    subst eb;have h0:=hcs 0 (List.length_pos_iff.2 hz);rw[cell_of_row w b (off+0) cur e (0,0) hg,←Array.getElem?_toList] at h0;exact hn _ (List.mem_of_getElem? h0) _ _ rfl
   refine .inr ⟨b,off,rfl,by rw[hsz];exact hlt,fun i hi=> ?_⟩;exact(World.cell?_of_block (setRow_other w g b cs hbg)).trans (hcs i hi)
section
variable {P:Program} {ops:Array Oper} {rest:List Oper} {o:Oper} {a:Act} {Q:Exit→Act→World→Prop} {w:World}
theorem UJ (dT sT ty elem:TypeId) (k g dLen dCap:Nat) (sp:Option Addr) (sLen sCap:Nat) (cur:Array Value) (t:TypeId) (cs:List Value)
  (hu:P.underlying dT=some (.slice elem)) (hs:(P.info? elem).map (·.size)=some k) (hk:0<k)
  (hg:w.heap[g]? =some (.cells cur t (0,0))) (hn:cs.length=sLen*k) (hle:sLen≤dLen)
  (hsrc:Src w sp cs) (hfit:cs.length≤cur.size) (h1:∀v∈cs,v.oneCell'=true):
  (Builtin.copy_ #[dT,sT] ty #[.slice (some ⟨g,0,none⟩) dLen dCap,.slice sp sLen sCap]).run P w= .ok (goInt sLen) (w.setRow g (cs++cur.toList.drop cs.length).toArray):=by
 have hst:=run_storeCells_at P g 0 t cs 0 cur w hg (by simpa using hfit) h1;have hm:Nat.min sLen dLen=sLen:=Nat.min_eq_left hle;simp only[Nat.zero_add,List.take_zero,List.nil_append] at hst;cases hq:P.info? elem with
 |none=>simp[hq] at hs
 |some i=>
  have hi:i.size=k:=by simpa [hq] using hs
  cases sp with
  |none=>
   have h0:cs=[]:=by
    rcases hsrc with h|⟨b,off,e,_⟩
    ·exact h
    ·cases e
   subst h0;have hs0:sLen=0:=by
    rcases Nat.eq_zero_or_pos sLen with h|h
    ·exact h
    ·have:=Nat.mul_pos h hk;simp at hn;omega
   subst hs0;simp[Builtin.copy_,run_underlying hu,Builtin.lenOf,Builtin.firstCells,sizeOf,typeInfo,hq,hi,storeCells,setRow_self w g cur t (0,0) hg]
  |some ad=>
   have hl:=run_loadCells_list (P:=P) w ad cs (fun j v hv=>by
    rcases hsrc with h|⟨b,off,e,hc⟩
    ·rw[h] at hv;simp at hv
    ·injection e with e;subst e;have:=hc j v hv;unfold Addr.add;split
     ·rename_i hj;subst hj;simpa using this
     ·exact this)
   rw[hn] at hl;simp[Builtin.copy_,run_underlying hu,Builtin.lenOf,Builtin.firstCells,sizeOf,typeInfo,hq,hi,hm,hl,hst]
theorem GY (hgd:o.guard=none) {d s:Operand} {dT sT:TypeId} (ho:o.op= .call { callee:= .builtin .copy,args:= #[d,s],argTypes:= #[dT,sT] }) (elem:TypeId) (k g dLen dCap:Nat) (sp:Option Addr) (sLen sCap:Nat) (cur:Array Value) (t:TypeId) (cs:List Value)
  (hu:P.underlying dT=some (.slice elem)) (hs:(P.info? elem).map (·.size)=some k) (hk:0<k) (hd:a.eval d= .slice (some ⟨g,0,none⟩) dLen dCap) (hx:a.eval s= .slice sp sLen sCap)
  (hg:w.heap[g]? =some (.cells cur t (0,0))) (hn:cs.length=sLen*k) (hle:sLen≤dLen) (hsrc:Src w sp cs) (hfit:cs.length≤cur.size) (h1:∀v∈cs,v.oneCell'=true)
  (h:wpList P ops Q rest (a.put o.dst (goInt sLen)) (w.setRow g (cs++cur.toList.drop cs.length).toArray)):wpList P ops Q (o :: rest) a w:=by
 refine wpList_plain hgd fun K hK=> ?_;have hrun:=UJ (P:=P) (w:=w) dT sT o.type elem k g dLen dCap sp sLen sCap cur t cs hu hs hk hg hn hle hsrc hfit h1;unfold Oper.wp execOp;simp only[ho,resolve,invoke,builtin,Sem.run_bind,Sem.run_pure,Result.andThen_ok,List.map_toArray,List.map_cons,List.map_nil,hd,hx,hrun];exact hK _ _ h
end
theorem GZ {α:Type} (z:List α) (k l M:Nat) (hz:z.length=k) (hl:l≤M):(List.replicate M z).flatten.drop (l*k)=(List.replicate (M-l) z).flatten:=by
 have e:List.replicate M z=List.replicate l z++List.replicate (M-l) z:=by rw[List.replicate_append_replicate];congr 1;omega
 have hlen:(List.replicate l z).flatten.length=l*k:=by rw[gK (k:=k) (fun r hr=>by rw[(List.mem_replicate.1 hr).2];exact hz),List.length_replicate]
 rw[e,List.flatten_append,←hlen,List.drop_left]
theorem OwnW.copied {w:World} {g M:Nat} {rows:List (List Value)} {ns:List Int} (hr:Rw w g 2 (List.replicate M [.bool false,.slice none 0 0]) 53) (hk:∀r∈rows,r.length=2) (hl:rows.length=ns.length) (hM:ns.length≤M) (hi:IRow w rows ns):
  let W:=w.setRow g (rows.flatten++(List.replicate M ([.bool false,.slice none 0 0]:List Value)).flatten.drop rows.flatten.length).toArray
  OwnW W g (ns++List.replicate (M-ns.length) 0)∧jJ g w W:=by
 have hg:w.heap[g]? =some (.cells (List.replicate M ([.bool false,.slice none 0 0]:List Value)).flatten.toArray 53 (0,0)):=hr.1
 have hkeep:Keep w (w.setRow g (rows.flatten++(List.replicate M ([.bool false,.slice none 0 0]:List Value)).flatten.drop rows.flatten.length).toArray):=fun x n hx=>GX hg (fun u hu=>by
  have hu':u∈(List.replicate M ([.bool false,.slice none 0 0]:List Value)).flatten:=hu;obtain⟨r,hr1,hr2⟩:=List.mem_flatten.1 hu';rw[(List.mem_replicate.1 hr1).2] at hr2;simp at hr2;rcases hr2 with rfl|rfl
  ·exact NoInt.bool _
  ·exact NoInt.slice _ _ _) hx
 have hlen:rows.flatten.length=ns.length*2:=by rw[gK hk,hl]
 have hfl:rows.flatten++(List.replicate M ([.bool false,.slice none 0 0]:List Value)).flatten.drop rows.flatten.length=(rows++List.replicate (M-ns.length) [Value.bool false,Value.slice none 0 0]).flatten:=by
  rw[hlen,GZ _ 2 _ _ rfl hM,List.flatten_append]
 refine⟨⟨rows++List.replicate (M-ns.length) [.bool false,.slice none 0 0],⟨?_,fun r hr=> ?_⟩,by simp[hl],fun i n hn=> ?_⟩,hkeep,fun b hb=>setRow_other w g b _ hb,by simp[World.setRow],rfl,rfl,rfl⟩
 ·unfold Bx;rw[←hfl];exact setRow_heap w g _ _ _ _ hg
 ·rcases List.mem_append.1 hr with h|h
  ·exact hk r h
  ·rw[(List.mem_replicate.1 h).2];rfl
 ·rcases Nat.lt_or_ge i ns.length with h|h
  ·rw[List.getElem?_append_left h] at hn;obtain⟨s,A,l,c,e1,e2⟩:=hi i n hn;exact⟨s,A,l,c,by rw[List.getElem?_append_left (by omega)];exact e1,e2.keep hkeep⟩
  ·rw[List.getElem?_append_right h] at hn;have hlt:=(List.getElem?_eq_some_iff.1 hn).1;rw[List.length_replicate] at hlt;rw[List.getElem?_replicate,if_pos hlt] at hn;injection hn with hn;subst hn;exact⟨false,none,0,0,by rw[List.getElem?_append_right (by omega),hl,List.getElem?_replicate,if_pos hlt],IntAt.zero _⟩
end Go.Proofs.YtlojjipfnejbnaaGreatDoor
namespace Go.Proofs.YtlojjipfnejbnaaGreatDoor
open Sos Lib
theorem UR (m n:Nat):nl (m+n)≤max (nl m) (nl n)+1:=by
 have h1:=bG m;have h2:=bG n;refine bI ?_;have h3:BN^nl m≤BN^max (nl m) (nl n):=Nat.pow_le_pow_right (by decide) (Nat.le_max_left _ _);have h4:BN^nl n≤BN^max (nl m) (nl n):=Nat.pow_le_pow_right (by decide) (Nat.le_max_right _ _);rw[Nat.pow_succ];have h5:2*BN^max (nl m) (nl n)≤BN^max (nl m) (nl n)*BN:=by rw[Nat.mul_comm];exact Nat.mul_le_mul_left _ (by decide)
 omega
theorem zV {n d:Int} {K:Nat} (hn:nl n.natAbs≤K) (hd:nl d.natAbs≤K) (h1:1≤K):RL K ((n:Rat)/d):=lF n d K hn hd h1
theorem zW {K:Nat} {q:Rat} (h:RL K q):1≤K:=by
 have h1:=h.2;rcases Nat.eq_zero_or_pos K with h0|h0
 ·subst h0;have:=bG q.den;rw[show nl q.den=0 by omega] at this;have:=q.den_pos;simp at *;omega
 ·exact h0
theorem iB {x y:Rat} {a b:Nat} (hx:RL a x) (hy:RL b y):RL (a+b) (x*y):=by
 rw[←yY];refine zV ?_ ?_ (by have:=zW hx;omega)
 ·rw[Int.natAbs_mul];exact Nat.le_trans (cJ _ _) (Nat.add_le_add hx.1 hy.1)
 ·rw[Int.natAbs_mul];exact Nat.le_trans (cJ _ _) (Nat.add_le_add hx.2 hy.2)
theorem uP {x y:Rat} {a b:Nat} (hx:RL a x) (hy:RL b y):RL (a+b+1) (x+y):=by
 rw[←GT];refine zV ?_ ?_ (by omega)
 ·refine Nat.le_trans (aX (Int.natAbs_add_le _ _)) (Nat.le_trans (UR _ _) ?_);have h1:=cJ x.num.natAbs y.den;have h2:=cJ y.num.natAbs x.den;have e1:(x.num*y.den).natAbs=x.num.natAbs*y.den:=by rw[Int.natAbs_mul,Int.natAbs_natCast]
  have e2:(y.num*x.den).natAbs=y.num.natAbs*x.den:=by rw[Int.natAbs_mul,Int.natAbs_natCast]
  rw[e1,e2];have:=hx.1;have:=hx.2;have:=hy.1;have:=hy.2;omega
 ·rw[Int.natAbs_mul];exact Nat.le_trans (cJ _ _) (by have:=hx.2;have:=hy.2;simp only[Int.natAbs_natCast];omega)
theorem zZ {x y:Rat} {a b:Nat} (hx:RL a x) (hy:RL b y):RL (a+b+1) (x-y):=by
 rw[Rat.sub_eq_add_neg];exact uP hx (yD hy)
theorem jX {x y:Rat} {a b:Nat} (hx:RL a x) (hy:RL b y):RL (a+b) (x/y):=by
 by_cases h0:y=0
 ·rw[h0,Rat.div_def,Rat.inv_zero,Rat.mul_zero];exact eO (by have:=zW hx;omega)
 ·rw[←GR x y h0];refine zV ?_ ?_ (by have:=zW hx;omega)
  ·rw[Int.natAbs_mul];exact Nat.le_trans (cJ _ _) (Nat.add_le_add hx.1 hy.2)
  ·rw[Int.natAbs_mul];exact Nat.le_trans (cJ _ _) (Nat.add_le_add hx.2 hy.1)
theorem AA {n:Nat} (h:n<18446744073709551616):RL 1 ((n:Nat):Rat):=⟨bI (by unfold BN;simpa using h),by show nl 1≤1;exact bI (by decide)⟩
theorem fV {l:List Rat} {K:Nat} (h:∀q∈l,RL K q) (h0:RL K 0) (i:Nat):RL K (cf l i):=by
 by_cases hi:i<l.length
 ·rw[dO hi];exact h _ (List.getElem_mem hi)
 ·rw[aP (by omega)];exact h0
end Go.Proofs.YtlojjipfnejbnaaGreatDoor
namespace Go.Proofs.YtlojjipfnejbnaaGreatDoor
open Go.RowKit Sos
theorem rC (a:List Rat) (k i:Nat):cf (a++List.replicate k 0) i=cf a i:=by
 by_cases h:i<a.length
 ·rw[dO (l:=a) h,oW (a:=a[i])];rw[List.getElem?_append_left h,List.getElem?_eq_getElem h]
 ·rw[aP (l:=a) (by omega)];by_cases h2:i<a.length+k
  ·refine oW ?_;rw[List.getElem?_append_right (by omega),List.getElem?_replicate,if_pos (by omega)]
  ·exact aP (by rw[List.length_append,List.length_replicate];omega)
theorem H7 (a:List Rat) (k i:Nat) (h:i<a.length+k):(a++List.replicate k 0)[i]? =some (cf a i):=by
 have hl:i<(a++List.replicate k 0).length:=by rw[List.length_append,List.length_replicate];exact h
 rw[List.getElem?_eq_getElem hl,←dO hl,rC]
theorem US {K:Nat} (h:1≤K):RL K 0:=⟨by show nl 0≤K;rw[cC];omega,by show nl 1≤K;exact Nat.le_trans (bI (by decide)) h⟩
theorem AB {l:List Rat} {K:Nat} (h:∀q∈l,RL K q) (h0:RL K 0) (i:Nat):RL K (cf l i):=by
 by_cases hi:i<l.length
 ·rw[dO hi];exact h _ (List.getElem_mem hi)
 ·rw[aP (by omega)];exact h0
def gD (op:Rat→Rat→Rat) (a b:List Rat):List Rat:=(List.range (max a.length b.length)).map (fun i=>op (cf a i) (cf b i))
theorem AC (op:Rat→Rat→Rat) (a b:List Rat):(gD op a b).length=max a.length b.length:=by unfold gD;rw[List.length_map,List.length_range]
theorem H8 (op:Rat→Rat→Rat) (a b:List Rat) {i:Nat} (h:i<max a.length b.length):(gD op a b)[i]? =some (op (cf a i) (cf b i)):=by unfold gD;rw[List.getElem?_map,List.getElem?_range h];rfl
end Go.Proofs.YtlojjipfnejbnaaGreatDoor
namespace Go.Proofs.YtlojjipfnejbnaaGreatDoor
open Sos
def d8 (l:List Rat) (g:Nat→Rat) (i k:Nat):List Rat:=(List.range l.length).map (fun j=>if i≤j∧j<i+k then g j else cf l j)
theorem H4 {a b:List Rat} (hl:a.length=b.length) (h:∀j,cf a j=cf b j):a=b:=List.ext_getElem hl (fun j h1 h2=>by have:=h j;rwa [dO h1,dO h2] at this)
theorem zL {l:List Rat} {i:Nat} {x:Rat} (h:i<l.length) (j:Nat):cf (l.set i x) j=if j=i then x else cf l j:=by
 by_cases e:j=i
 ·subst e;rw[if_pos rfl];exact oW (by rw[List.getElem?_set_self h])
 ·rw[if_neg e];unfold cf;rw[List.getD_eq_getElem?_getD,List.getD_eq_getElem?_getD,List.getElem?_set_ne (fun h=>e h.symm)]
section
variable {l:List Rat} {g:Nat→Rat} {i k:Nat}
theorem jH:(d8 l g i k).length=l.length:=by unfold d8;rw[List.length_map,List.length_range]
theorem oF (j:Nat):cf (d8 l g i k) j=if i≤j∧j<i+k∧j<l.length then g j else cf l j:=by
 unfold d8;rw[oX];by_cases h:j<l.length
 ·rw[if_pos h];by_cases h2:i≤j∧j<i+k
  ·rw[if_pos h2,if_pos ⟨h2.1,h2.2,h⟩]
  ·rw[if_neg h2,if_neg (fun h3=>h2 ⟨h3.1,h3.2.1⟩)]
 ·rw[if_neg h,if_neg (fun h3=>h h3.2.2),aP (by omega)]
theorem zM:d8 l g i 0=l:=H4 jH (fun j=>by rw[oF,if_neg (by omega)])
theorem UK (h:i+k<l.length):(d8 l g i k)[i+k]? =some (cf l (i+k)):=by
 have h1:i+k<(d8 l g i k).length:=by rw[jH];exact h
 rw[List.getElem?_eq_getElem h1,←dO h1,oF,if_neg (by omega)]
theorem UL (h:i+k<l.length):(d8 l g i k).set (i+k) (g (i+k))=d8 l g i (k+1):=
 H4 (by rw[List.length_set,jH,jH]) (fun j=>by
  rw[zL (by rw[jH];exact h),oF,oF];by_cases e:j=i+k
  ·rw[if_pos e,if_pos (by omega),e]
  ·rw[if_neg e];by_cases h2:i≤j∧j<i+k∧j<l.length
   ·rw[if_pos h2,if_pos (by omega)]
   ·rw[if_neg h2,if_neg (by omega)])
theorem uN {K:Nat} (hl:∀q∈l,RL K q) (hg:∀j,RL K (g j)) (h1:1≤K):∀q∈d8 l g i k,RL K q:=fun q hq=>by
 unfold d8 at hq;obtain⟨j,_,rfl⟩:=List.mem_map.1 hq;split
 ·exact hg j
 ·exact fV hl (eO h1) j
end
theorem eI {l:List Rat} {K L:Nat} (h:∀q∈l,RL K q) (hl:K≤L):∀q∈l,RL L q:=fun q hq=>bV (h q hq) hl
theorem uO (n:Nat):∀q∈List.replicate n (0:Rat),RL 1 q:=fun q hq=>by rw[(List.mem_replicate.1 hq).2];exact eO (Nat.le_refl 1)
theorem UM {a:List Rat} {K:Nat} (h:∀q∈a,RL K q) (h1:1≤K) (n:Nat):∀q∈a++List.replicate n 0,RL K q:=fun q hq=>by
 rcases List.mem_append.1 hq with hq|hq
 ·exact h q hq
 ·exact bV (uO n q hq) h1
def dL (a:List Rat) (c:Rat) (b:List Rat):List Rat:=(List.range (max a.length b.length)).map (fun i=>cf a i+c*cf b i)
theorem zO (a:List Rat) (c:Rat) (b:List Rat):(dL a c b).length=max a.length b.length:=by unfold dL;rw[List.length_map,List.length_range]
theorem oG (a:List Rat) (c:Rat) (b:List Rat) (i:Nat):cf (dL a c b) i=cf a i+c*cf b i:=by
 unfold dL;rw[oX];split
 ·rfl
 ·rw[aP (l:=a) (by omega),aP (l:=b) (by omega),Rat.mul_zero,Rat.add_zero]
theorem UN (a:List Rat) (c:Rat) (b:List Rat):aH aG (d8 (a++List.replicate (max a.length b.length-a.length) 0) (fun j=>cf a j+c*cf b j) 0 b.length)=aH aG (dL a c b):=
 iJ (fC _) (fC _) (fun j=>by
  rw[dS,dS,oG,oF,rC,List.length_append,List.length_replicate];split
  ·rfl
  ·rename_i h;by_cases hj:j<b.length
   ·exact absurd ⟨Nat.zero_le _,by omega,by omega⟩ h
   ·rw[aP (l:=b) (by omega),Rat.mul_zero,Rat.add_zero])
theorem zU {a b:List Rat} {c:Rat} {K L:Nat} (ha:∀q∈a,RL K q) (hb:∀q∈b,RL K q) (hc:RL L c) (h1:1≤K) (j:Nat):RL (2*K+L+1) (cf a j+c*cf b j):=
 bV (uP (fV ha (eO h1) j) (iB hc (fV hb (eO h1) j))) (by omega)
theorem UO {O a b:List Rat} {i:Nat} (hO:∀j,cf O j=conv (fun k=>if k<i then cf a k else 0) (cf b) j) (hl:i+b.length≤O.length) (j:Nat):
  cf (d8 O (fun j=>cf O j+cf a i*cf b (j-i)) i b.length) j=conv (fun k=>if k<i+1 then cf a k else 0) (cf b) j:=by
 have e:conv (fun k=>if k<i+1 then cf a k else 0) (cf b) j=conv (fun k=>if k<i then cf a k else 0) (cf b) j+conv (fun k=>if k=i then cf a i else 0) (cf b) j:=by
  rw[←j7];refine cO (fun k=> ?_) (fun _=>rfl) j;by_cases h:k<i
  ·rw[if_pos h,if_pos (by omega),if_neg (by omega),Rat.add_zero]
  ·by_cases h2:k=i
   ·rw[if_neg h,if_pos (by omega),if_pos h2,h2,Rat.zero_add]
   ·rw[if_neg h,if_neg (by omega),if_neg h2,Rat.add_zero]
 rw[e,mY,←hO,oF];by_cases h:i≤j∧j<i+b.length∧j<O.length
 ·rw[if_pos h,if_pos h.1]
 ·rw[if_neg h];by_cases h2:i≤j
  ·rw[if_pos h2,aP (l:=b) (by omega),Rat.mul_zero,Rat.add_zero]
  ·rw[if_neg h2,Rat.add_zero]
theorem UP {O a b:List Rat} (hO:∀j,cf O j=conv (fun k=>if k<a.length then cf a k else 0) (cf b) j):aH aG O=aH aG (bB a b):=
 iJ (fC _) (fC _) (fun j=>by
  rw[dS,dS,xR,hO];refine cO (fun k=> ?_) (fun _=>rfl) j;split
  ·rfl
  ·rw[aP (by omega)])
structure DivQ (A B Q R:List Rat):Prop where
 id_:∀i,conv (cf Q) (cf B) i+cf R i=cf A i
 q_trim:aN Q
 r_trim:aN R
 r_lt:R.length<B.length
structure DivJ (A B Q R:List Rat) (i:Nat):Prop where
 id_:∀j,conv (cf Q) (cf B) j+cf R j=cf A j
 q0:∀j,j<i→cf Q j=0
 r0:∀j,i+B.length≤j+1→cf R j=0
theorem DivJ.start (A B:List Rat) (h:B.length≤A.length):DivJ A B (List.replicate (A.length-B.length+1) 0) A (A.length-B.length+1):=
 have hz:∀j,cf (List.replicate (A.length-B.length+1) (0:Rat)) j=0:=fun j=>by
  have:=rC [] (A.length-B.length+1) j;rw[List.nil_append,bS] at this;exact this
 ⟨fun j=>by rw[eR hz,Rat.zero_add],fun j _=>hz j,fun j hj=>aP (by omega)⟩
theorem DivJ.step {A B Q R:List Rat} {i:Nat} (h:DivJ A B Q R (i+1)) (hB:cf B (B.length-1)≠0) (hn:1≤B.length) (hq:i<Q.length) (hr:i+B.length≤R.length) {f:Rat} (hf:f=cf R (i+B.length-1)/cf B (B.length-1)):
  DivJ A B (Q.set i f) (d8 R (fun j=>cf R j-f*cf B (j-i)) i B.length) i:=by
 have hr':∀j,cf (d8 R (fun j=>cf R j-f*cf B (j-i)) i B.length) j=cf R j-(if i≤j then f*cf B (j-i) else 0):=fun j=>by
  rw[oF];by_cases h1:i≤j∧j<i+B.length∧j<R.length
  ·rw[if_pos h1,if_pos h1.1]
  ·rw[if_neg h1];by_cases h2:i≤j
   ·rw[if_pos h2,aP (l:=B) (by omega)];grind
   ·rw[if_neg h2];grind
 refine⟨fun j=> ?_,fun j hj=> ?_,fun j hj=> ?_⟩
 ·have e:conv (cf (Q.set i f)) (cf B) j=conv (cf Q) (cf B) j+conv (fun k=>if k=i then f else 0) (cf B) j:=by
   rw[←j7];refine cO (fun k=> ?_) (fun _=>rfl) j;rw[zL hq];by_cases e:k=i
   ·rw[if_pos e,if_pos e,h.q0 k (by omega),Rat.zero_add]
   ·rw[if_neg e,if_neg e,Rat.add_zero]
  rw[e,mY,hr',←h.id_ j];grind
 ·rw[zL hq,if_neg (by omega)];exact h.q0 j (by omega)
 ·rw[hr',if_pos (by omega)];by_cases e:j=i+B.length-1
  ·subst e;rw[show i+B.length-1-i=B.length-1 by omega,hf,Rat.div_mul_cancel hB];grind
  ·rw[h.r0 j (by omega),aP (l:=B) (by omega)];grind
theorem UQ {l:List Rat} {n:Nat} (h:∀j,n≤j→cf l j=0):(aH aG l).length≤n:=by
 rcases Nat.lt_or_ge n (aH aG l).length with hl|hl
 ·exfalso;have hne:aH aG l≠[]:=by intro e;rw[e] at hl;simp at hl
  have h1:=List.getLast?_eq_some_getLast hne;have h2:=tJ h1;rw[dS,h _ (by omega)] at h2;exact fC l _ h1 h2.symm
 ·exact hl
theorem DivJ.done {A B Q R:List Rat} (h:DivJ A B Q R 0) (hn:1≤B.length):DivQ A B (aH aG Q) (aH aG R):=
 ⟨fun j=>by rw[cO (dS Q) (fun _=>rfl) j,dS];exact h.id_ j,fC _,fC _,by
  have:=UQ (l:=R) (n:=B.length-1) (fun j hj=>h.r0 j (by omega));omega⟩
theorem DivQ.short {A B:List Rat} (h:A.length<B.length):DivQ A B [] (aH aG A):=
 ⟨fun j=>by rw[eR (fun k=>bS k),dS,Rat.zero_add],fun a ha=>by simp at ha,fC _,Nat.lt_of_le_of_lt (cK _ _) h⟩
theorem H5 {d:Nat→Rat} {ys:List Rat} {L:Nat} (hB:cf ys (ys.length-1)≠0) (hn:1≤ys.length) (hd:∀i,L≤i→d i=0) (h:∀i,ys.length≤i+1→conv d (cf ys) i=0):∀i,d i=0:=by
 induction L with
 |zero=>exact fun i=>hd i (Nat.zero_le _)
 |succ L ih=>
  refine ih (fun i hi=> ?_);by_cases hL:L+1≤i
  ·exact hd i hL
  ·have e:i=L:=by omega
   subst e;have h1:=mZ (p:=d) (q:=cf ys) (m:=i) (n:=ys.length-1) (fun j hj=>hd j (by omega)) (fun j hj=>aP (by omega));rw[h _ (by omega)] at h1;rcases Rat.mul_eq_zero.1 h1.symm with h2|h2
   ·exact h2
   ·exact absurd h2 hB
theorem DivQ.unique {A B Q R Q' R':List Rat} (h:DivQ A B Q R) (h':DivQ A B Q' R') (hB:cf B (B.length-1)≠0) (hn:1≤B.length):Q=Q'∧R=R':=by
 have hc:∀i,conv (fun k=>cf Q k+(-1)*cf Q' k) (cf B) i=cf R' i-cf R i:=fun i=>by
  rw[j7,fF];have h1:=h.id_ i;have h2:=h'.id_ i;grind
 have hz:=H5 (d:=fun k=>cf Q k+(-1)*cf Q' k) (L:=Q.length+Q'.length) hB hn (fun i hi=>by show cf Q i+(-1)*cf Q' i=0;rw[aP (by omega),aP (by omega)];grind) (fun i hi=>by rw[hc,aP (by have:=h'.r_lt;omega),aP (by have:=h.r_lt;omega)];grind);refine⟨iJ h.q_trim h'.q_trim (fun i=> ?_),iJ h.r_trim h'.r_trim (fun i=> ?_)⟩
 ·have:=hz i;grind
 ·have:=hc i;rw[eR hz] at this;grind
theorem DivRes.divQ {A B Q R:List Rat} {K:Nat} (h:DivRes A B Q R K):DivQ A B Q R:=⟨h.id_,h.q_trim,h.r_trim,h.r_lt⟩
def fI (K:Nat):Nat→Nat
 |0=>K
 |n+1=>2*fI K n+2*K+1
theorem nD (K n:Nat):fI K n+(2*K+1)=2^n*(3*K+1):=by
 induction n with
 |zero=>simp[fI];omega
 |succ n ih=>
  rw[fI,Nat.pow_succ,Nat.mul_comm (2^n) 2,Nat.mul_assoc,←ih];omega
theorem jW (K:Nat) {m n:Nat} (h:m≤n):fI K m≤fI K n:=by
 induction h with
 |refl=>exact Nat.le_refl _
 |step _ ih=>rw[fI];omega
theorem rB (K n:Nat):K≤fI K n:=jW K (Nat.zero_le n)
end Go.Proofs.YtlojjipfnejbnaaGreatDoor
namespace Go.Proofs.YtlojjipfnejbnaaGreatDoor
open Go.RowKit Sos
theorem KM.setRow {w:World} {g:Nat} {cur cs:Array Value} {e:TypeId} (hg:w.heap[g]? =some (.cells cur e (0,0))) (hn:∀u∈cur.toList,NoInt u):KM w (w.setRow g cs):=
 ⟨by simp[World.setRow],fun p k x hp=>by
  obtain⟨b,o,sp⟩:=p;obtain rfl:sp=none:=World.cell?_spot hp;by_cases e':b=g
  ·subst e';rw[cell_of_row w b o cur e (0,0) hg,←Array.getElem?_toList] at hp;exact absurd rfl (hn _ (List.mem_of_getElem? hp) k x)
  ·exact(World.cell?_of_block (setRow_other w g b cs e')).trans hp⟩
theorem UE:(Tryz.prog.info? 96).map (·.size)=some 4:=by kernel_rfl
abbrev zR:List Value:=[.bool false,.slice none 0 0,.bool false,.slice none 0 0]
theorem UF (M:Nat):∀u∈(List.replicate M zR).flatten,NoInt u:=fun u hu=>by
 obtain⟨r,hr1,hr2⟩:=List.mem_flatten.1 hu;rw[(List.mem_replicate.1 hr1).2] at hr2;simp only[List.mem_cons,List.not_mem_nil,or_false] at hr2;rcases hr2 with rfl|rfl|rfl|rfl<;>first|exact NoInt.bool _|exact NoInt.slice _ _ _
theorem OwnQ.copied {w:World} {g M:Nat} {rows:List (List Value)} {qs:List Rat} (hr:Rw w g 4 (List.replicate M zR) 96) (hk:∀r∈rows,r.length=4) (hl:rows.length=qs.length) (hM:qs.length≤M) (hi:QRow w rows qs):
  let W:=w.setRow g (rows.flatten++(List.replicate M zR).flatten.drop rows.flatten.length).toArray
  OwnQ W g (qs++List.replicate (M-qs.length) 0)∧pO g w W:=by
 have hg:w.heap[g]? =some (.cells (List.replicate M zR).flatten.toArray 96 (0,0)):=hr.1;have hnz:∀u∈(List.replicate M zR).flatten.toArray.toList,NoInt u:=UF M;have hkm:KM w (w.setRow g (rows.flatten++(List.replicate M zR).flatten.drop rows.flatten.length).toArray):=KM.setRow hg hnz;have hfl:rows.flatten++(List.replicate M zR).flatten.drop rows.flatten.length=(rows++List.replicate (M-qs.length) zR).flatten:=by
  rw[gK hk,hl,GZ _ 4 _ _ rfl hM,List.flatten_append]
 refine⟨⟨rows++List.replicate (M-qs.length) zR,⟨?_,fun r hr=> ?_⟩,by simp[hl],fun i n hn=> ?_⟩,hkm,fun x n hx=>GX hg hnz hx,fun b hb=>setRow_other w g b _ hb,by simp[World.setRow],rfl,rfl,rfl⟩
 ·unfold Bx;rw[←hfl];exact setRow_heap w g _ _ _ _ hg
 ·rcases List.mem_append.1 hr with h|h
  ·exact hk r h
  ·rw[(List.mem_replicate.1 h).2];rfl
 ·rcases Nat.lt_or_ge i qs.length with h|h
  ·rw[List.getElem?_append_left h] at hn;obtain⟨s,A,l,c,s',A',l',c',e1,e2⟩:=hi i n hn;exact⟨s,A,l,c,s',A',l',c',by rw[List.getElem?_append_left (by omega)];exact e1,e2.keep hkm⟩
  ·rw[List.getElem?_append_right h] at hn;have hlt:=(List.getElem?_eq_some_iff.1 hn).1;rw[List.length_replicate] at hlt;rw[List.getElem?_replicate,if_pos hlt] at hn;injection hn with hn;subst hn;exact⟨false,none,0,0,false,none,0,0,by rw[List.getElem?_append_right (by omega),hl,List.getElem?_replicate,if_pos hlt],NQ.zero _⟩
section
variable {w:World} {ops:Array Oper} {rest:List Oper} {o:Oper} {a:Act} {Q:Exit→Act→World→Prop}
theorem UG (hgd:o.guard=none) {d s:Operand} (ho:o.op= .call { callee:= .builtin .copy,args:= #[d,s],argTypes:= #[63,63] }) {g M c':Nat} (hd:a.eval d= .slice (some ⟨g,0,none⟩) M c') (hr:Rw w g 4 (List.replicate M zR) 96)
  {A:Option Addr} {l c:Nat} {qs:List Rat} (hx:a.eval s= .slice A l c) (hq:QsAt w (.slice A l c) qs) (hM:qs.length≤M)
  (h:∀w',OwnQ w' g (qs++List.replicate (M-qs.length) 0)→pO g w w'→wpList Tryz.prog ops Q rest (a.put o.dst (goInt l)) w'):wpList Tryz.prog ops Q (o :: rest) a w:=by
 obtain⟨rows,hrl,rfl,hrk,hsrc,hir,hone⟩:=hq.srcs;have hrn:rows.flatten.length=qs.length*4:=by rw[gK hrk,hrl]
 have hfit:rows.flatten.length≤(List.replicate M zR).flatten.toArray.size:=by
  rw[hrn,List.size_toArray,gK (k:=4) (fun r hr=>by rw[(List.mem_replicate.1 hr).2];rfl),List.length_replicate];omega
 obtain⟨h1,h2⟩:=OwnQ.copied hr hrk hrl hM hir;exact GY hgd ho 96 4 g M c' A qs.length c _ 96 rows.flatten Tryz.underlying63 UE (by decide) hd hx hr.1 hrn hM hsrc hfit hone (h _ h1 h2)
end
theorem zK {l:List Rat} {g:Nat→Rat} {i k m:Nat} (hm:i+k=m) (h:m<l.length):(d8 l g i k)[m]? =some (cf l m)∧m<(d8 l g i k).length∧(d8 l g i k).set m (g m)=d8 l g i (k+1):=by
 subst hm;exact⟨UK h,by rw[jH];exact h,UL h⟩
theorem QsAt.cell {w:World} {A:Option Addr} {c:Nat} {qs:List Rat} (h:QsAt w (.slice A qs.length c) qs) {i:Nat} (hi:i<qs.length):
  ∃b s B m d s' B' m' d',A=some ⟨b,0,none⟩∧b<w.heap.size∧R4 w b (i*4) (.bool s) (.slice B m d) (.bool s') (.slice B' m' d')∧NQ w (.agg #[.bool s,.slice B m d,.bool s',.slice B' m' d']) (cf qs i):=
 h.at_ (by rw[List.getElem?_eq_getElem hi,←dO hi])
def QVar (w:World) (b:Nat) (q:Rat):Prop:=∃s A l c s' A' l' c',Bx w b [.bool s,.slice A l c,.bool s',.slice A' l' c'] 96∧NQ w (.agg #[.bool s,.slice A l c,.bool s',.slice A' l' c']) q
section
variable {W0 w:World} {g:Nat} {q:Rat} {s s':Bool} {A A':Option Addr} {l c l' c':Nat}
theorem QVar.below {w':World} (h:QVar w g q) (hb:Below w.heap.size w w'):QVar w' g q:=by
 obtain⟨s,A,l,c,s',A',l',c',h1,h2⟩:=h;exact⟨s,A,l,c,s',A',l',c',h1.below hb,h2.below hb⟩
theorem QVar.step {w':World} {b:Nat} (h:QVar w g q) (hs:pO b w w') (hne:g≠b):QVar w' g q:=by
 obtain⟨s,A,l,c,s',A',l',c',h1,h2⟩:=h;exact⟨s,A,l,c,s',A',l',c',(hs.2.2.1 g hne).trans h1,h2.keep hs.1⟩
theorem QVar.up {b:World} [u:Up w b] (h:QVar w g q):QVar b g q:=h.below u.out
theorem UH (h:NQ w (.agg #[.bool s,.slice A l c,.bool s',.slice A' l' c']) q) (hB:Below W0.heap.size W0 w):QVar (w.alloc (.cells #[.bool s,.slice A l c,.bool s',.slice A' l' c'] 96)) w.heap.size q∧Below W0.heap.size W0 (w.alloc (.cells #[.bool s,.slice A l c,.bool s',.slice A' l' c'] 96)):=
 ⟨⟨_,_,_,_,_,_,_,_,Bx.new _ _ _,h.below ((Below.refl _ _).alloc (Nat.le_refl _) _)⟩,hB.alloc hB.size _⟩
theorem UI (D:Bx w g zR 96) (h:NQ w (.agg #[.bool s,.slice A l c,.bool s',.slice A' l' c']) q) (hB:Below W0.heap.size W0 w) (hl:W0.heap.size≤g):
  QVar ((((w.setCell ⟨g,0,none⟩ (.bool s)).setCell ⟨g,1,none⟩ (.slice A l c)).setCell ⟨g,2,none⟩ (.bool s')).setCell ⟨g,3,none⟩ (.slice A' l' c')) g q∧Below W0.heap.size W0 ((((w.setCell ⟨g,0,none⟩ (.bool s)).setCell ⟨g,1,none⟩ (.slice A l c)).setCell ⟨g,2,none⟩ (.bool s')).setCell ⟨g,3,none⟩ (.slice A' l' c')):=by
 obtain⟨W',e,D',hb',hk, -⟩:=D.mut4 hB hl (.bool s) (.slice A l c) (.bool s') (.slice A' l' c') rfl rfl;rw[e];exact⟨⟨_,_,_,_,_,_,_,_,D',h.keep hk⟩,hb'⟩
end
end Go.Proofs.YtlojjipfnejbnaaGreatDoor
