/-
  Contracts of functions that the statement reaches, and plain laws: RooG, ExjP, RooH, RooD, RooI, KeepB, AwkP.
-/
import Derived.Test.YtbhplgdbfmifkaaGreatDoorI26
import Derived.Test.YtbhplgdbfmifkaaGreatDoorI31
import Derived.Test.YtbhplgdbfmifkaaGreatDoorI38
set_option linter.unusedVariables false
set_option linter.unusedSimpArgs false
set_option maxHeartbeats 8000000
set_option maxRecDepth 100000
namespace Go.Proofs.YtbhplgdbfmifkaaGreatDoor
open Go.RowKit Sos
structure Fr (gb:Nat) (v:Value) (w w':World):Prop where
 below:Below gb w w'
 keep:Keep w w'
 block:∀k,gb<k→k<w.heap.size→v.ownBlock≠some k→w'.heap[k]? =w.heap[k]?
def OwnTo (w:World) (v v':Value):Prop:=∀g,v'.ownBlock=some g→v.ownBlock=some g∨w.heap.size≤g
theorem Fr.of {gb:Nat} {v:Value} {w w':World} (h:Below w.heap.size w w') (hg:gb≤w.heap.size):Fr gb v w w':=⟨h.mono hg,Keep.below h,fun k _ hk _=>h.block k hk⟩
theorem Fr.trans {gb:Nat} {v v1:Value} {w w1 w2:World} (h:Fr gb v w w1) (h':Fr gb v1 w1 w2) (ho:OwnTo w v v1):Fr gb v w w2:=
 ⟨h.below.trans h'.below,h.keep.trans h'.keep,fun k h1 h2 h3=>(h'.block k h1 (Nat.lt_of_lt_of_le h2 h.below.size) (fun e=>by
  rcases ho k e with h4|h4
  ·exact h3 h4
  ·omega)).trans (h.block k h1 h2 h3)⟩
theorem OwnTo.trans {w w1:World} {v v1 v2:Value} (h:OwnTo w v v1) (h':OwnTo w1 v1 v2) (hs:w.heap.size≤w1.heap.size):OwnTo w v v2:=fun g e=>by
 rcases h' g e with h1|h1
 ·exact h g h1
 ·exact .inr (Nat.le_trans hs h1)
theorem Bx.fr {gb g:Nat} {v:Value} {w w':World} {cs:List Value} {t:TypeId} (h:Bx w g cs t) (hf:Fr gb v w w') (hg:gb<g) (hv:v.ownBlock≠some g):Bx w' g cs t:=(hf.block g hg h.lt hv).trans h
def SpRow (w:World) (rows:List (List Value)) (l:List (Rat×Rat)):Prop:=rows.length=l.length∧∀(i:Nat) (p:Rat×Rat),l[i]? =some p→∃s1 A1 k1 c1 s2 A2 k2 c2 s3 A3 k3 c3 s4 A4 k4 c4,rows[i]? =some [Value.bool s1,.slice A1 k1 c1,.bool s2,.slice A2 k2 c2,.bool s3,.slice A3 k3 c3,.bool s4,.slice A4 k4 c4]∧RatAt w (.agg #[.bool s1,.slice A1 k1 c1,.bool s2,.slice A2 k2 c2]) p.1∧RatAt w (.agg #[.bool s3,.slice A3 k3 c3,.bool s4,.slice A4 k4 c4]) p.2
theorem SpRow.keep {w w':World} {rows:List (List Value)} {l:List (Rat×Rat)} (h:SpRow w rows l) (hk:Keep w w'):SpRow w' rows l:=⟨h.1,fun i p hp=>by
 obtain⟨s1,A1,k1,c1,s2,A2,k2,c2,s3,A3,k3,c3,s4,A4,k4,c4,e,h1,h2⟩:=h.2 i p hp;exact⟨s1,A1,k1,c1,s2,A2,k2,c2,s3,A3,k3,c3,s4,A4,k4,c4,e,h1.keep hk,h2.keep hk⟩⟩
def RowSp (w:World) (base:Nat) (v:Value) (l:List (Rat×Rat)):Prop:=∃rows,GrowD w base 108 8 v rows∧SpRow w rows l
theorem RowSp.below {w w':World} {base:Nat} {v:Value} {l:List (Rat×Rat)} (h:RowSp w base v l) (hb:Below w.heap.size w w'):RowSp w' base v l:=by
 obtain⟨rows,h1,h2⟩:=h;exact⟨rows,h1.below hb,h2.keep (Keep.below hb)⟩
theorem RowSp.lt {w:World} {base:Nat} {v:Value} {l:List (Rat×Rat)} (h:RowSp w base v l):∀g,v.ownBlock=some g→base≤g∧g<w.heap.size:=by
 obtain⟨rows,h1,h2⟩:=h;exact h1.lt
theorem RowSp.nil (w:World) (base:Nat):RowSp w base (.slice none 0 0) []:=⟨[],GrowD.nil,rfl,fun i p h=>by simp at h⟩
theorem RowSp.form {w:World} {base:Nat} {v:Value} {l:List (Rat×Rat)} (h:RowSp w base v l):∃A c,v= .slice A l.length c∧l.length≤c:=by
 obtain⟨rows,h1,h2⟩:=h;rw[←h2.1];exact h1.form
theorem wC:(Tryz.prog.info? 108).map (fun i=>(i.zero,i.size,i.bytes))=some (some (.agg #[.bool false,.slice none 0 0,.bool false,.slice none 0 0,.bool false,.slice none 0 0,.bool false,.slice none 0 0]),8,128):=by kernel_rfl
theorem wD (n:Nat):∀y∈Builtin.zeroCells (Value.agg #[.bool false,.slice none 0 0,.bool false,.slice none 0 0,.bool false,.slice none 0 0,.bool false,.slice none 0 0]).cells n,NoInt y:=fun y hy=>by
 unfold Builtin.zeroCells at hy;obtain⟨j,_,rfl⟩:=Array.mem_map.1 hy;have hs:(Value.agg #[.bool false,.slice none 0 0,.bool false,.slice none 0 0,.bool false,.slice none 0 0,.bool false,.slice none 0 0]).cells= #[Value.bool false,.slice none 0 0,.bool false,.slice none 0 0,.bool false,.slice none 0 0,.bool false,.slice none 0 0]:=rfl;rw[hs];have hs:(#[Value.bool false,.slice none 0 0,.bool false,.slice none 0 0,.bool false,.slice none 0 0,.bool false,.slice none 0 0]:Array Value).size=8:=rfl;rw[hs];rcases(show j%8=0∨j%8=1∨j%8=2∨j%8=3∨j%8=4∨j%8=5∨j%8=6∨j%8=7 by omega) with h|h|h|h|h|h|h|h<;>rw[h]
 ·exact NoInt.bool _
 ·exact NoInt.slice _ _ _
 ·exact NoInt.bool _
 ·exact NoInt.slice _ _ _
 ·exact NoInt.bool _
 ·exact NoInt.slice _ _ _
 ·exact NoInt.bool _
 ·exact NoInt.slice _ _ _
theorem Bx.grown {w w':World} {g:Nat} {row:Option Nat} {cs:List Value} {t:TypeId} (h:Bx w g cs t) (hg:w.grownBy w' row) (hr:row≠some g):Bx w' g cs t:=(hg.block g h.lt (fun e=>hr e.symm)).trans h
theorem wE {gb:Nat} {w W w9:World} {vc vr v9:Value} {rows:List (List Value)} {out:List (Rat×Rat)} {x y:Rat} {s1 s2 s3 s4:Bool} {A1 A2 A3 A4:Option Addr} {k1 k2 k3 k4 c1 c2 c3 c4:Nat}
  (hb:Below w.heap.size w W) (hgw:gb<w.heap.size) (P:Bx W gb [vc,vr] 166) (hvr:∃A k c,vr= .slice A k c) (hG:GrowD W (gb+1) 108 8 vr rows) (hS:SpRow W rows out) (hx:RatAt W (.agg #[.bool s1,.slice A1 k1 c1,.bool s2,.slice A2 k2 c2]) x) (hy:RatAt W (.agg #[.bool s3,.slice A3 k3 c3,.bool s4,.slice A4 k4 c4]) y)
  (h9:GrowD w9 (gb+1) 108 8 v9 (rows++[[.bool s1,.slice A1 k1 c1,.bool s2,.slice A2 k2 c2,.bool s3,.slice A3 k3 c3,.bool s4,.slice A4 k4 c4]])) (hk:Keep W w9) (hg:W.grownBy w9 vr.ownBlock) (ho:v9.ownBlock=vr.ownBlock∨v9.ownBlock=some W.heap.size):
  Bx (w9.setCell ⟨gb,1,none⟩ v9) gb [vc,v9] 166∧RowSp (w9.setCell ⟨gb,1,none⟩ v9) (gb+1) v9 (out++[(x,y)])∧Fr gb vr w (w9.setCell ⟨gb,1,none⟩ v9)∧OwnTo w vr v9:=by
 have hne:vr.ownBlock≠some gb:=fun e=>by have:=(hG.lt gb e).1;omega
 have P9:=P.grown hg hne;obtain⟨A,k,c,rfl⟩:=hvr;have hk2:Keep w9 (w9.setCell ⟨gb,1,none⟩ v9):=Keep.put (P9.cell 1 rfl) (NoInt.slice _ _ _) v9;have hrest:∀k,k≠gb→(w9.setCell ⟨gb,1,none⟩ v9).heap[k]? =w9.heap[k]? :=fun k hk=>Below.heap_setCell w9 ⟨gb,1,none⟩ v9 k hk;have hsz:(w9.setCell ⟨gb,1,none⟩ v9).heap.size=w9.heap.size:=by simp[World.setCell]
 refine⟨P9.set 1 v9,⟨_,h9.kept (fun g e=>hrest g (by have:=(h9.lt g e).1;omega)),?_⟩,⟨?_,((Keep.below hb).trans hk).trans hk2,fun k h1 h2 h3=> ?_⟩,fun g e=> ?_⟩
 ·have hS2:=hS.keep (hk.trans hk2);refine⟨by rw[List.length_append,List.length_append,hS2.1];rfl,fun i p hp=> ?_⟩;rcases Nat.lt_or_ge i out.length with hi|hi
  ·rw[List.getElem?_append_left hi] at hp;obtain⟨t1,B1,l1,d1,t2,B2,l2,d2,t3,B3,l3,d3,t4,B4,l4,d4,e,h1,h2⟩:=hS2.2 i p hp;exact⟨t1,B1,l1,d1,t2,B2,l2,d2,t3,B3,l3,d3,t4,B4,l4,d4,by rw[List.getElem?_append_left (by have:=hS2.1;omega)];exact e,h1,h2⟩
  ·have hi0:=(List.getElem?_eq_some_iff.1 hp).1;rw[List.length_append,List.length_singleton] at hi0;obtain rfl:i=out.length:=by omega
   rw[List.getElem?_append_right (Nat.le_refl _),Nat.sub_self] at hp;have hpe:(x,y)=p:=by simpa using hp
   subst hpe;exact⟨_,_,_,_,_,_,_,_,_,_,_,_,_,_,_,_,by rw[List.getElem?_append_right (by have:=hS2.1;omega),hS2.1,Nat.sub_self];rfl,hx.keep (hk.trans hk2),hy.keep (hk.trans hk2)⟩
 ·have hb1:Below gb w W:=hb.mono (by omega);have hb2:Below gb W w9:=⟨hg.os,hg.tape,hg.output,hg.size,fun k hk=>hg.block k (by have:=hb.size;omega) (fun e=>by have:=(hG.lt k e.symm).1;omega)⟩;exact(hb1.trans hb2).setCell (p:=⟨gb,1,none⟩) (Nat.le_refl _) v9
 ·rw[hrest k (by omega),hg.block k (by have:=hb.size;omega) (fun e=>h3 e.symm)];exact hb.block k h2
 ·rcases ho with h|h
  ·exact .inl (by rw[←h];exact e)
  ·rw[h] at e;injection e with e;exact .inr (by have:=hb.size;omega)
def lN (wb w:World) (vc vr:Value) (out:List (Rat×Rat)) (e:Ending) (w':World):Prop:=∃v',e= .returned (.tuple #[])∧Bx w' wb.heap.size [vc,v'] 166∧RowSp w' (wb.heap.size+1) v' out∧Fr wb.heap.size vr w w'∧OwnTo w vr v'
theorem PoAt.of {w:World} {x:Rat} {n:Int} {z s1 s2:Bool} {A1 A2:Option Addr} {k1 c1 k2 c2:Nat} (h:RatAt w (.agg #[.bool s1,.slice A1 k1 c1,.bool s2,.slice A2 k2 c2]) x):PoAt w (.agg #[.bool s1,.slice A1 k1 c1,.bool s2,.slice A2 k2 c2,.int .i64 n,.bool z]) x n z:=⟨_,_,_,_,_,_,_,_,rfl,h⟩
theorem SpanAt.of {w:World} {x y:Rat} {s1 s2 s3 s4:Bool} {A1 A2 A3 A4:Option Addr} {k1 c1 k2 c2 k3 c3 k4 c4:Nat} (h:RatAt w (.agg #[.bool s1,.slice A1 k1 c1,.bool s2,.slice A2 k2 c2]) x) (h':RatAt w (.agg #[.bool s3,.slice A3 k3 c3,.bool s4,.slice A4 k4 c4]) y):SpanAt w (.agg #[.bool s1,.slice A1 k1 c1,.bool s2,.slice A2 k2 c2,.bool s3,.slice A3 k3 c3,.bool s4,.slice A4 k4 c4]) x y:=⟨_,_,_,_,_,_,_,_,_,_,_,_,_,_,_,_,rfl,h,h'⟩
theorem PoAt.keep {w w':World} {v:Value} {x:Rat} {n:Int} {z:Bool} (h:PoAt w v x n z) (hk:Keep w w'):PoAt w' v x n z:=by
 obtain⟨s1,A1,k1,c1,s2,A2,k2,c2,rfl,h⟩:=h;exact⟨_,_,_,_,_,_,_,_,rfl,h.keep hk⟩
theorem GrowD.form3 {w:World} {base:Nat} {e:TypeId} {k:Nat} {v:Value} {rows:List (List Value)} (h:GrowD w base e k v rows):∃A n c,v= .slice A n c:=by
 obtain⟨A,c,e, -⟩:=h.form;exact⟨A,_,c,e⟩
theorem wL (s1 s2 s3 s4:Bool) (A1 A2 A3 A4:Option Addr) (k1 c1 k2 c2 k3 c3 k4 c4:Nat):∀u∈[Value.bool s1,.slice A1 k1 c1,.bool s2,.slice A2 k2 c2,.bool s3,.slice A3 k3 c3,.bool s4,.slice A4 k4 c4],NoInt u∧u.oneCell'=true:=fun u hu=>by
 simp at hu;rcases hu with rfl|rfl|rfl|rfl|rfl|rfl|rfl|rfl
 ·exact⟨NoInt.bool _,rfl⟩
 ·exact⟨NoInt.slice _ _ _,rfl⟩
 ·exact⟨NoInt.bool _,rfl⟩
 ·exact⟨NoInt.slice _ _ _,rfl⟩
 ·exact⟨NoInt.bool _,rfl⟩
 ·exact⟨NoInt.slice _ _ _,rfl⟩
 ·exact⟨NoInt.bool _,rfl⟩
 ·exact⟨NoInt.slice _ _ _,rfl⟩
section
variable {V:Rat→Nat} {sg:Rat→Int} {K:Nat} {wb:World} {vc:Value} (hG:Glob wb) (hV:∀x,V x≤1024) (hK1:1≤K) (hK2:K≤1073741824)
 (hat:∀(x:Rat) (W:World) (vr vx:Value),Bx W wb.heap.size [vc,vr] 166→Below wb.heap.size wb W→RatAt W vx x→RL K x→Calls Tryz.prog 113 #[.pointer (some ⟨wb.heap.size,0,none⟩),vx] W fun e w'=>∃v',e= .returned v'∧PoAt w' v' x (V x) (decide (sg x=0))∧Below W.heap.size W w')
include hG hV hK1 hK2 hat
theorem Q0 {a b:Rat} {l:List (Rat×Rat)} (h:ExK K V sg a b l):RL K a→RL K b→∀(out:List (Rat×Rat)) (vr va vb:Value) (w:World),Bx w wb.heap.size [vc,vr] 166→Below wb.heap.size wb w→RowSp w (wb.heap.size+1) vr out→PoAt w va a (V a) (decide (sg a=0))→PoAt w vb b (V b) (decide (sg b=0))→out.length+l.length≤1048576→
  Calls Tryz.prog 112 #[.pointer (some ⟨wb.heap.size,0,none⟩),va,vb] w (lN wb w vc vr (out++l)):=by
 induction h with
 | @none a b h=>
  intro ka kb out vr va vb w P hbb hR ha hb' hl;obtain⟨s1,A1,k1,c1,s2,A2,k2,c2,rfl,ha⟩:=ha;obtain⟨s3,A3,k3,c3,s4,A4,k4,c4,rfl,hb'⟩:=hb';have hVa:=hV a;have hVb:=hV b;have hgw:=P.lt;rw[List.append_nil];have hn:((V a:Nat):Int)-((V b:Nat):Int)≤0:=by omega
  generalize decide (sg a=0)=za at *;generalize decide (sg b=0)=zb at *;generalize V a=na at *;generalize V b=nb at *;clear hat;obtain⟨W,eW,hb,X,Y⟩:=j6 w [.bool s1,.slice A1 k1 c1,.bool s2,.slice A2 k2 c2,.int .i64 (na:Int),.bool za] 169 [.bool s3,.slice A3 k3 c3,.bool s4,.slice A4 k4 c4,.int .i64 (nb:Int),.bool zb] 169;have cM:=aa X.g6 Y.g6;go_enter Tryz.func112,Tryz.ntmps112;go_wp2_with fail;(try rw[eW]);clear eW;exact bodyPost_ret (v:= .tuple #[]) (by simp[results,Tryz.results112,go_sem]) rfl ⟨vr,rfl,P.below hb,hR.below hb,Fr.of hb (Nat.le_of_lt hgw),fun g e=> .inl e⟩
 | @hit a b h hb0=>
  intro ka kb out vr va vb w P hbb hR ha hb' hl;obtain⟨s1,A1,k1,c1,s2,A2,k2,c2,rfl,ha⟩:=ha;obtain⟨s3,A3,k3,c3,s4,A4,k4,c4,rfl,hb'⟩:=hb';have hVb:=hV b;have hgw:=P.lt;have hlt:=hR.lt;obtain⟨rows,hGr,hSp⟩:=hR;obtain⟨Ar,cr,rfl,hcr⟩:=hGr.form;have hN:((V a:Nat):Int)-((V b:Nat):Int)=1:=by omega
  clear h;have hrl:=hSp.1;have hrl2:rows.length≤1073741824:=by omega
  clear hrl;have hzb:decide (sg b=0)=true:=decide_eq_true hb0;rw[hzb];clear hzb hb0;generalize decide (sg a=0)=za at *;generalize V a=na at *;generalize V b=nb at *;clear hat;obtain⟨W,eW,hb,X,Y⟩:=j6 w [.bool s1,.slice A1 k1 c1,.bool s2,.slice A2 k2 c2,.int .i64 (na:Int),.bool za] 169 [.bool s3,.slice A3 k3 c3,.bool s4,.slice A4 k4 c4,.int .i64 (nb:Int),.bool true] 169;have cM:=aa X.g6 Y.g6;go_enter Tryz.func112,Tryz.ntmps112;go_wp2_with fail;(try rw[eW]);clear eW;have:=St.mk hb;have hXn:(Value.slice Ar rows.length cr).ownBlock≠some w.heap.size:=fun e=>by have:=(hlt _ e).2;omega
  have hYn:(Value.slice Ar rows.length cr).ownBlock≠some (w.heap.size+1):=fun e=>by have:=(hlt _ e).2;omega
  have hPn:(Value.slice Ar rows.length cr).ownBlock≠some wb.heap.size:=fun e=>by have:=(hlt _ e).1;omega
  have n1:wb.heap.size≠w.heap.size:=by omega
  have n2:wb.heap.size≠w.heap.size+1:=by omega
  have cP:=(P.up (b:=W.drew)).k2;have cPW:=(P.up (b:=W)).cell 1 rfl;have dP:=fun o:Obj=>((P.up (b:=W.drew)).alloc o).cell 1 rfl;have l1:wb.heap.size<W.heap.size:=(P.up (b:=W)).lt;have l2:wb.heap.size≠W.heap.size:=Nat.ne_of_lt l1;have l3:W.heap.size≠wb.heap.size:=Nat.ne_of_gt l1;have cX:=X.k6;have cY:=Y.k6;have hlX:=X.lt;have hlY:=Y.lt;have hmX:=Nat.ne_of_lt hlX;have hmY:=Nat.ne_of_lt hlY
  go_region_law (first
    |(refine EY (by rfl) (by rfl) 108 8 128 _ Tryz.underlying105 wC rfl wD (by decide) (by decide) (by rfl) hGr.up (by rfl) (Bx.new _ _ _) rfl (wL _ _ _ _ _ _ _ _ _ _ _ _ _ _ _ _) hrl2 (by have:=hb.size;simp;omega) ?_;intro v9 w9 hG9 hk9 hg9 ho9;obtain⟨A9,L9,m9,rfl⟩:=hG9.form3;have X9:=Bx.grown X.up hg9 hXn;have Y9:=Bx.grown Y.up hg9 hYn;have P9:=Bx.grown P.up hg9 hPn;have c9:=P9.g2;have cX9:=X9.k6;have cY9:=Y9.k6;have SP:=wE (Up.out (a:=w)) hgw P.up ⟨_,_,_,rfl⟩ hGr.up (hSp.keep (Keep.below (Up.out (a:=w)))) hb'.up hb'.up hG9 hk9 hg9 ho9))
  all_goals (
   go_wp2_with fail;obtain⟨z1,z2,z3,z4⟩:=SP;exact bodyPost_ret (v:= .tuple #[]) (by simp[results,Tryz.results112,go_sem]) rfl ⟨_,rfl,z1,z2,z3,z4⟩)
 | @one a b h hb0 ha0=>
  intro ka kb out vr va vb w P hbb hR ha hb' hl;obtain⟨s1,A1,k1,c1,s2,A2,k2,c2,rfl,ha⟩:=ha;obtain⟨s3,A3,k3,c3,s4,A4,k4,c4,rfl,hb'⟩:=hb';have hVb:=hV b;have hgw:=P.lt;have hlt:=hR.lt;obtain⟨rows,hGr,hSp⟩:=hR;obtain⟨Ar,cr,rfl,hcr⟩:=hGr.form;have hN:((V a:Nat):Int)-((V b:Nat):Int)=1:=by omega
  clear h;have hrl:=hSp.1;have hrl2:rows.length≤1073741824:=by omega
  clear hrl;have hzb:decide (sg b=0)=false:=decide_eq_false hb0;have hza:decide (sg a=0)=false:=decide_eq_false ha0;rw[hzb,hza];clear hzb hb0 hza ha0;generalize V a=na at *;generalize V b=nb at *;clear hat;obtain⟨W,eW,hb,X,Y⟩:=j6 w [.bool s1,.slice A1 k1 c1,.bool s2,.slice A2 k2 c2,.int .i64 (na:Int),.bool false] 169 [.bool s3,.slice A3 k3 c3,.bool s4,.slice A4 k4 c4,.int .i64 (nb:Int),.bool false] 169;have cM:=aa X.g6 Y.g6;go_enter Tryz.func112,Tryz.ntmps112;go_wp2_with fail;(try rw[eW]);clear eW;have:=St.mk hb;have hXn:(Value.slice Ar rows.length cr).ownBlock≠some w.heap.size:=fun e=>by have:=(hlt _ e).2;omega
  have hYn:(Value.slice Ar rows.length cr).ownBlock≠some (w.heap.size+1):=fun e=>by have:=(hlt _ e).2;omega
  have hPn:(Value.slice Ar rows.length cr).ownBlock≠some wb.heap.size:=fun e=>by have:=(hlt _ e).1;omega
  have n1:wb.heap.size≠w.heap.size:=by omega
  have n2:wb.heap.size≠w.heap.size+1:=by omega
  have cP:=(P.up (b:=W.drew)).k2;have cPW:=(P.up (b:=W)).cell 1 rfl;have dP:=fun o:Obj=>((P.up (b:=W.drew)).alloc o).cell 1 rfl;have l1:wb.heap.size<W.heap.size:=(P.up (b:=W)).lt;have l2:wb.heap.size≠W.heap.size:=Nat.ne_of_lt l1;have l3:W.heap.size≠wb.heap.size:=Nat.ne_of_gt l1;have cX:=X.k6;have cY:=Y.k6;have hlX:=X.lt;have hlY:=Y.lt;have hmX:=Nat.ne_of_lt hlX;have hmY:=Nat.ne_of_lt hlY
  go_region_law (first
    |(refine EY (by rfl) (by rfl) 108 8 128 _ Tryz.underlying105 wC rfl wD (by decide) (by decide) (by rfl) hGr.up (by rfl) (Bx.new _ _ _) rfl (wL _ _ _ _ _ _ _ _ _ _ _ _ _ _ _ _) hrl2 (by have:=hb.size;simp;omega) ?_;intro v9 w9 hG9 hk9 hg9 ho9;obtain⟨A9,L9,m9,rfl⟩:=hG9.form3;have X9:=Bx.grown X.up hg9 hXn;have Y9:=Bx.grown Y.up hg9 hYn;have P9:=Bx.grown P.up hg9 hPn;have c9:=P9.g2;have cX9:=X9.k6;have cY9:=Y9.k6;have SP:=wE (Up.out (a:=w)) hgw P.up ⟨_,_,_,rfl⟩ hGr.up (hSp.keep (Keep.below (Up.out (a:=w)))) ha.up hb'.up hG9 hk9 hg9 ho9))
  all_goals (
   go_wp2_with fail;obtain⟨z1,z2,z3,z4⟩:=SP;exact bodyPost_ret (v:= .tuple #[]) (by simp[results,Tryz.results112,go_sem]) rfl ⟨_,rfl,z1,z2,z3,z4⟩)
 | @split a b l m h h' hk hl' hm ih1 ih2=>
  intro ka kb out vr va vb w P hbb hR ha hb' hl;obtain⟨s1,A1,k1,c1,s2,A2,k2,c2,rfl,ha⟩:=ha;obtain⟨s3,A3,k3,c3,s4,A4,k4,c4,rfl,hb'⟩:=hb';have hVa:=hV a;have hVb:=hV b;have hgw:=P.lt;have hlt:=hR.lt;have hmid:=fun W hG h=>QX a b (.agg #[.bool s1,.slice A1 k1 c1,.bool s2,.slice A2 k2 c2,.bool s3,.slice A3 k3 c3,.bool s4,.slice A4 k4 c4]) W hG h K ka kb hK1 hK2;have hat2:=fun W vx P hb h=>hat ((a+b)/2) W vr vx P hb h hk;have i1:=fun vm W P hb hR h1 h2=>ih1 ka hk out vr (.agg #[.bool s1,.slice A1 k1 c1,.bool s2,.slice A2 k2 c2,.int .i64 (V a:Int),.bool (decide (sg a=0))]) vm W P hb hR h1 h2 (by rw[List.length_append] at hl;omega);have i2:=fun v1 vm W P hb hR h1 h2=>ih2 hk kb (out++l) v1 vm (.agg #[.bool s3,.slice A3 k3 c3,.bool s4,.slice A4 k4 c4,.int .i64 (V b:Int),.bool (decide (sg b=0))]) W P hb hR h1 h2 (by rw[List.length_append] at hl⊢;omega);have hN0:¬((V a:Nat):Int)-((V b:Nat):Int)≤0:=by omega
  have hZ:((V a:Nat):Int)-((V b:Nat):Int)=1→decide (sg a=0)=true∧decide (sg b=0)=false:=fun e=>⟨decide_eq_true (h' (by omega)).2,decide_eq_false (h' (by omega)).1⟩;have hgW:Glob w:=hG.below hbb;have hbw:=fun (W':World) (u:Below w.heap.size w W')=>hbb.trans (u.mono (Nat.le_of_lt hgw));rw[←List.append_assoc];unfold eV at hmid;unfold lN at i1 i2;unfold lN;clear ih1 ih2 hat hV h h' hl hk hl' hm ka kb hG;generalize (a+b)/2=mid at *;generalize decide (sg a=0)=za at *;generalize decide (sg b=0)=zb at *;generalize decide (sg mid=0)=zm at *;generalize V a=na at *;generalize V b=nb at *;generalize V mid=nm at *;obtain⟨N,hN⟩:∃N:Int,(na:Int)-(nb:Int)=N:=⟨_,rfl⟩;rw[hN] at hZ hN0;have hwN:IntKind.i64.wrap N=N:=IntWalk.i64_in _ ⟨by omega,by omega⟩;have hNl: -1024≤N∧N≤1024:=by omega
  have hYn:vr.ownBlock≠some (w.heap.size+1):=fun e=>by have:=(hlt _ e).2;omega
  by_cases hN1:N=1
  ·obtain⟨rfl,rfl⟩:=hZ hN1;subst hN1;clear hZ;obtain⟨W,eW,hb,X,Y⟩:=j6 w [.bool s1,.slice A1 k1 c1,.bool s2,.slice A2 k2 c2,.int .i64 (na:Int),.bool true] 169 [.bool s3,.slice A3 k3 c3,.bool s4,.slice A4 k4 c4,.int .i64 (nb:Int),.bool false] 169;have cM:=aa X.g6 Y.g6;go_enter Tryz.func112,Tryz.ntmps112;go_wp2_with fail;(try rw[eW]);clear eW;have hW0:=hb.size;have:=St.mk hb;refine(hmid _ (hgW.below hb) (SpanAt.of ha.up hb'.up)).mono ?_;rintro e5 w5 ⟨v5,rfl,h5,hb5⟩;have:=St.mk hb5;obtain⟨s5,A5,k5,c5,s6,A6,k6,c6,rfl⟩:=h5.form;have cX5:=aa (X.up (b:=w5)).k6 (Y.up (b:=w5)).k6;go_wp2_with fail;refine(hat2 _ _ P.up (hbw _ (Up.out (a:=w))) h5).mono ?_;rintro e6 w6 ⟨v6,rfl,h6,hb6⟩;have:=St.mk hb6;obtain⟨s7,A7,k7,c7,s8,A8,k8,c8,rfl,h7⟩:=h6;obtain⟨w7,e7,hb7,Z⟩:=bA w6 [.bool s7,.slice A7 k7 c7,.bool s8,.slice A8 k8 c8,.int .i64 (nm:Int),.bool zm] 169;have:=St.mk hb7;have U7:=Up.out (a:=w) (b:=w7);have X7:=X.up (b:=w7);have Y7:=Y.up (b:=w7);have cX7:=aa X7.k6 (aa Y7.k6 Z.k6);have s6:=hb6.size;have s5:=hb5.size;go_wp2_with fail;(try rw[e7]);(try clear e7);refine(i1 _ w7 (P.below U7) (hbw _ U7) (hR.below U7) (PoAt.of (ha.below U7)) (PoAt.of h7.up)).mono ?_;rintro e8 w8 ⟨v8,rfl,P8,R8,F8,O8⟩;have hZn:vr.ownBlock≠some w6.heap.size:=fun e=>by have:=(hlt _ e).2;omega
   have Y8:=Y7.fr F8 (by omega) hYn;have Z8:=Z.fr F8 (by omega) hZn;have cX8:=aa Y8.k6 Z8.k6;go_wp2_with fail;refine(i2 v8 _ w8 P8 ((hbw _ U7).trans F8.below) R8 (PoAt.of ((h7.up (b:=w7)).keep F8.keep)) (PoAt.of ((hb'.below U7).keep F8.keep))).mono ?_;rintro e9 w9 ⟨v9,rfl,P9,R9,F9,O9⟩;have O8':OwnTo w vr v8:=fun g e=>(O8 g e).imp id (fun h=>Nat.le_trans U7.size h);go_wp2_with fail;exact bodyPost_end (v:= .tuple #[]) (by simp[results,Tryz.results112,go_sem]) rfl ⟨v9,rfl,P9,R9,((Fr.of U7 (Nat.le_of_lt hgw)).trans F8 (fun g e=> .inl e)).trans F9 O8',O8'.trans O9 (Nat.le_trans U7.size F8.below.size)⟩
  ·have q1:(N==1)=false:=by simpa using hN1
   clear hZ hN1;obtain⟨W,eW,hb,X,Y⟩:=j6 w [.bool s1,.slice A1 k1 c1,.bool s2,.slice A2 k2 c2,.int .i64 (na:Int),.bool za] 169 [.bool s3,.slice A3 k3 c3,.bool s4,.slice A4 k4 c4,.int .i64 (nb:Int),.bool zb] 169;have cM:=aa X.g6 Y.g6;go_enter Tryz.func112,Tryz.ntmps112;go_wp2_with fail;(try rw[eW]);clear eW;have hW0:=hb.size;have:=St.mk hb;refine(hmid _ (hgW.below hb) (SpanAt.of ha.up hb'.up)).mono ?_;rintro e5 w5 ⟨v5,rfl,h5,hb5⟩;have:=St.mk hb5;obtain⟨s5,A5,k5,c5,s6,A6,k6,c6,rfl⟩:=h5.form;have cX5:=aa (X.up (b:=w5)).k6 (Y.up (b:=w5)).k6;go_wp2_with fail;refine(hat2 _ _ P.up (hbw _ (Up.out (a:=w))) h5).mono ?_;rintro e6 w6 ⟨v6,rfl,h6,hb6⟩;have:=St.mk hb6;obtain⟨s7,A7,k7,c7,s8,A8,k8,c8,rfl,h7⟩:=h6;obtain⟨w7,e7,hb7,Z⟩:=bA w6 [.bool s7,.slice A7 k7 c7,.bool s8,.slice A8 k8 c8,.int .i64 (nm:Int),.bool zm] 169;have:=St.mk hb7;have U7:=Up.out (a:=w) (b:=w7);have X7:=X.up (b:=w7);have Y7:=Y.up (b:=w7);have cX7:=aa X7.k6 (aa Y7.k6 Z.k6);have s6:=hb6.size;have s5:=hb5.size;go_wp2_with fail;(try rw[e7]);(try clear e7);refine(i1 _ w7 (P.below U7) (hbw _ U7) (hR.below U7) (PoAt.of (ha.below U7)) (PoAt.of h7.up)).mono ?_;rintro e8 w8 ⟨v8,rfl,P8,R8,F8,O8⟩;have hZn:vr.ownBlock≠some w6.heap.size:=fun e=>by have:=(hlt _ e).2;omega
   have Y8:=Y7.fr F8 (by omega) hYn;have Z8:=Z.fr F8 (by omega) hZn;have cX8:=aa Y8.k6 Z8.k6;go_wp2_with fail;refine(i2 v8 _ w8 P8 ((hbw _ U7).trans F8.below) R8 (PoAt.of ((h7.up (b:=w7)).keep F8.keep)) (PoAt.of ((hb'.below U7).keep F8.keep))).mono ?_;rintro e9 w9 ⟨v9,rfl,P9,R9,F9,O9⟩;have O8':OwnTo w vr v8:=fun g e=>(O8 g e).imp id (fun h=>Nat.le_trans U7.size h);go_wp2_with fail;exact bodyPost_end (v:= .tuple #[]) (by simp[results,Tryz.results112,go_sem]) rfl ⟨v9,rfl,P9,R9,((Fr.of U7 (Nat.le_of_lt hgw)).trans F8 (fun g e=> .inl e)).trans F9 O8',O8'.trans O9 (Nat.le_trans U7.size F8.below.size)⟩
end
end Go.Proofs.YtbhplgdbfmifkaaGreatDoor
namespace Go.Proofs.YtbhplgdbfmifkaaGreatDoor
open Sos
def kS (A:List Rat):Rat:=vN (cf A (A.length-1)) (A.take (A.length-1))+1
theorem FB {A:List Rat} {a:List Int} (h:Prp A a) (ta:aN a) (ha:a≠[]):kP a=kS A:=by
 obtain⟨c,hc,rfl⟩:=h.eq_smul;have hL:=(cZ ha).1 ta;have hc1:(1:Rat)/c≠0:=by
  intro e;have:(1:Rat)/c*c=1:=by rw[Rat.div_mul_cancel hc]
  rw[e,Rat.zero_mul] at this;exact absurd this (by decide)
 have g:=YN hL hc1 (a.take (a.length-1));have e1:∀n:Int,(n:Rat)/(1/c)=c*(n:Rat):=fun n=>by grind
 have e2:(a.take (a.length-1)).map (fun n:Int=>(n:Rat)/(1/c))=(cL c a).take (a.length-1):=by
  unfold cL;rw[←List.map_take];exact List.map_congr_left (fun n _=>e1 n)
 rw[e1,e2] at g;unfold kP kS;rw[dV,d6,g]
theorem YU:cL 1 [-2,0,1]=[-2,0,1]:=by
 unfold cL;simp only[List.map_cons,List.map_nil,Rat.one_mul];rfl
theorem wA:Prp [-2,0,1] [-2,0,1]:=by
 have h:=AF (c:=1) (l:=[-2,0,1]) (by decide) (eT rfl);rw[show([-2,0,1]:List Int).map (fun n:Int=>(1:Rat)*(n:Rat))=[-2,0,1] from YU] at h;exact h
theorem YV:kS [-2,0,1]=3:=by
 rw[←FB wA (eT rfl) (by simp)];have e1:dX (([-2,0,1]:List Int).take (([-2,0,1]:List Int).length-1))=2:=by decide
 have e2:((cf ([-2,0,1]:List Int) (([-2,0,1]:List Int).length-1)).natAbs:Int)=1:=by decide
 unfold kP;rw[e1,e2];have e3:((2:Int):Rat)=2:=rfl;have e4:((1:Int):Rat)=1:=rfl;rw[e3,e4];grind
theorem YW:Pw 3 2:=by
 refine⟨by decide,fun m hm=> ?_⟩;rcases(show m=0∨m=1 by omega) with rfl|rfl<;>decide
theorem YX {w s:List Int} {c:List (List Int)} (hw:Prp [-2,0,1] w) (h:Cn 35080695 w s c):ExK 35080695 (fun x=>cE 0 ((s :: c).map (fun a=>bD a 0 x))) (fun x=>bD s 0 x) (((-((2:Int)^2):Int)):Rat) ((((2:Int)^2:Int)):Rat) [(-4,0),(0,4)]:=by
 have e1:(((-((2:Int)^2):Int)):Rat)= -4:=by decide
 have e2:((((2:Int)^2:Int)):Rat)=4:=by decide
 rw[e1,e2];have k:=fun x=>h.same E9 (by decide) (by decide) hw wA 0 x;obtain⟨v1,v2,v3⟩:=YR;obtain⟨s1,s2,s3⟩:=YS;refine(YO ⟨?_,?_,?_⟩ ⟨fun e=> ?_,fun e=> ?_,fun e=> ?_⟩).mono (by decide)
 ·exact(k (-4)).1.trans v1
 ·exact(k 0).1.trans v2
 ·exact(k 4).1.trans v3
 ·rw[(k (-4)).2,s1] at e;exact absurd e (by decide)
 ·rw[(k 0).2,s2] at e;exact absurd e (by decide)
 ·rw[(k 4).2,s3] at e;exact absurd e (by decide)
end Go.Proofs.YtbhplgdbfmifkaaGreatDoor
namespace Go.Proofs.YtbhplgdbfmifkaaGreatDoor
open Go.RowKit Sos
theorem NB (j:Nat):nl ((2:Int)^j).natAbs≤j/64+1:=by
 rw[Int.natAbs_pow]
 exact bI (by
  have e:BN^(j/64+1)=2^(64*(j/64+1)):=by rw[Nat.pow_mul];rfl
  rw[e];exact Nat.pow_lt_pow_right (by decide) (by omega))
theorem lK {n:Int} {K:Nat} (h:nl n.natAbs≤K) (h1:1≤K):RL K (n:Rat):=⟨by rw[Rat.num_intCast];exact h,by rw[Rat.den_intCast];exact Nat.le_trans (bI (m:=1) (by unfold BN;decide)) h1⟩
theorem o7 (x y:Rat):(x-y).num.sign<0↔x<y:=by
 rcases eL (x-y) with h|h|h
 ·rw[(d7 _).2 h];exact⟨fun _=>by grind,fun _=>by decide⟩
 ·rw[h];exact⟨fun k=>absurd k (by decide),fun k=>by grind⟩
 ·rw[(d7 _).1 h];exact⟨fun k=>absurd k (by decide),fun k=>by grind⟩
theorem Bx.old {w w':World} {g B:Nat} {cs:List Value} {t:TypeId} (h:Bx w g cs t) (hb:Below B w w') (hg:g<B):Bx w' g cs t:=(hb.block g hg).trans h
theorem PoAt.upp {a b:World} [u:Up a b] {v:Value} {x:Rat} {n:Int} {z:Bool} (h:PoAt a v x n z):PoAt b v x n z:=h.keep (Keep.below u.out)
def o8 (w:World) (l:List (Rat×Rat)) (e:Ending) (w':World):Prop:=∃v' base,e= .returned v'∧RowSp w' base v' l∧Below w.heap.size w w'
theorem PP (s:List Int) (b:Rat) (n:Nat) (l:List (Rat×Rat)) (v u:Value) (w:World) (hG:Glob w) (hv:WholeAt w v s) (hu:RatAt w u b) (ts:aN s) (h0:s≠[]) (hs:Sz s) (hpw:Pw b n) (hn:n≤1000) (kb:RL 35080695 b) (hl:l.length≤1048576)
  (hex:∀c,StT 35080695 s (aZ (fT s)) c→ExK 35080695 (fun x=>cE 0 ((s :: c).map (fun a=>bD a 0 x))) (fun x=>bD s 0 x) (((-((2:Int)^n):Int)):Rat) ((((2:Int)^n:Int)):Rat) l):
  Calls Tryz.prog 51 #[v,u] w (o8 w l):=by
 obtain⟨A,c,rfl,hc⟩:=hv.form;obtain⟨s1,A1,k1,c1,s2,A2,k2,c2,rfl⟩:=hu.form;have hst:=fun W hG h=>D7 s (.slice A s.length c) W hG h ts h0 hs;have td:=j8 (gP ts);have kd:∀n∈aZ (fT s),nl n.natAbs≤35080695:=fun n hn=>by
  obtain⟨K,hK,hK1,hK2, -⟩:=hs.ex;exact Nat.le_trans (mI (lS hK (by have:=hs.1;omega)) n hn) (by omega)
 have ld:(aZ (fT s)).length=s.length-1:=by rw[gA,gI]
 have hch:∀c,StT 35080695 s (aZ (fT s)) c→(s :: c).length≤8∧∀a∈s :: c,a≠[]∧a.length≤65∧∀n∈a,nl n.natAbs≤35080695:=fun c h=>by
  have h1:=h.len;have h7:=hs.1;refine⟨by rw[List.length_cons];omega,fun a ha=> ?_⟩;rcases List.mem_cons.1 ha with rfl|ha
  ·exact⟨h0,by omega,fun n hn=>Nat.le_trans (hs.nums n hn) (by omega)⟩
  ·obtain⟨e1,e2,e3,e4⟩:=h.mem td kd a ha;exact⟨e1,by omega,e4⟩
 unfold lW at hst;unfold o8;clear td kd ld;obtain⟨W,eW,hb,X⟩:=bA w [.bool s1,.slice A1 k1 c1,.bool s2,.slice A2 k2 c2] 54;have cM:=X.g4;go_enter Tryz.func51,Tryz.ntmps51;go_wp2_with fail;(try rw[eW]);clear eW;refine(jK 1 _ (by decide) (by decide)).mono ?_;rintro e1 w1 ⟨v1,rfl,h1,hb1⟩;obtain⟨s3,A3,k3,c3,rfl⟩:=h1.form;obtain⟨w2,e2,hb2,G⟩:=bA w1 [.bool s3,.slice A3 k3 c3] 50;have hB:=aB hb1 hb2;have hX0:=X.lt;have hX1:=hb1.size;have hg0:w.heap.size<w1.heap.size:=by omega
 replace X:=X.below hB;replace hb:=aB hb hB;have hGi:IntBx w2 w1.heap.size ((2:Int)^0):=⟨_,_,_,_,G,h1.below hb2⟩;clear G h1;go_wp2_with fail;(try rw[e2]);(try clear e2);generalize w1.heap.size=g5 at *;go_loopg [] n (fun k wr=>∃j,Hid (j+k=n)∧IntBx wr g5 ((2:Int)^j)∧Bx wr w.heap.size [.bool s1,.slice A1 k1 c1,.bool s2,.slice A2 k2 c2] 54∧Below w.heap.size w wr)
 case atStart=>exact⟨0,by unfold Hid;omega,hGi,X,hb⟩
 case round=>
  clear hGi X hb;obtain⟨j,HJ,⟨s3,A3,k3,c3,G,hi⟩,X,hb⟩:=hrel;generalize wr=wy at *;have hjn:j≤n:=by have:=HJ.out;omega
  have kp:nl ((2:Int)^j).natAbs≤20:=Nat.le_trans (NB j) (by omega);have hcm:=fun W v h h'=>sN (((2:Int)^j:Int):Rat) b v (.agg #[.bool s1,.slice A1 k1 c1,.bool s2,.slice A2 k2 c2]) W h h' 35080695 (lK (Nat.le_trans kp (by decide)) (by decide)) kb (by decide);have hwh:=fun W h=>Q7 ((2:Int)^j) (.agg #[.bool s3,.slice A3 k3 c3]) W h;obtain⟨S,hS⟩:∃S,((((2:Int)^j:Int):Rat)-b).num.sign=S:=⟨_,rfl⟩;have hS2:=o7 (((2:Int)^j:Int):Rat) b;rw[hS] at hS2 hcm;unfold sS at hcm;unfold eV at hwh;have hbu:=hu.below hb;have hG2:=hG.below hb;have hv2:=hv.below hb;have:=hb;cases gk with
  |succ k=>
   have hneg:S<0:=hS2.2 (hpw.2 j (by have:=HJ.out;omega));clear hS2 hS hst hex hch;have hsh:∀W,IntAt W (.agg #[.bool s3,.slice A3 k3 c3]) ((2:Int)^j)→Calls Tryz.prog 111 #[.agg #[.bool s3,.slice A3 k3 c3],.int .u64 1] W (bW W ((2:Int)^j*2^1)):=fun W h=>YK ((2:Int)^j) 1 (.agg #[.bool s3,.slice A3 k3 c3]) W h (by decide) (by omega);have e2:(2:Int)^j*2^1=2^(j+1):=by rw[Int.pow_succ];rfl
   rw[e2] at hsh;unfold bW at hsh;go_wp2_with fail
   go_region_held3 (fun w'=>C2 w' g5 (.bool s3) (.slice A3 k3 c3)∧C4 w' w.heap.size (.bool s1) (.slice A1 k1 c1) (.bool s2) (.slice A2 k2 c2)) (with_reducible exact⟨G.up.k2,X.up.k4⟩)
    (first
     |(go_at_call 110;(with_reducible refine(hwh _ hi.up).mono ?_);rintro e4 w4 ⟨v4,rfl,h4,hb4⟩;have:=St.mk hb4)
     |(go_at_call 50;(with_reducible refine(hcm _ _ h4.up hbu.up).mono ?_);rintro e5 w5 ⟨rfl,hb5⟩;have:=St.mk hb5))
   all_goals (
    have G5:=G.up (b:=w5);have X5:=X.up (b:=w5);have cG5:=aa G5.g2 X5.k4;have hb5':=mL (b:=w5) hb;go_wp2_with fail;refine(hsh _ (hi.up (b:=w5))).mono ?_;rintro e6 w6 ⟨v6,rfl,h6,hb6⟩;obtain⟨s6,A6,k6,c6,rfl⟩:=h6.form;have G6:=G5.below hb6;have X6:=X5.below hb6;have cG6:=aa G6.g2 X6.k4;have hb6':=aB hb5' hb6;go_wp2_with fail;obtain⟨W7,e7,G7,hb7,hk,ff⟩:=G6.put2 hb6' (by omega) (.bool s6) (.slice A6 k6 c6) rfl rfl;rw[e7];clear e7;go_roundg k
    case rel=>exact⟨j+1,by have:=HJ.out;unfold Hid;omega,⟨_,_,_,_,G7,h6.keep hk⟩,ff X6 (by omega),hb7⟩
    case measure=>omega)
  |zero=>
   obtain rfl:j=n:=HJ.out;have hpos:¬S<0:=fun h=>by have:=hS2.1 h;have:=hpw.1;grind
   clear hS2 hS;go_wp2_with fail
   go_region_held3 (fun w'=>C2 w' g5 (.bool s3) (.slice A3 k3 c3)∧C4 w' w.heap.size (.bool s1) (.slice A1 k1 c1) (.bool s2) (.slice A2 k2 c2)) (with_reducible exact⟨G.up.k2,X.up.k4⟩)
    (first
     |(go_at_call 110;(with_reducible refine(hwh _ hi.up).mono ?_);rintro e4 w4 ⟨v4,rfl,h4,hb4⟩;have:=St.mk hb4)
     |(go_at_call 50;(with_reducible refine(hcm _ _ h4.up hbu.up).mono ?_);rintro e5 w5 ⟨rfl,hb5⟩;have:=St.mk hb5))
   all_goals (
    have G5:=G.up (b:=w5);have hb5':=mL (b:=w5) hb;have cG5:=G5.k2;have hi5:=hi.up (b:=w5);clear hwh hcm G X hi hbu;go_wp2_with fail;refine(hst _ (hG.below hb5') (hv.below hb5')).mono ?_;rintro e6 w6 ⟨v6,c,rfl,h6,hT,hb6⟩;have G6:=G5.below hb6;have hi6:=hi5.below hb6;have hb6':=aB hb5' hb6;obtain⟨hl8,hmem⟩:=hch c hT;have HEX:=Lib.hid (hex c hT);obtain⟨Ac,cc,rfl, -⟩:=h6.form;clear hst hex hch hT;have hg6:g5<w6.heap.size:=G6.lt;have hng:=fun W h=>oK ((2:Int)^j) (.agg #[.bool s3,.slice A3 k3 c3]) W h (Nat.le_trans kp (by decide));have hwn:=fun W v h=>Q7 (-((2:Int)^j)) v W h;have hwp:=fun W h=>Q7 ((2:Int)^j) (.agg #[.bool s3,.slice A3 k3 c3]) W h;have kn:RL 35080695 ((-((2:Int)^j):Int):Rat):=lK (by rw[Int.natAbs_neg];exact Nat.le_trans kp (by decide)) (by decide);have kq:RL 35080695 (((2:Int)^j:Int):Rat):=lK (Nat.le_trans kp (by decide)) (by decide);have hat:=fun (x:Rat) (W:World) (vr vx:Value) (P:Bx W w6.heap.size [.slice Ac (s :: c).length cc,vr] 166) (hb:Below w6.heap.size w6 W) (h:RatAt W vx x) (hk:RL 35080695 x)=>SA s c w5.heap.size w6.heap.size x (.slice Ac (s :: c).length cc) vr vx W P (h6.below hb) h (by omega) 35080695 hmem hk (by decide);have hV:∀x:Rat,cE 0 ((s :: c).map (fun a=>bD a 0 x))≤1024:=fun x=>by have:=tW ((s :: c).map (fun a=>bD a 0 x)) 0;rw[List.length_map] at this;omega
    have hxm:=fun va vb W P hB hR h1 h2=>Q0 (wb:=w6) (vc:= .slice Ac (s :: c).length cc) (hG.below hb6') hV (by decide) (by decide) hat HEX.out kn kq [] (.slice none 0 0) va vb W P hB hR h1 h2 (by rw[List.length_nil];omega);have han:=fun W vx P hB h=>hat ((-((2:Int)^j):Int):Rat) W (.slice none 0 0) vx P hB h kn;have hap:=fun W vx P hB h=>hat (((2:Int)^j:Int):Rat) W (.slice none 0 0) vx P hB h kq;rw[List.nil_append] at hxm;unfold lN at hxm;unfold bW at hng;unfold eV at hwn hwp;clear hat HEX hV hmem kb hpw kn kq h6 G5 hi5;generalize (s :: c).length=nc at *;generalize cE 0 ((s :: c).map (fun a=>bD a 0 ((-((2:Int)^j):Int):Rat)))=Vn at *;generalize cE 0 ((s :: c).map (fun a=>bD a 0 (((2:Int)^j:Int):Rat)))=Vp at *;generalize decide (bD s 0 ((-((2:Int)^j):Int):Rat)=0)=Zn at *;generalize decide (bD s 0 (((2:Int)^j:Int):Rat)=0)=Zp at *;generalize ((-((2:Int)^j):Int):Rat)=xn at *;generalize (((2:Int)^j:Int):Rat)=xp at *;generalize (-((2:Int)^j))=pn at *;go_wp2_with fail;obtain⟨w7,e7,hb7,P⟩:=bA w6 [.slice Ac nc cc,.slice none 0 0] 166;rw[e7];clear e7;have:=St.mk hb7;have cP:=P.g2
    go_region_held3 (fun w'=>C2 w' g5 (.bool s3) (.slice A3 k3 c3)) (first|(with_reducible exact G6.up.k2)|(with_reducible exact G9.k2))
     (first
      |(go_at_call 26;(with_reducible refine(hng _ hi6.up).mono ?_);rintro e8 w8 ⟨v8,rfl,h8,hb8⟩;have:=St.mk hb8)
      |(go_at_call 110;first|(with_reducible refine(hwp _ hi6.up).mono ?_;rintro e9 w9 ⟨v9,rfl,h9,hb9⟩;have:=St.mk hb9)|(with_reducible refine(hwn _ _ h8.up).mono ?_;rintro e10 w10 ⟨v10,rfl,h10,hb10⟩;have:=St.mk hb10))
      |(go_at_call 113;first|(with_reducible refine(hap _ _ P.up (Up.out (a:=w6)) h9.up).mono ?_;rintro e11 w11 ⟨v11,rfl,h11,hb11⟩;have:=St.mk hb11)|(with_reducible refine(han _ _ P.up (Up.out (a:=w6)) h10.up).mono ?_;rintro e12 w12 ⟨v12,rfl,h12,hb12⟩;have:=St.mk hb12))
      |(go_at_call 112;(with_reducible refine(hxm _ _ _ P.up (Up.out (a:=w6)) (RowSp.nil _ _) (h12.upp) (h11.upp)).mono ?_);rintro e13 w13 ⟨v13,rfl,P13,R13,F13,O13⟩;have G9:=Bx.old G6.up F13.below hg6;have B13:=(Up.out (a:=w6)).trans F13.below;have c13:=P13.k2;obtain⟨A13,c13',rfl, -⟩:=R13.form))
    all_goals (
     go_wp2_with fail;go_ret;exact⟨_,_,rfl,R13,aB hb6' B13⟩))
def dY (ls:List (List UInt8)):Int:=if vl ls=true then (if ls=[] then 5 else 0) else 1
def YY (v:Value):Prop:=∃s A k c,v= .agg #[.bool s,.slice A k c]
def YZ (w':World) (ls:List (List UInt8)) (E:Int) (v vd:Value):Prop:=E=0→∃D,vl ls=true∧ls≠[]∧ComDen (aE ls) D 8∧WholeAt w' v (aI (aE ls) D)∧IntAt w' vd D
def m7 (w:World) (ls:List (List UInt8)) (e:Ending) (w':World):Prop:=∃A k c vd,e= .returned (.tuple #[.slice A k c,vd,.int .i64 (dY ls)])∧YY vd∧YZ w' ls (dY ls) (.slice A k c) vd∧Below w.heap.size w w'
theorem m8 (ls:List (List UInt8)):dY ls=0∧vl ls=true∧ls≠[]∨dY ls=1∧vl ls=false∨dY ls=5∧vl ls=true∧ls=[]:=by
 unfold dY;cases vl ls with
 |false=>exact .inr (.inl ⟨rfl,rfl⟩)
 |true=>
  by_cases h:ls=[]
  ·exact .inr (.inr ⟨by rw[if_pos rfl,if_pos h],rfl,h⟩)
  ·exact .inl ⟨by rw[if_pos rfl,if_neg h],rfl,h⟩
theorem NatAt.uniqI {w:World} {u:Value} {a b:Nat} (ha:NatAt w u a) (hb:NatAt w u b):a=b:=by
 obtain⟨A,c,rfl,_,hr,_⟩:=ha;obtain⟨A',c',e,_,hr',_⟩:=hb;simp only[Value.slice.injEq] at e;obtain⟨rfl,el,_⟩:=e;have hd:dg a=dg b:=by
  refine List.ext_getElem? (fun i=> ?_);by_cases hi:i<nl a
  ·have hi':i<nl b:=by omega
   rcases hr with h|⟨g,off,rfl,_,hc⟩
   ·rw[←aJ,h] at hi;simp at hi
   ·rcases hr' with h|⟨g',off',e',_,hc'⟩
    ·rw[←aJ,h] at hi';simp at hi'
    ·simp only[Option.some.injEq,Addr.mk.injEq] at e';obtain⟨rfl,rfl,_⟩:=e';have h1:=hc i (by rw[aJ];exact hi);have h2:=hc' i (by rw[aJ];exact hi');rw[h1] at h2;simp only[Option.some.injEq,Value.int.injEq,true_and] at h2;rw[List.getElem?_eq_getElem (by rw[aJ];exact hi),List.getElem?_eq_getElem (by rw[aJ];exact hi')];rw[List.getD_eq_getElem?_getD,List.getD_eq_getElem?_getD,List.getElem?_eq_getElem (by rw[aJ];exact hi),List.getElem?_eq_getElem (by rw[aJ];exact hi')] at h2;exact congrArg some h2
  ·rw[List.getElem?_eq_none (by rw[aJ];omega),List.getElem?_eq_none (by rw[aJ];omega)]
 have h1:=bC a;have h2:=bC b;rw[hd,h2] at h1;omega
theorem IntAt.uniqI {w:World} {v:Value} {x y:Int} (hx:IntAt w v x) (hy:IntAt w v y):x=y:=by
 obtain⟨u,rfl,h1⟩:=hx;obtain⟨u',e,h2⟩:=hy;simp at e;obtain⟨e1,rfl⟩:=e;have:=h1.uniqI h2;omega
theorem WholeAt.offI {w:World} {A:Option Addr} {l c g:Nat} {x m:Int} {ns:List Int} (h:WholeAt w (.slice A l c) (x :: ns)) (hG:IntBx w g m) (hne:x≠m):∀b,A=some ⟨b,0,none⟩→b≠g:=fun b e eb=>by
 subst eb;obtain⟨b',s,B,l',d,e',_,g0,g1,hi⟩:=h.at_ (i:=0) (n:=x) rfl;rw[e] at e';simp only[Option.some.injEq,Addr.mk.injEq] at e';obtain⟨rfl,_⟩:=e';obtain⟨s',A',k',c',C,hi'⟩:=hG;have h0:=C.cell 0 rfl;have h1:=C.cell 1 rfl;rw[Nat.zero_mul] at g0 g1;rw[g0] at h0;rw[g1] at h1;injection h0 with h0;injection h1 with h1;rw[h0,h1] at hi;exact hne (hi.uniqI hi')
theorem WholeAt.apart {w:World} {A B:Option Addr} {l c g k d:Nat} {s:Bool} {ns:List Int} (h:WholeAt w (.slice A l c) ns) (h0:ns≠[]) (ht:aN ns) (hG:Bx w g [.bool s,.slice B k d] 50) (hz:IntAt w (.agg #[.bool s,.slice B k d]) 0):∀b,A=some ⟨b,0,none⟩→b≠g:=fun b e eb=>by
 subst eb;cases ns with
 |nil=>exact h0 rfl
 |cons x ns=>
  cases ns with
  |nil=>exact h.offI ⟨_,_,_,_,hG,hz⟩ (ht x rfl) b e rfl
  |cons y ns=>
   obtain⟨b',s',B',l',d',e',_,g0,g1,hi⟩:=h.at_ (i:=1) (n:=y) rfl;rw[e] at e';simp only[Option.some.injEq,Addr.mk.injEq] at e';obtain⟨rfl,_⟩:=e';rw[cell_of_row w b _ _ _ _ hG] at g0;simp at g0
theorem FV (ls:List (List UInt8)) (v:Value) (w:World) (hG:Glob w) (hv:StrsAt w v ls) (hl:ls.length≤7) (hs:∀l∈ls,l.length≤6):Calls Tryz.prog 21 #[v] w (m7 w ls):=by
 obtain⟨A,c,rfl,hc⟩:=hv.form;have hKa:∀q∈aE ls,RL 1 q:=fU (fun l hl=>Nat.le_trans (hs l hl) (by decide));have hur:=fun W hG hv=>mJ ls (.slice A ls.length c) W hG hv (by omega) (fun _ l hl=>Nat.le_trans (hs l hl) (by decide)) 1 8 7 (fun _=>hKa) (fun _=>hl) (by decide) (by decide) (by unfold aF;decide);have hrl:(aE ls).length=ls.length:=List.length_map _;unfold m7;have hcs:=m8 ls;obtain⟨E,hE⟩:∃E,dY ls=E:=⟨_,rfl⟩;rw[hE] at hcs⊢;clear hE hKa;obtain⟨W,eW,hb,R⟩:=bA w [.bool false,.slice none 0 0] 50;have cM:=R.g2;go_enter Tryz.func21,Tryz.ntmps21;go_wp2_with fail;(try rw[eW]);clear eW;refine(hur _ (hG.below hb) (hv.below hb)).mono ?_;rintro e1 w1 ⟨v1,vd1,xs,D,rfl,hx,hD,hvx,hb1⟩;obtain⟨A1,c1,rfl,hc1⟩:=hx.form;obtain⟨s2,A2,k2,c2,rfl⟩:=hD.form;replace R:=R.below hb1;replace hb:=aB hb hb1;have hRl:=R.lt;obtain⟨w2,e2,hb2,F⟩:=bA w1 [.bool s2,.slice A2 k2 c2] 50;replace R:=R.below hb2;replace hx:=hx.below hb2;replace hD:=hD.below hb2;replace hb:=aB hb hb2;have cF:=F.k2;have cM:=aa R.g2 F.k2;clear hur;rcases hcs with ⟨rfl,hvl,h0⟩|⟨rfl,hvl⟩|⟨rfl,hvl,h0⟩
 ·obtain⟨rfl,hcx⟩:=hvx hvl;have hl0:(aI (aE ls) D).length=ls.length:=by rw[eK,hrl]
  have hn0:(aI (aE ls) D).length≠0:=fun e=>h0 (List.eq_nil_of_length_eq_zero (by omega));have htr:=gR hcx.pos hcx.dvd (fD hvl).2.2;have hap:=hx.apart (fun e=>hn0 (by rw[e];rfl)) htr R (IntAt.zero _);have q0:(((aI (aE ls) D).length:Int)==0)=false:=by rw[beq_eq_false_iff_ne];omega
  have HN:=Lib.hid (And.intro hvl (And.intro h0 hcx));rw[hvl];clear hvx hvl h0 hcx hl0 hn0 htr;obtain⟨ns,hns⟩:∃ns,aI (aE ls) D=ns:=⟨_,rfl⟩;have HNS:=Lib.hid hns;rw[hns] at hx q0⊢;clear hns;go_wp2_with fail;(try rw[e2]);(try clear e2);go_region
  all_goals (
   go_wp2_with fail;obtain⟨-,hst⟩:=IntBx.stored (w:=w2) (b:=w.heap.size) (m:=0) ⟨_,_,_,_,R,IntAt.zero _⟩ hD;have zx:=hx.step hst hap;clear hst;obtain⟨W6,e6,R,hb,hk,ff⟩:=R.put2 hb (by omega) (.bool s2) (.slice A2 k2 c2) rfl rfl;rw[e6] at zx;have zD:=hD.keep hk;rw[e6];exact bodyPost_ret (v:= .tuple #[.slice A1 ns.length c1,.agg #[.bool s2,.slice A2 k2 c2],.int .i64 0]) (by simp[results,Tryz.results21,go_sem,R.k2]) rfl ⟨_,_,_,_,rfl,⟨_,_,_,_,rfl⟩,(fun _=>⟨D,HN.out.1,HN.out.2.1,HN.out.2.2,by rw[HNS.out];exact zx.drew,zD.drew⟩),hb.drew⟩)
 ·rw[hvl];clear hvx hvl;go_wp2_with fail;(try rw[e2]);(try clear e2);go_region
  all_goals (
   go_wp2_with fail;obtain⟨W6,e6,R,hb,hk,ff⟩:=R.put2 hb (by omega) (.bool s2) (.slice A2 k2 c2) rfl rfl;rw[e6];exact bodyPost_ret (v:= .tuple #[.slice none 0 0,.agg #[.bool s2,.slice A2 k2 c2],.int .i64 1]) (by simp[results,Tryz.results21,go_sem,R.k2]) rfl ⟨_,_,_,_,rfl,⟨_,_,_,_,rfl⟩,(fun h=>absurd h (by decide)),hb.drew⟩)
 ·obtain⟨rfl,hcx⟩:=hvx hvl;have hl0:(aI (aE ls) D).length=0:=by rw[eK,hrl,h0];rfl
  rw[hvl,hl0];clear hvx hvl h0 hcx hl0;go_wp2_with fail;(try rw[e2]);(try clear e2);go_region
  all_goals (
   go_wp2_with fail;obtain⟨W6,e6,R,hb,hk,ff⟩:=R.put2 hb (by omega) (.bool s2) (.slice A2 k2 c2) rfl rfl;rw[e6];exact bodyPost_ret (v:= .tuple #[.slice none 0 0,.agg #[.bool s2,.slice A2 k2 c2],.int .i64 5]) (by simp[results,Tryz.results21,go_sem,R.k2]) rfl ⟨_,_,_,_,rfl,⟨_,_,_,_,rfl⟩,(fun h=>absurd h (by decide)),hb.drew⟩)
theorem Euc.mono {B B':Nat} {a b g:List Int} (h:Euc B a b g) (hB:B≤B'):Euc B' a b g:=by
 induction h with
 |done a=>exact .done a
 |one hb=>exact .one hb
 |step hb h t ih=>exact .step hb (h.mono hB) ih
theorem Sqp.mono {B B':Nat} {w s:List Int} (h:Sqp B w s) (hB:B≤B'):Sqp B' w s:=by
 obtain⟨g,h1,h2⟩:=h.out;exact⟨⟨g,h1.mono hB,h2⟩,h.ne,h.ts⟩
theorem G2 {l:List UInt8} (h:l.length≤18):RL 1 (dU l):=by
 unfold dU;split
 ·exact eO (Nat.le_refl 1)
 ·cases hr:aR l with
  |none=>exact eO (Nat.le_refl 1)
  |some q=>exact yE hr h
theorem H2 (l:List UInt8) {d:Int} (h: -1≤d∧d≤1): -1≤dA l d∧dA l d≤1:=by
 unfold dA;split
 ·exact h
 ·decide
def hJ (ls:List (List UInt8)) (a b:List UInt8):Int:=if dY ls=1∨dZ a=false∨dZ b=false then 1 else dY ls
def j5 (A:List Rat) (i:Int) (x:Rat) (j:Int) (y:Rat) (E n:Int):Prop:=(E≠0→n=0)∧(E=0→CntR A i x j y n)
def kT (w:World) (ls:List (List UInt8)) (a b:List UInt8) (e:Ending) (w':World):Prop:=∃n:Int,e= .returned (.tuple #[.int .i64 n,.int .i64 (hJ ls a b)])∧ -1024≤n∧n≤1024∧j5 (aE ls) (dA a (-1)) (dU a) (dA b 1) (dU b) (hJ ls a b) n∧Below w.heap.size w w'
theorem H3 (ls:List (List UInt8)) (a b:List UInt8) (v:Value) (w:World) (hG:Glob w) (hv:StrsAt w v ls) (hl:ls.length≤7) (hs:∀l∈ls,l.length≤6) (ha:a.length≤12) (hb':b.length≤12):
  Calls Tryz.prog 10 #[v,.string ⟨a.toArray⟩,.string ⟨b.toArray⟩] w (kT w ls a b):=by
 obtain⟨A,c,rfl,hc⟩:=hv.form;have hrd:=fun W hG h=>FV ls (.slice A ls.length c) W hG h hl hs;have hea:=fun W hG=>wS a (-1) W hG (by omega);have heb:=fun W hG=>wS b 1 W hG (by omega);have ra:=bV (G2 (l:=a) (by omega)) (show 1≤35080695 by decide);have rb:=bV (G2 (l:=b) (by omega)) (show 1≤35080695 by decide);have ia:=H2 a (d:= -1) (by decide);have ib:=H2 b (d:=1) (by decide);have hKa:∀q∈aE ls,RL 1 q:=fU (fun l hl=>Nat.le_trans (hs l hl) (by decide));have hrl:(aE ls).length=ls.length:=List.length_map _;unfold m7 at hrd;unfold wP at hea heb;unfold kT;have hE:hJ ls a b=if dY ls=1∨dZ a=false∨dZ b=false then 1 else dY ls:=rfl;have hR:=m8 ls;obtain⟨E,hEE⟩:∃E,hJ ls a b=E:=⟨_,rfl⟩;rw[hEE] at hE⊢;clear hEE;generalize dY ls=R at *;generalize dZ a=oa at *;generalize dZ b=ob at *;generalize dA a (-1)=I at *;generalize dA b 1=J at *;generalize dU a=xa at *;generalize dU b=xb at *;go_enter Tryz.func10,Tryz.ntmps10;go_wp2_with fail;refine(hrd _ hG hv).mono ?_;rintro e1 w1 ⟨A1,k1,c1,vd1,rfl,⟨s2,A2,k2,c2,rfl⟩,hok,hb⟩;obtain⟨w2,e2,hb2,F⟩:=bA w1 [.bool s2,.slice A2 k2 c2] 50;replace hb:=aB hb hb2;replace hok:R=0→∃D,vl ls=true∧ls≠[]∧ComDen (aE ls) D 8∧WholeAt w2 (.slice A1 k1 c1) (aI (aE ls) D):=fun h=>by
  obtain⟨D,h1,h2,h3,h4,h5⟩:=hok h;exact⟨D,h1,h2,h3,h4.below hb2⟩
 have HOK:=Lib.hid hok;clear hok hrd;have cF:=F.k2;go_wp2_with fail;(try rw[e2]);(try clear e2);refine(hea _ (hG.below hb)).mono ?_;rintro e3 w3 ⟨v3,rfl,h3,hb3⟩;obtain⟨s4,A4,k4,c4,s5,A5,k5,c5,rfl⟩:=h3.form;obtain⟨w4,e4,hb4,X⟩:=bA w3 [.bool s4,.slice A4 k4 c4,.bool s5,.slice A5 k5 c5,.int .i64 I] 70;replace h3:=h3.below hb4;have hA:=aB hb3 hb4;replace hb:=aB hb hA;have cX:=X.k5;clear hea;go_wp2_with fail;(try rw[e4]);(try clear e4);refine(heb _ (hG.below hb)).mono ?_;rintro e5 w5 ⟨v5,rfl,h5,hb5⟩;obtain⟨s6,A6,k6,c6,s7,A7,k7,c7,rfl⟩:=h5.form;obtain⟨w6,e6,hb6,Y⟩:=bA w5 [.bool s6,.slice A6 k6 c6,.bool s7,.slice A7 k7 c7,.int .i64 J] 70;replace h5:=h5.below hb6;have hB:=aB hb5 hb6;replace h3:=h3.below hB;replace X:=X.below hB;replace hb:=aB hb hB;have hAB:=aB hA hB;have cX:=X.k5;have cY:=Y.k5;clear heb;rcases hR with ⟨rfl, -, -⟩|⟨rfl, -⟩|⟨rfl, -, -⟩
 ·cases oa with
  |false=>
   obtain rfl:E=1:=by rw[hE];rfl
   clear hE;cases ob
   all_goals (
    go_wp2_with fail;all_goals (try rw[e6])
    all_goals (try clear e6)
    all_goals go_ret2
    all_goals exact⟨0,rfl,by decide,by decide,⟨fun _=>rfl,(fun h=>absurd h (by decide))⟩,hb⟩
   )
  |true=>
   cases ob with
   |false=>
    obtain rfl:E=1:=by rw[hE];rfl
    clear hE;go_wp2_with fail;all_goals (try rw[e6])
    all_goals (try clear e6)
    all_goals go_ret2
    all_goals exact⟨0,rfl,by decide,by decide,⟨fun _=>rfl,(fun h=>absurd h (by decide))⟩,hb⟩
   |true=>
    obtain rfl:E=0:=by rw[hE];rfl
    clear hE;obtain⟨D,hvl,h0,hcx,hx⟩:=HOK.out rfl;replace hx:=hx.below hAB;have hl0:(aI (aE ls) D).length=ls.length:=by rw[eK,hrl]
    have hn0:aI (aE ls) D≠[]:=fun e=>h0 (List.eq_nil_of_length_eq_zero (by rw[←hl0,e];rfl));have htr:=gR hcx.pos hcx.dvd (fD hvl).2.2;have hnl:=iK _ D 1 _ hKa hcx.nl_;have hpp:=AG (rI hcx (fD hvl).2.2);obtain⟨A8,c8,e8, -⟩:=hx.form;simp only[Value.slice.injEq] at e8;obtain⟨rfl,rfl,rfl⟩:=e8;have hsq:=fun W hG h=>DE (aI (aE ls) D) (.slice A1 (aI (aE ls) D).length c1) W hG h htr hn0 (by omega) hnl;have hco:=fun s W u hG h (hS:Sqp 24057 (aZ (aI (aE ls) D)) s) (hz:Sz s) h3 h5=>T1 s I J xa xb u (.agg #[.bool s4,.slice A4 k4 c4,.bool s5,.slice A5 k5 c5,.int .i64 I]) (.agg #[.bool s6,.slice A6 k6 c6,.bool s7,.slice A7 k7 c7,.int .i64 J]) W hG h hS.ts hS.ne hz h3 h5 ia ib ra rb;unfold p5 at hco
    have HF:Hid (∀s n,Sqp 24057 (aZ (aI (aE ls) D)) s→(dQ I xa J xb=false→n=0)→(dQ I xa J xb=true→∃c,StT 35080695 s (aZ (fT s)) c∧n=eS s c I xa J xb)→CntR (aE ls) I xa J xb n):=fun s n hS h1 h2=>⟨h1,fun hl=>by
     obtain⟨c,h3,h4⟩:=h2 hl;exact⟨35080695,_,s,c,by decide,hpp,⟨hS.mono (by decide),h3⟩,h4⟩⟩
    clear HOK hvl h0 hcx hl0 hn0 htr hnl hpp hKa hrl hA hB hAB hb2 hb3 hb4 hb5 hb6;generalize aI (aE ls) D=ns at *;go_wp2_with fail;(try rw[e6]);(try clear e6)
    go_region_held3 (fun w'=>C5 w' w3.heap.size (.bool s4) (.slice A4 k4 c4) (.bool s5) (.slice A5 k5 c5) (.int .i64 I)∧C5 w' w5.heap.size (.bool s6) (.slice A6 k6 c6) (.bool s7) (.slice A7 k7 c7) (.int .i64 J)) (with_reducible exact⟨X.up.k5,Y.up.k5⟩)
     (first
      |(go_at_call 33;(with_reducible refine(hsq _ (hG.below hb).up hx.up).mono ?_);rintro e7 w7 ⟨v7,s,rfl,h7,hS,hz,hb7⟩;have:=St.mk hb7)
      |(go_at_call 32;(with_reducible refine(hco s _ _ (hG.below hb).up h7.up hS hz h3.up h5.up).mono ?_);rintro e9 w9 ⟨n,rfl,n1,n2,n3,n4,hb9⟩;have:=St.mk hb9))
    all_goals (
     go_wp2_with fail;go_ret2;exact⟨n,rfl,n1,n2,⟨(fun h=>absurd rfl h),(fun _=>HF.out s n hS n3 n4)⟩,mL (b:=w9) hb⟩)
 ·obtain rfl:E=1:=by rw[hE,if_pos (.inl rfl)]
  clear hE;cases oa<;>cases ob
  all_goals (
   go_wp2_with fail;all_goals (try rw[e6])
   all_goals (try clear e6)
   all_goals go_ret2
   all_goals exact⟨0,rfl,by decide,by decide,⟨fun _=>rfl,(fun h=>absurd h (by decide))⟩,hb⟩
  )
 ·cases oa with
  |false=>
   obtain rfl:E=1:=by rw[hE];rfl
   clear hE;cases ob
   all_goals (
    go_wp2_with fail;all_goals (try rw[e6])
    all_goals (try clear e6)
    all_goals go_ret2
    all_goals exact⟨0,rfl,by decide,by decide,⟨fun _=>rfl,(fun h=>absurd h (by decide))⟩,hb⟩
   )
  |true=>
   cases ob with
   |false=>
    obtain rfl:E=1:=by rw[hE];rfl
    clear hE;go_wp2_with fail;all_goals (try rw[e6])
    all_goals (try clear e6)
    all_goals go_ret2
    all_goals exact⟨0,rfl,by decide,by decide,⟨fun _=>rfl,(fun h=>absurd h (by decide))⟩,hb⟩
   |true=>
    obtain rfl:E=5:=by rw[hE];rfl
    clear hE;go_wp2_with fail;all_goals (try rw[e6])
    all_goals (try clear e6)
    all_goals go_ret2
    all_goals exact⟨0,rfl,by decide,by decide,⟨fun _=>rfl,(fun h=>absurd h (by decide))⟩,hb⟩
theorem H6 (ls:List (List UInt8)) (v:Value) (w:World) (hG:Glob w) (hv:StrsAt w v ls) (hl:ls.length≤7) (hs:∀l∈ls,l.length≤6):
  Calls Tryz.prog 13 #[v] w (kT w ls [] []):=by
 obtain⟨A,c,rfl,hc⟩:=hv.form;have h:=H3 ls [] [] (.slice A ls.length c) w hG hv hl hs (by decide) (by decide);unfold kT at *;generalize hJ ls [] []=E at *;go_enter Tryz.func13,Tryz.ntmps13;go_wp2_with fail;refine h.mono ?_;rintro e1 w1 ⟨n,rfl,h1⟩;go_wp2_with fail;go_ret2;exact⟨n,rfl,h1⟩
def eE (p:List UInt8×List UInt8):List Value:=[.string ⟨p.1.toArray⟩,.string ⟨p.2.toArray⟩]
def IvsAt (w:World) (v:Value) (l:List (List UInt8×List UInt8)):Prop:=∃A c,v= .slice A l.length c∧l.length≤c∧(l=[]∨∃b,A=some ⟨b,0,none⟩∧b<w.heap.size∧∀(i:Nat) (p:List UInt8×List UInt8),l[i]? =some p→w.cell? ⟨b,i*2,none⟩=some (.string ⟨p.1.toArray⟩)∧w.cell? ⟨b,i*2+1,none⟩=some (.string ⟨p.2.toArray⟩))
theorem IvsAt.below {w w':World} {v:Value} {l:List (List UInt8×List UInt8)} (h:IvsAt w v l) (hb:Below w.heap.size w w'):IvsAt w' v l:=by
 obtain⟨A,c,hv,hc,h⟩:=h;refine⟨A,c,hv,hc,?_⟩;rcases h with h|⟨b,e,hl,hi⟩
 ·exact .inl h
 ·exact .inr ⟨b,e,Nat.lt_of_lt_of_le hl hb.size,fun i p h=>⟨(hb.cell (p:=⟨b,i*2,none⟩) hl).trans (hi i p h).1,(hb.cell (p:=⟨b,i*2+1,none⟩) hl).trans (hi i p h).2⟩⟩
theorem IvsAt.form {w:World} {v:Value} {l:List (List UInt8×List UInt8)} (h:IvsAt w v l):∃A c,v= .slice A l.length c∧l.length≤c:=by
 obtain⟨A,c,hv,hc,_⟩:=h;exact⟨A,c,hv,hc⟩
theorem IvsAt.at_ {w:World} {A:Option Addr} {n c:Nat} {l:List (List UInt8×List UInt8)} (h:IvsAt w (.slice A n c) l) {i:Nat} {p:List UInt8×List UInt8} (hi:l[i]? =some p):∃b,A=some ⟨b,0,none⟩∧b<w.heap.size∧w.cell? ⟨b,i*2,none⟩=some (.string ⟨p.1.toArray⟩)∧w.cell? ⟨b,i*2+1,none⟩=some (.string ⟨p.2.toArray⟩):=by
 obtain⟨A',c',e,hc,h⟩:=h;simp only[Value.slice.injEq] at e;obtain⟨rfl,rfl,rfl⟩:=e;rcases h with rfl|⟨b,e,hl,hq⟩
 ·simp at hi
 ·exact⟨b,e,hl,(hq i p hi).1,(hq i p hi).2⟩
theorem GrowD.ivs {w:World} {base:Nat} {v:Value} {l:List (List UInt8×List UInt8)} (h:GrowD w base 45 2 v (l.map eE)):IvsAt w v l:=by
 obtain⟨A,c,rfl,hc⟩:=h.form;rw[List.length_map] at hc;refine⟨A,c,by rw[List.length_map],hc,?_⟩;cases l with
 |nil=>exact .inl rfl
 |cons p0 l=>
  obtain⟨b,e, -,hl, -⟩:=h.at_ (i:=0) (r:=eE p0) rfl;refine .inr ⟨b,e,hl,fun i p hi=> ?_⟩;obtain⟨b',e', -, -,hq⟩:=h.at_ (i:=i) (r:=eE p) (by rw[List.getElem?_map,hi];rfl);rw[e] at e';simp only[Option.some.injEq,Addr.mk.injEq] at e';obtain⟨rfl,_⟩:=e';exact⟨hq 0 _ rfl,hq 1 _ rfl⟩
theorem IvsAt.built (w:World) (l:List (List UInt8×List UInt8)) (t:TypeId):IvsAt (w.alloc (.cells (l.map eE).flatten.toArray t)) (.slice (some ⟨w.heap.size,0,none⟩) l.length l.length) l:=by
 refine⟨_,_,rfl,Nat.le_refl _,.inr ⟨w.heap.size,rfl,by simp,fun i p hi=> ?_⟩⟩;have B:=Bx.new w (l.map eE).flatten t;have hk:∀r∈l.map eE,r.length=2:=fun r hr=>by
  obtain⟨q, -,rfl⟩:=List.mem_map.1 hr;rfl
 have hr:(l.map eE)[i]? =some (eE p):=by rw[List.getElem?_map,hi];rfl
 have c0:=mS hk hr (j:=0) (by decide);have c1:=mS hk hr (j:=1) (by decide);exact⟨B.cell (i*2) c0,B.cell (i*2+1) c1⟩
theorem L5 (a:List (List UInt8×List UInt8)) (va vb:Value) (w:World) (ha:IvsAt w va a) (hb:IvsAt w vb a) (hla:a.length≤1073741824):
  Calls Tryz.prog 20 #[va,vb] w fun e w'=>e= .returned (.bool true)∧Below w.heap.size w w':=by
 obtain⟨A,c,rfl,hc⟩:=ha.form;obtain⟨A',c',rfl,hc'⟩:=hb.form;go_enter Tryz.func20,Tryz.ntmps20;go_wp2_with fail;go_loopg [5] a.length (fun k i wr=>∃j,Hid (j+k=a.length)∧i= .int .i64 j∧Below w.heap.size w wr)
 case atStart=>exact⟨0,by unfold Hid;omega,rfl,Below.refl _ _⟩
 case round=>
  obtain⟨j,HJ,rfl,hbw⟩:=hrel;generalize wr=wy at *;have hj0:(0:Int)≤(j:Int):=by omega
  cases gk with
  |zero=>
   have hj:j=a.length:=HJ.out;subst hj;go_wp2_with fail;go_ret;exact⟨rfl,hbw⟩
  |succ k=>
   have hja:j<a.length:=by have:=HJ.out;omega
   have hj1:(j:Int)<(a.length:Int):=by omega
   obtain⟨p,hp⟩:∃p,a[j]? =some p:=⟨_,List.getElem?_eq_getElem hja⟩;obtain⟨ba,rfl,la,ca,ca'⟩:=(ha.below hbw).at_ hp;obtain⟨bb,rfl,lb,cb,cb'⟩:=(hb.below hbw).at_ hp;have hbd:=hbw.drew;generalize (⟨p.1.toArray⟩:ByteArray)=t1 at *;generalize (⟨p.2.toArray⟩:ByteArray)=t2 at *;clear hp;go_wp2_with fail;go_region
   all_goals (
    go_wp2_with fail;go_roundg k
    case rel=>exact⟨j+1,by have:=HJ.out;unfold Hid;omega,by go_num,hbd⟩
    case measure=>omega)
theorem L6:(Tryz.prog.info? 45).map (fun i=>(i.zero,i.size,i.bytes))=some (some (.agg #[.string ⟨#[]⟩,.string ⟨#[]⟩]),2,32):=by kernel_rfl
theorem MT (n:Nat):∀y∈Builtin.zeroCells (Value.agg #[.string ⟨#[]⟩,.string ⟨#[]⟩]).cells n,NoInt y:=fun y hy=>by
 unfold Builtin.zeroCells at hy;obtain⟨j,_,rfl⟩:=Array.mem_map.1 hy;have hs:(Value.agg #[.string ⟨#[]⟩,.string ⟨#[]⟩]).cells= #[Value.string ⟨#[]⟩,.string ⟨#[]⟩]:=rfl;rw[hs];have hs:(#[Value.string ⟨#[]⟩,.string ⟨#[]⟩]:Array Value).size=2:=rfl;rw[hs];rcases(show j%2=0∨j%2=1 by omega) with h|h<;>rw[h]
 ·exact NoInt.string _
 ·exact NoInt.string _
theorem RowSp.get {w:World} {base:Nat} {A:Option Addr} {n c:Nat} {l:List (Rat×Rat)} (h:RowSp w base (.slice A n c) l) {i:Nat} {p:Rat×Rat} (hi:l[i]? =some p):∃b s1 A1 k1 c1 s2 A2 k2 c2 s3 A3 k3 c3 s4 A4 k4 c4,A=some ⟨b,0,none⟩∧b<w.heap.size∧
  (w.cell? ⟨b,i*8,none⟩=some (.bool s1)∧w.cell? ⟨b,i*8+1,none⟩=some (.slice A1 k1 c1)∧w.cell? ⟨b,i*8+2,none⟩=some (.bool s2)∧w.cell? ⟨b,i*8+3,none⟩=some (.slice A2 k2 c2)∧w.cell? ⟨b,i*8+4,none⟩=some (.bool s3)∧w.cell? ⟨b,i*8+5,none⟩=some (.slice A3 k3 c3)∧w.cell? ⟨b,i*8+6,none⟩=some (.bool s4)∧w.cell? ⟨b,i*8+7,none⟩=some (.slice A4 k4 c4))∧
  SpanAt w (.agg #[.bool s1,.slice A1 k1 c1,.bool s2,.slice A2 k2 c2,.bool s3,.slice A3 k3 c3,.bool s4,.slice A4 k4 c4]) p.1 p.2:=by
 obtain⟨rows,h1,h2⟩:=h;obtain⟨s1,A1,k1,c1,s2,A2,k2,c2,s3,A3,k3,c3,s4,A4,k4,c4,e,r1,r2⟩:=h2.2 i p hi;obtain⟨b,eb, -,hl,hq⟩:=h1.at_ e;exact⟨b,s1,A1,k1,c1,s2,A2,k2,c2,s3,A3,k3,c3,s4,A4,k4,c4,eb,hl,⟨hq 0 _ rfl,hq 1 _ rfl,hq 2 _ rfl,hq 3 _ rfl,hq 4 _ rfl,hq 5 _ rfl,hq 6 _ rfl,hq 7 _ rfl⟩,SpanAt.of r1 r2⟩
theorem SpanAt.below {w w':World} {v:Value} {x y:Rat} (h:SpanAt w v x y) (hb:Below w.heap.size w w'):SpanAt w' v x y:=by
 obtain⟨s1,A1,k1,c1,s2,A2,k2,c2,s3,A3,k3,c3,s4,A4,k4,c4,rfl,h1,h2⟩:=h;exact SpanAt.of (h1.below hb) (h2.below hb)
def kE (p:Rat×Rat):List UInt8×List UInt8:=(aO p.1,aO p.2)
theorem NA (ls:List (List UInt8)) (n:Nat) (l:List (Rat×Rat)) (v:Value) (w:World) (hG:Glob w) (hv:StrsAt w v ls) (hl:ls.length≤7) (hs:∀l∈ls,l.length≤6) (hvl:vl ls=true) (h0:ls≠[]) (hpw:Pw (kS (aE ls)) n) (hn:n≤1000) (hll:l.length≤1048576) (hlk:∀p∈l,RL 35080695 p.1∧RL 35080695 p.2)
  (hex:∀w s c,Prp (aE ls) w→Cn 35080695 w s c→ExK 35080695 (fun x=>cE 0 ((s :: c).map (fun a=>bD a 0 x))) (fun x=>bD s 0 x) (((-((2:Int)^n):Int)):Rat) ((((2:Int)^n:Int)):Rat) l):
  Calls Tryz.prog 19 #[v] w fun e w'=>∃v',e= .returned (.tuple #[v',.int .i64 0])∧IvsAt w' v' (l.map kE)∧Below w.heap.size w w':=by
 obtain⟨A,c,rfl,hc⟩:=hv.form;have hrd:=fun W hG h=>FV ls (.slice A ls.length c) W hG h hl hs;have hKa:∀q∈aE ls,RL 1 q:=fU (fun l hl=>Nat.le_trans (hs l hl) (by decide));have hrl:(aE ls).length=ls.length:=List.length_map _;have hE0:dY ls=0:=by unfold dY;rw[if_pos hvl,if_neg h0]
 unfold m7 at hrd;rw[hE0] at hrd;go_enter Tryz.func19,Tryz.ntmps19;go_wp2_with fail;refine(hrd _ hG hv).mono ?_;rintro e1 w1 ⟨A1,k1,c1,vd1,rfl,⟨s2,A2,k2,c2,rfl⟩,hok,hb⟩;obtain⟨D, -, -,hcx,hx, -⟩:=hok rfl;obtain⟨w2,e2,hb2,F⟩:=bA w1 [.bool s2,.slice A2 k2 c2] 50;replace hx:=hx.below hb2;replace hb:=aB hb hb2;have hl0:(aI (aE ls) D).length=ls.length:=by rw[eK,hrl]
 have hn0:aI (aE ls) D≠[]:=fun e=>h0 (List.eq_nil_of_length_eq_zero (by rw[←hl0,e];rfl));have htr:=gR hcx.pos hcx.dvd (fD hvl).2.2;have hnl:=iK _ D 1 _ hKa hcx.nl_;have hnp:=rI hcx (fD hvl).2.2;have hpp:=AG hnp;have hbq:=FB hnp htr hn0;have kbo:=(wN hnl (by decide)).1;obtain⟨A8,c8,e8, -⟩:=hx.form;simp only[Value.slice.injEq] at e8;obtain⟨rfl,rfl,rfl⟩:=e8;have hsq:=fun W hG h=>DE (aI (aE ls) D) (.slice A1 (aI (aE ls) D).length c1) W hG h htr hn0 (by omega) hnl;have hbo:=fun W hG h=>SN (aI (aE ls) D) (.slice A1 (aI (aE ls) D).length c1) W hG h hn0 htr 9 hnl (by omega) (by decide) (by decide);rw[hbq] at hbo kbo;have his:=fun s u u' W hG h h' (hS:Sqp 24057 (aZ (aI (aE ls) D)) s) (hz:Sz s)=>PP s (kS (aE ls)) n l u u' W hG h h' hS.ts hS.ne hz hpw hn (bV kbo (by decide)) hll (fun c hc=>hex _ s c hpp ⟨hS.mono (by decide),hc⟩);unfold eV at hbo;unfold o8 at his;clear hrd hok hcx hl0 hn0 htr hnl hnp hpp hbq kbo hex hpw hKa hrl hE0 h0 hvl F hb2;generalize aI (aE ls) D=ns at *;generalize kS (aE ls)=bq at *;go_wp2_with fail;(try rw[e2]);(try clear e2);refine(hsq _ (hG.below hb) hx).mono ?_;rintro e3 w3 ⟨v3,s,rfl,h3,hS,hz,hb3⟩;replace hx:=hx.below hb3;replace hb:=aB hb hb3;have hi2:=fun u' W hG h h'=>his s v3 u' W hG h h' hS hz;clear his hsq;go_wp2_with fail;refine(hbo _ (hG.below hb) hx).mono ?_;rintro e4 w4 ⟨v4,rfl,h4,hb4⟩;replace h3:=h3.below hb4;replace hb:=aB hb hb4;go_wp2_with fail;refine(hi2 _ _ (hG.below hb) h3 h4).mono ?_;rintro e5 w5 ⟨v5,base,rfl,h5,hb5⟩;replace hb:=aB hb hb5;obtain⟨A5,c5,rfl,hc5⟩:=h5.form;clear hi2 hbo hS hz h3 h4 hx;go_wp2_with fail;go_loopg [7,25] l.length (fun k vf i wr=>∃j,Hid (j+k=l.length)∧i= .int .i64 j∧GrowD wr w5.heap.size 45 2 vf (((l.take j).map kE).map eE)∧Below w5.heap.size w5 wr)
 case atStart=>exact⟨0,by unfold Hid;omega,rfl,GrowD.nil,Below.refl _ _⟩
 case round=>
  obtain⟨j,HJ,rfl,hf,hw⟩:=hrel;generalize wr=wy at *;have hj0:(0:Int)≤(j:Int):=by omega
  have hbY:=aB hb hw;obtain⟨Af,nf,cf',rfl⟩:=hf.form3;cases gk with
  |zero=>
   have hj:j=l.length:=HJ.out;subst hj;rw[List.take_length] at hf;have hI:=hf.ivs;clear hf;go_wp2_with fail;go_ret2;exact⟨_,rfl,hI,hbY⟩
  |succ k=>
   have hjl:j<l.length:=by have:=HJ.out;omega
   have hj1:(j:Int)<(l.length:Int):=by omega
   obtain⟨p,hp⟩:∃p,l[j]? =some p:=⟨_,List.getElem?_eq_getElem hjl⟩;obtain⟨b,s1,A1,k1,c1,s2,A2,k2,c2,s3,A3,k3,c3,s4,A4,k4,c4,rfl,hbl,hcs,hsp⟩:=(h5.below hw).get hp;have hkp:=hlk p (List.mem_of_getElem? hp);have hwr:=fun W hG h=>R7 p.1 p.2 (.agg #[.bool s1,.slice A1 k1 c1,.bool s2,.slice A2 k2 c2,.bool s3,.slice A3 k3 c3,.bool s4,.slice A4 k4 c4]) W hG h 35080695 hkp.1 hkp.2 (by decide);have HTK:Hid (((l.take (j+1)).map kE).map eE=((l.take j).map kE).map eE++[[.string ⟨(aO p.1).toArray⟩,.string ⟨(aO p.2).toArray⟩]]):=by
    unfold Hid;rw[List.take_add_one,hp,Option.toList_some,List.map_append,List.map_append];rfl
   have hfl:(((l.take j).map kE).map eE).length≤1073741824:=by rw[List.length_map,List.length_map,List.length_take];omega
   generalize ((l.take j).map kE).map eE=R at *;generalize (⟨(aO p.1).toArray⟩:ByteArray)=tx at *;generalize (⟨(aO p.2).toArray⟩:ByteArray)=ty at *;clear hp hkp;obtain⟨w6,e6,hb6,X⟩:=bA wy [.bool s1,.slice A1 k1 c1,.bool s2,.slice A2 k2 c2,.bool s3,.slice A3 k3 c3,.bool s4,.slice A4 k4 c4] 108;have cX:=X.k8;go_wp2_with fail;(try rw[e6]);(try clear e6);refine(hwr _ ((hG.below hbY).below hb6) (hsp.below hb6)).mono ?_;rintro e7 w7 ⟨rfl,hb7⟩;have hbX:Below w7.heap.size w7 (w7.alloc (.cells #[.string tx,.string ty] 45)):=(Below.refl _ _).alloc (Nat.le_refl _) _;have hf7:=((hf.below hb6).below hb7).below hbX;have hw7:=((aB hw hb6).trans (hb7.mono (Nat.le_trans hw.size hb6.size))).trans (hbX.mono (Nat.le_trans hw.size (Nat.le_trans hb6.size hb7.size)));have XB:=Bx.new w7 [.string tx,.string ty] 45;have hni:∀u∈[Value.string tx,.string ty],NoInt u∧u.oneCell'=true:=fun u hu=>by
    simp at hu;rcases hu with rfl|rfl
    ·exact⟨NoInt.string _,rfl⟩
    ·exact⟨NoInt.string _,rfl⟩
   clear hf hwr X cX hcs;go_wp2_with (at_builtin;refine YT rfl rfl 45 2 32 _ Tryz.underlying40 L6 rfl MT (by decide) (by decide) rfl hf7 rfl XB rfl hni hfl hw7.size ?_;intro v8 w8 hG8 hk8 hg8 ho8);have hw8:=hw7.trans (hf7.left hg8 hw7.size);rw[←HTK.out] at hG8;go_roundg k
   case rel=>exact⟨j+1,by have:=HJ.out;unfold Hid;omega,by go_num,hG8,hw8⟩
   case measure=>omega
def jC (n:Nat) (ls:List (List UInt8)):Bool:=ls.all (fun l=>decide (l.length≤n))
theorem RQ (n:Nat) (ls:List (List UInt8)) (v:Value) (w:World) (hv:StrsAt w v ls) (hn:n≤1073741824) (hl:ls.length≤1073741824) (hll:∀l∈ls,l.length≤9223372036854775807):
  Calls Tryz.prog 6 #[.int .i64 n,v] w fun e w'=>e= .returned (.bool (jC n ls))∧w=w':=by
 obtain⟨A,c,rfl,hc⟩:=hv.form;go_enter Tryz.func6,Tryz.ntmps6;go_wp2_with fail;go_loopg [5] ls.length (fun k i wr=>∃j,Hid (j+k=ls.length)∧i= .int .i64 j∧Hid (jC n (ls.take j)=true)∧w=wr)
 case atStart=>exact⟨0,by unfold Hid;omega,rfl,rfl,rfl⟩
 case round=>
  obtain⟨j,HJ,rfl,HT,rfl⟩:=hrel;have hj0:(0:Int)≤(j:Int):=by omega
  cases gk with
  |zero=>
   have hj:j=ls.length:=HJ.out;have HD:Hid (jC n ls=true):=by
    have:=HT.out;rwa [hj,List.take_length] at this
   subst hj;go_wp2_with fail;go_ret;rw[HD.out];exact⟨rfl,rfl⟩
  |succ k=>
   have hja:j<ls.length:=by have:=HJ.out;omega
   have hj1:(j:Int)<(ls.length:Int):=by omega
   obtain⟨t,ht⟩:∃t,ls[j]? =some t:=⟨_,List.getElem?_eq_getElem hja⟩;have hst:jC n (ls.take (j+1))=decide (t.length≤n):=by
    unfold jC;rw[List.take_add_one,ht,Option.toList_some,List.all_append];have:=HT.out;unfold jC at this;rw[this];simp
   have hno:¬t.length≤n→jC n ls=false:=fun h=>by
    unfold jC;rw[List.all_eq_false];exact⟨t,List.mem_of_getElem? ht,by simpa using h⟩
   have HST:=Lib.hid hst;have HNO:=Lib.hid hno;have htl:=hll t (List.mem_of_getElem? ht);obtain⟨b,off,rfl,hbl,hcl⟩:=hv.at_ ht;have hsz:(⟨t.toArray⟩:ByteArray).size=t.length:=by simp[ByteArray.size]
   clear hst hno ht HT;by_cases hx:t.length≤n
   ·have hx':¬(n:Int)<(t.length:Int):=by omega
    go_wp2_with fail;go_roundg k
    case rel=>exact⟨j+1,by have:=HJ.out;unfold Hid;omega,by go_num,by unfold Hid;rw[HST.out];exact decide_eq_true hx,rfl⟩
    case measure=>omega
   ·have hx':(n:Int)<(t.length:Int):=by omega
    go_wp2_with fail;go_ret;rw[HNO.out hx];exact⟨rfl,rfl⟩
theorem qQ:aR [48]=some 0:=by decide
theorem mM:aR [49]=some 1:=by decide
theorem xY:aR [45,50]=some (-2):=by decide
end Go.Proofs.YtbhplgdbfmifkaaGreatDoor
