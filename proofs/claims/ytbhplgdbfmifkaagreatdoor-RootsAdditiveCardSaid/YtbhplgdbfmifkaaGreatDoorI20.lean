/-
  Contracts of functions that the statement reaches, and plain laws: AppA.
-/
import Derived.Test.YtbhplgdbfmifkaaGreatDoorI19
import Derived.Deep.AppendSrc
import Derived.Shelf.Strconv.AppendUint10
set_option linter.unusedVariables false
set_option linter.unusedSimpArgs false
set_option maxHeartbeats 8000000
set_option maxRecDepth 100000
namespace Go.Proofs.YtbhplgdbfmifkaaGreatDoor
open Go.RowKit Sos Go.Sort
theorem EP {P:Program} {ops:Array Oper} {rest:List Oper} {o:Oper} {a:Act} {w w':World} {Q:Exit→Act→World→Prop} {v':Value} (hgd:o.guard=none) {s x:Operand} {t tx ty:TypeId}
  (ho:o.op= .call { callee:= .builtin .append,args:= #[s,x],argTypes:= #[t,tx] }) (hty:o.type=ty) {vs vx:Value} (hs:a.eval s=vs) (hx:a.eval x=vx) (hrun:(Builtin.append_ #[t,tx] ty #[vs,vx]).run P w= .ok v' w')
  (h:wpList P ops Q rest (a.put o.dst v') w'):wpList P ops Q (o :: rest) a w:=by
 subst hty;refine wpList_plain hgd fun K hK=> ?_;unfold Oper.wp execOp;simp only[ho,resolve,invoke,builtin,Sem.run_bind,Sem.run_pure,Result.andThen_ok,List.map_toArray,List.map_cons,List.map_nil,hs,hx,hrun];exact hK _ _ h
def p9 (w:World) (dst:Value) (l:List UInt8) (Post:Value→World→Prop):Prop:=
 (∀w1:World,Below w.heap.size w w1→∃v' w',(Builtin.append_ #[149,9] 149 #[dst,.string ⟨l.toArray⟩]).run Tryz.prog w1= .ok v' w'∧Post v' w')∧
 (∀(w1:World) (a:Addr) (c:Nat),Below w.heap.size w w1→(∀j u,(Lib.byteCells l)[j]? =some u→w1.cell? (a.add j)=some u)→∃v' w',(Builtin.append_ #[149,149] 149 #[dst,.slice (some a) l.length c]).run Tryz.prog w1= .ok v' w'∧Post v' w')
theorem EQ (l:List UInt8):∀u∈Lib.byteCells l,u.oneCell'=true:=by
 intro u hu;simp only[Lib.byteCells,List.mem_map] at hu;obtain⟨b,_,rfl⟩:=hu;rfl
theorem PK (w:World) (dst:Value) (l:List UInt8) (Post:Value→World→Prop)
  (h:∀(w1:World) (tx:TypeId) (x:Value),Below w.heap.size w w1→Go.Src Tryz.prog 1 tx x l.length (Lib.byteCells l) w1→∃v' w',(Builtin.append_ #[149,tx] 149 #[dst,x]).run Tryz.prog w1= .ok v' w'∧Post v' w'):p9 w dst l Post:=by
 have hsz:(⟨l.toArray⟩:ByteArray).size=l.length:=by simp[ByteArray.size]
 refine⟨fun w1 hb=>h w1 _ _ hb ?_,fun w1 a c hb hc=>h w1 _ _ hb ?_⟩
 ·have:=Go.Src.ofString (P:=Tryz.prog) w1 Tryz.underlying9 ⟨l.toArray⟩;rw[hsz] at this;exact this
 ·exact Go.Src.ofSlice w1 Tryz.underlying149 _ _ _ _ (by rw[Lib.byteCells_length,Nat.mul_one]) hc (EQ l)
theorem tV {u:Nat} (hu:u<BN):(Lib.decDigits u).length≤20:=by
 rw[Lib.decDigits_length];exact oT (by unfold BN at hu;omega) (by decide)
theorem PL (dst:Value) (u:Nat) (w:World) (Post:Value→World→Prop) (hu:u<100) (happ:p9 w dst (Lib.decDigits u) Post):
  Calls Tryz.prog 203 #[dst,.int .u64 u,.int .i64 10] w fun e w'=>∃v',e= .returned v'∧Post v' w':=by
 obtain⟨v1,w1,hrun,hpost⟩:=happ.1 w (Below.refl _ _);have HR:=Lib.hid hrun;clear hrun happ;have iu:(u:Int)<100:=by omega
 go_enter Tryz.func203,Tryz.ntmps203;go_wp2_with fail;refine(Tryz.internal_strconv_small u hu _).mono ?_;rintro e w' ⟨rfl,rfl⟩;go_wp2_with (at_builtin;refine EP rfl rfl rfl rfl rfl HR.out ?_);go_ret;exact⟨v1,rfl,hpost⟩
theorem PM (dst:Value) (u:Nat) (w:World) (Post:Value→World→Prop) (hu:100≤u) (hu64:u<BN) (hG:Glob w) (happ:p9 w dst (Lib.decDigits u) Post):
  Calls Tryz.prog 203 #[dst,.int .u64 u,.int .i64 10] w fun e w'=>∃v',e= .returned v'∧Post v' w':=by
 have hu1:1≤u:=by omega
 have hu64':u<18446744073709551616:=hu64;have hnd20:Lib.nDigits u≤20:=by have:=tV hu64;rwa [Lib.decDigits_length] at this
 have hal:Tryz.prog.arrayLen 236=24:=by simp[Program.arrayLen,Tryz.underlying236]
 have hsl:∀W,(Instr.sliceAt 236 (.pointer (some ⟨w.heap.size,0,none⟩)) none (some (.int .i64 (Lib.nDigits u:Int))) none).run Tryz.prog W= .ok (.slice (some ⟨w.heap.size,0,none⟩) (Lib.nDigits u) 24) W:=fun W=>by
  rw[run_sliceAt_array_h W 236 ⟨w.heap.size,0,none⟩ (by simp[Program.arrayLen,Program.elem,Tryz.underlying236]) .i64 (Lib.nDigits u:Int) (by omega) (by rw[hal];omega)];go_simp
 have hH0:=Lib.holds_zero0 w 236 (Lib.nDigits u) (by omega);have hfmt:=Tryz.internal_strconv_formatBase10 w.heap.size 0 24 u (Array.replicate (Lib.nDigits u) 0) (w.alloc (.cells Lib.zeros24 236)) hH0 (by rw[Array.size_replicate];exact Lib.lt_pow_nDigits u) hu64' (by rw[Array.size_replicate];omega);rw[Array.size_replicate] at hfmt;have HH0:=Lib.hid hH0;have iu:(100:Int)≤(u:Int):=by omega
 clear hH0 hal;go_enter Tryz.func203,Tryz.ntmps203;go_wp2_with fail;refine(Tryz.internal_strconv_numDigits u hu1 hu64' _ (Lib.tabIs_alloc hG.pow _)).mono ?_;rintro e w' ⟨rfl,rfl⟩;go_wp2_with fail;refine hfmt.mono ?_;rintro e w' ⟨rfl,k,v',dk,rfl,hF⟩;have hcells:∀j u',(Lib.byteCells (Lib.decDigits u))[j]? =some u'→((putRow (fun (b:UInt8)=>Value.int .u8 (b.toNat:Int)) (w.alloc (.cells Lib.zeros24 236)) w.heap.size 0 dk).drewN k).cell? ((⟨w.heap.size,0,none⟩:Addr).add j)=some u':=by
  intro j u' hj;have hjl:j<(Lib.decDigits u).length:=by
   have h5:=(List.getElem?_eq_some_iff.1 hj).1;rwa [Lib.byteCells_length] at h5
  have e5:(Lib.byteCells (Lib.decDigits u))[j]? =some (Value.int .u8 ((Lib.decDigits u)[j].toNat:Int)):=by simp[Lib.byteCells,hjl]
  rw[e5] at hj;cases hj;rw[Lib.row_is_numeral hF j hjl,Lib.add_plain,World.cell?_drewN];exact cell?_putRow (fun (b:UInt8)=>Value.int .u8 (b.toNat:Int)) _ w.heap.size 0 _ dk HH0.out (by rw[hF.size,Array.size_replicate]) j (by rw[hF.size];rw[Lib.decDigits_length] at hjl;exact hjl)
 obtain⟨os,eo⟩:=Lib.fin_at w (.cells Lib.zeros24 236) dk k 0;have hnx2:Below w.heap.size w ((putRow (fun (b:UInt8)=>Value.int .u8 (b.toNat:Int)) (w.alloc (.cells Lib.zeros24 236)) w.heap.size 0 dk).drewN k):=by rw[eo];exact Lib.below_grow w.heap.size w (Nat.le_refl _) k os
 generalize (putRow (fun (b:UInt8)=>Value.int .u8 (b.toNat:Int)) (w.alloc (.cells Lib.zeros24 236)) w.heap.size 0 dk).drewN k=W2 at hcells hnx2⊢;clear eo HH0 hfmt;obtain⟨v2,w3,hrun,hpost⟩:=happ.2 W2 ⟨w.heap.size,0,none⟩ 24 hnx2 hcells;rw[Lib.decDigits_length] at hrun;have HR:=Lib.hid hrun;clear hrun happ hcells;go_wp2_with (at_builtin;refine EP rfl rfl rfl rfl rfl HR.out ?_);go_ret;exact⟨v2,rfl,hpost⟩
theorem ER (dst:Value) (u:Nat) (w:World) (Post:Value→World→Prop) (hu:u<BN) (hG:Glob w) (happ:p9 w dst (Lib.decDigits u) Post):
  Calls Tryz.prog 179 #[dst,.int .u64 u,.int .i64 10] w fun e w'=>∃v',e= .returned v'∧Post v' w':=by
 have h:Calls Tryz.prog 203 #[dst,.int .u64 u,.int .i64 10] w fun e w'=>∃v',e= .returned v'∧Post v' w':=by
  by_cases h:u<100
  ·exact PL dst u w Post h happ
  ·exact PM dst u w Post (by omega) hu hG happ
 clear happ;go_enter Tryz.func179,Tryz.ntmps179;go_wp2_with fail;refine h.mono ?_;rintro e w1 ⟨v1,rfl,hp⟩;go_wp2;go_ret;exact⟨v1,rfl,hp⟩
end Go.Proofs.YtbhplgdbfmifkaaGreatDoor
