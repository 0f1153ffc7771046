/-
  Contracts, laws: AppA.
-/
import Derived.Test.YthfnenohhindpaaGreatDoorC21
import Derived.Deep.AppendSrc
import Derived.Shelf.Strconv.AppendUint10
set_option linter.all false
set_option maxHeartbeats 8000000
set_option maxRecDepth 100000
namespace Go.Proofs.YthfnenohhindpaaGreatDoor
open Go.RowKit Sos Go.Sort
theorem E6 {P:Program} {b:Array Oper} {rest:List Oper} {o:Oper} {a:Act} {w w':World} {Q:Exit->Act->World->Prop} {e:Value} (j:o.guard=none) {s x:Operand} {t c d:TypeId}
  (k:o.op= .call { callee:= .builtin .append,args:= #[s,x],argTypes:= #[t,c] }) (n:o.type=d) {f g:Value} (m:a.eval s=f) (p:a.eval x=g) (l:(Builtin.append_ #[t,c] d #[f,g]).run P w= .ok e w')
  (h:wpList P b Q rest (a.put o.dst e) w'):wpList P b Q (o :: rest) a w:=by
 subst n;refine wpList_plain j fun K i=> ?_;unfold Oper.wp execOp;simp only[k,resolve,invoke,builtin,Sem.run_bind,Sem.run_pure,Result.andThen_ok,List.map_toArray,List.map_cons,List.map_nil,m,p,l];exact i _ _ h
def p6 (w:World) (g:Value) (l:List UInt8) (f:Value->World->Prop):Prop:=
 (∀b:World,Below w.heap.size w b->∃d e,(Builtin.append_ #[177,9] 177 #[g,.string ⟨l.toArray⟩]).run Tryz.prog b= .ok d e∧f d e)∧
 (∀(b:World) (a:Addr) (c:Nat),Below w.heap.size w b->(∀j u,(Lib.byteCells l)[j]? =some u->b.cell? (a.add j)=some u)->∃d e,(Builtin.append_ #[177,177] 177 #[g,.slice (some a) l.length c]).run Tryz.prog b= .ok d e∧f d e)
theorem E7 (l:List UInt8):∀u∈Lib.byteCells l,u.oneCell'=true:=by
 intro u a;simp only[Lib.byteCells,List.mem_map] at a;obtain⟨b,_,rfl⟩:=a;rfl
theorem OR (w:World) (e:Value) (l:List UInt8) (d:Value->World->Prop)
  (h:∀(w1:World) (f:TypeId) (x:Value),Below w.heap.size w w1->Go.Src Tryz.prog 1 f x l.length (Lib.byteCells l) w1->∃g w',(Builtin.append_ #[177,f] 177 #[e,x]).run Tryz.prog w1= .ok g w'∧d g w'):p6 w e l d:=by
 have j:(⟨l.toArray⟩:ByteArray).size=l.length:=by simp[ByteArray.size]
 refine⟨fun w1 b=>h w1 _ _ b ?_,fun w1 a c b i=>h w1 _ _ b ?_⟩
 ·have:=Go.Src.ofString (P:=Tryz.prog) w1 Tryz.underlying9 ⟨l.toArray⟩;rw[j] at this;exact this
 ·exact Go.Src.ofSlice w1 Tryz.underlying177 _ _ _ _ (by rw[Lib.byteCells_length,Nat.mul_one]) i (E7 l)
theorem tJ {u:Nat} (a:u<BN):(Lib.decDigits u).length<=20:=by
 rw[Lib.decDigits_length];exact oX (by unfold BN at a;omega) (by decide)
theorem OS (b:Value) (u:Nat) (w:World) (a:Value->World->Prop) (i:u<100) (c:p6 w b (Lib.decDigits u) a):
  Calls Tryz.prog 222 #[b,.int .u64 u,.int .i64 10] w fun e w'=>∃f,e= .returned f∧a f w':=by
 obtain⟨j,l,d,h⟩:=c.1 w (aH _ _);have g:=aB d;clear d c;have k:(u:Int)<100:=by omega
 go_enter Tryz.func222,Tryz.ntmps222;go_wp2_with fail;refine(Tryz.internal_strconv_small u i _).mono ?_;rintro e w' ⟨rfl,rfl⟩;go_wp2_with (at_builtin;refine E6 rfl rfl rfl rfl rfl g.out ?_);go_ret;exact⟨j,rfl,h⟩
theorem OT (p:Value) (u:Nat) (w:World) (o:Value->World->Prop) (J:100<=u) (v:u<BN) (C:Glob w) (s:p6 w p (Lib.decDigits u) o):
  Calls Tryz.prog 222 #[p,.int .u64 u,.int .i64 10] w fun e w'=>∃m,e= .returned m∧o m w':=by
 have E:1<=u:=by omega
 have x:u<18446744073709551616:=v;have H:Lib.nDigits u<=20:=by have:=tJ v;rwa [Lib.decDigits_length] at this
 have r:Tryz.prog.arrayLen 247=24:=by simp[Program.arrayLen,Tryz.underlying247]
 have I:∀W,(Instr.sliceAt 247 (.pointer (some ⟨w.heap.size,0,none⟩)) none (some (.int .i64 (Lib.nDigits u:Int))) none).run Tryz.prog W= .ok (.slice (some ⟨w.heap.size,0,none⟩) (Lib.nDigits u) 24) W:=fun W=>by
  rw[run_sliceAt_array_h W 247 ⟨w.heap.size,0,none⟩ (by simp[Program.arrayLen,Program.elem,Tryz.underlying247]) .i64 (Lib.nDigits u:Int) (by omega) (by rw[r];omega)];go_simp
 have d:=Lib.holds_zero0 w 247 (Lib.nDigits u) (by omega);have g:=Tryz.internal_strconv_formatBase10 w.heap.size 0 24 u (Array.replicate (Lib.nDigits u) 0) (w.alloc (.cells Lib.zeros24 247)) d (by rw[Array.size_replicate];exact Lib.lt_pow_nDigits u) x (by rw[Array.size_replicate];omega);rw[Array.size_replicate] at g;have n:=aB d;have K:(100:Int)<=(u:Int):=by omega
 clear d r;go_enter Tryz.func222,Tryz.ntmps222;go_wp2_with fail;refine(Tryz.internal_strconv_numDigits u E x _ (Lib.tabIs_alloc C.pow _)).mono ?_;rintro e w' ⟨rfl,rfl⟩;go_wp2_with fail;refine g.mono ?_;rintro e w' ⟨rfl,k,m,a,rfl,hF⟩;have f:∀j l,(Lib.byteCells (Lib.decDigits u))[j]? =some l->((putRow (fun (b:UInt8)=>Value.int .u8 (b.toNat:Int)) (w.alloc (.cells Lib.zeros24 247)) w.heap.size 0 a).drewN k).cell? ((⟨w.heap.size,0,none⟩:Addr).add j)=some l:=by
  intro j l h;have c:j<(Lib.decDigits u).length:=by
   have B:=(List.getElem?_eq_some_iff.1 h).1;rwa [Lib.byteCells_length] at B
  have A:(Lib.byteCells (Lib.decDigits u))[j]? =some (Value.int .u8 ((Lib.decDigits u)[j].toNat:Int)):=by simp[Lib.byteCells,c]
  rw[A] at h;cases h;rw[Lib.row_is_numeral hF j c,Lib.add_plain,World.cell?_drewN];exact cell?_putRow (fun (b:UInt8)=>Value.int .u8 (b.toNat:Int)) _ w.heap.size 0 _ a n.out (by rw[hF.size,Array.size_replicate]) j (by rw[hF.size];rw[Lib.decDigits_length] at c;exact c)
 obtain⟨F,q⟩:=Lib.fin_at w (.cells Lib.zeros24 247) a k 0;have t:Below w.heap.size w ((putRow (fun (b:UInt8)=>Value.int .u8 (b.toNat:Int)) (w.alloc (.cells Lib.zeros24 247)) w.heap.size 0 a).drewN k):=by rw[q];exact Lib.below_grow w.heap.size w aE k F
 generalize (putRow (fun (b:UInt8)=>Value.int .u8 (b.toNat:Int)) (w.alloc (.cells Lib.zeros24 247)) w.heap.size 0 a).drewN k=z at f t⊢;clear q n g;obtain⟨G,L,i,D⟩:=s.2 z ⟨w.heap.size,0,none⟩ 24 t f;rw[Lib.decDigits_length] at i;have y:=aB i;clear i s f;go_wp2_with (at_builtin;refine E6 rfl rfl rfl rfl rfl y.out ?_);go_ret;exact⟨G,rfl,D⟩
theorem E8 (b:Value) (u:Nat) (w:World) (a:Value->World->Prop) (i:u<BN) (f:Glob w) (d:p6 w b (Lib.decDigits u) a):
  Calls Tryz.prog 202 #[b,.int .u64 u,.int .i64 10] w fun e w'=>∃c,e= .returned c∧a c w':=by
 have h:Calls Tryz.prog 222 #[b,.int .u64 u,.int .i64 10] w fun e w'=>∃c,e= .returned c∧a c w':=by
  by_cases h:u<100
  ·exact OS b u w a h d
  ·exact OT b u w a (by omega) i f d
 clear d;go_enter Tryz.func202,Tryz.ntmps202;go_wp2_with fail;refine h.mono ?_;rintro e k ⟨j,rfl,g⟩;go_wp2;go_ret;exact⟨j,rfl,g⟩
