/-
  Contracts of functions that the statement reaches, and plain laws: Laws.
-/
import Derived.Test.YtbhplgdbfmifkaaGreatDoorI02
import Derived.Laws.CopyOwn
import Derived.Maps.AppendAt
import Derived.Laws.OwnMore
set_option linter.unusedVariables false
set_option linter.unusedSimpArgs false
set_option maxHeartbeats 8000000
set_option maxRecDepth 100000
namespace Go.Proofs.YtbhplgdbfmifkaaGreatDoor
open Go.RowKit Sos
section
variable {P:Program} {w:World} {ops:Array Oper} {rest:List Oper} {o:Oper} {a:Act} {Q:Exit→Act→World→Prop}
theorem JU (hg:o.guard=none) {l c:Operand} {t:TypeId} (hop:o.op=Op.makeSlice t l c) (e:TypeId) (z:Value) (size bytes:Nat)
  (h1:P.underlying t=some (.slice e)) (hi:(P.info? e).map (fun i=>(i.zero,i.size,i.bytes))=some (some z,size,bytes)) (n:Nat) {kl kc:IntKind} {L C:Int}
  (hl:a.eval l= .int kl L) (hc:a.eval c= .int kc C) (hL:L=(n:Int)) (hC:C=(n:Int)) (hb:bytes*n≤281474976710656) (hm:n≤9223372036854775807)
  (hK:∀w',w.heap.size<w'.heap.size→Soft w' w.heap.size→VC w' w.heap.size 0 (madeCells z.cells (n*size)).toList→Below w.heap.size w w'→
   wpList P ops Q rest (a.put o.dst (.slice (some ⟨w.heap.size,0,none⟩) n n)) w'):wpList P ops Q (o :: rest) a w:=by
 obtain⟨i,hi0,hz,hs,hby⟩:=info_parts hi;subst hs hby hL hC;have hbb:(i.bytes:Int)*(n:Int)≤281474976710656:=by
  have h:((i.bytes*n:Nat):Int)≤281474976710656:=by omega
  rwa [Int.natCast_mul] at h
 have hr:=run_make (P:=P) w t e i z h1 hi0 hz kl kc n n (by omega) (by omega) hbb (by omega);simp only[Int.toNat_natCast] at hr;refine wpList_plain hg fun K hK'=> ?_;unfold Oper.wp;simp[execOp,hop,hl,hc,hr,Result.andThen];refine hK' _ _ (hK _ ?_ ?_ ?_ ?_)
 ·simp
 ·exact⟨_,_,heap_alloc_new w _⟩
 ·intro j v hv;rw[cell_of_row (w.alloc _) w.heap.size (0+j) _ _ _ (heap_alloc_new w _),Nat.zero_add];rw[Array.getElem?_toList] at hv;exact hv
 ·exact(Below.refl _ _).alloc (Nat.le_refl _) _
theorem JV (k:IntKind) (n:Nat):(madeCells (Value.int k 0).cells (n*1)).toList=(List.replicate n (0:Int)).map (Value.int k):=by
 rw[Nat.mul_one,List.map_replicate];exact toList_madeCells_one _ _
theorem gN (hg:o.guard=none) {l c:Operand} {t:TypeId} (hop:o.op=Op.makeSlice t l c) (k:IntKind) (e:TypeId) (bytes:Nat)
  (h1:P.underlying t=some (.slice e)) (hi:(P.info? e).map (fun i=>(i.zero,i.size,i.bytes))=some (some (.int k 0),1,bytes)) (n:Nat) {kl kc:IntKind} {L C:Int}
  (hl:a.eval l= .int kl L) (hc:a.eval c= .int kc C) (hL:L=(n:Int)) (hC:C=(n:Int)) (hb:bytes*n≤281474976710656) (hm:n≤9223372036854775807)
  (hK:∀w',w.heap.size<w'.heap.size→Soft w' w.heap.size→Cells k w' w.heap.size 0 (List.replicate n 0)→Below w.heap.size w w'→
   wpList P ops Q rest (a.put o.dst (.slice (some ⟨w.heap.size,0,none⟩) n n)) w'):wpList P ops Q (o :: rest) a w:=
 JU hg hop e _ 1 bytes h1 hi n hl hc hL hC hb hm fun w' h2 h3 h4 h5=>hK w' h2 h3 (by rw[JV] at h4;exact h4.cells) h5
def bJ {α:Type} (xs ys:List α):List α:=ys.take xs.length++xs.drop ys.length
theorem iE {α:Type} (xs ys:List α):(bJ xs ys).length=xs.length:=by simp[bJ];omega
theorem JW {α β:Type} (f:α→β) (xs ys:List α):bJ (xs.map f) (ys.map f)=(bJ xs ys).map f:=by simp[bJ,List.map_take,List.map_drop]
theorem JX {cur cs:List Value} {t:TypeId} {g off n:Nat} (hg:w.heap[g]? =some (.cells cur.toArray t (0,0))) (hlen:cs.length≤n) (hfit:off+cs.length≤cur.length):
  Only g off n w (w.setRow g (cur.take off++(cs++cur.drop (off+cs.length))).toArray):=by
 refine⟨⟨rfl,rfl,rfl,by simp[World.setRow],fun i _ hne=>setRow_other w g i _ (fun e=>hne (by rw[e]))⟩,fun j hj=> ?_,fun _=>⟨_,_,setRow_heap w g _ _ t _ hg⟩,fun t' m hs=> ?_⟩
 ·rw[cell_of_row _ g j _ _ _ (setRow_heap w g _ _ t _ hg),cell_of_row w g j _ _ _ hg];simp only[List.getElem?_toArray];rcases hj with hj|hj
  ·rw[List.getElem?_append_left (by simp;omega),List.getElem?_take,if_pos hj]
  ·rw[List.getElem?_append_right (by simp;omega),List.length_take,List.getElem?_append_right (by omega),List.getElem?_drop];congr 1;omega
 ·obtain⟨cur',hh,hn⟩:=hs;rw[hg] at hh;simp only[Option.some.injEq,Obj.cells.injEq] at hh;obtain⟨rfl,rfl, -⟩:=hh;refine⟨_,setRow_heap w g _ _ t _ hg,?_⟩;simp only[List.size_toArray] at hn;simp only[List.size_toArray,List.length_append,List.length_take,List.length_drop];omega
theorem JY {K:Act→World→Prop} {d s:Operand} {dT sT:TypeId} (ho:o.op= .call { callee:= .builtin .copy,args:= #[d,s],argTypes:= #[dT,sT] }) (e:TypeId)
  (hu:P.underlying dT=some (.slice e)) (hsz:(P.info? e).map (·.size)=some 1) {dp sp:Option Addr} {dLen dCap sLen sCap:Nat}
  (hd:a.eval d= .slice dp dLen dCap) (hs:a.eval s= .slice sp sLen sCap) (g off:Nat) (xs ys:List Value) (hdl:xs.length=dLen) (hsl:ys.length=sLen)
  (hdp:0<dLen→dp=some ⟨g,off,none⟩) (hx:VC w g off xs) (hsoft:Soft w g) (hsp:0<sLen→∃b o',sp=some ⟨b,o',none⟩∧VC w b o' ys) (hone:∀v∈ys,v.oneCell'=true)
  (h:∀w',VC w' g off (bJ xs ys)→Only g off xs.length w w'→K (a.put o.dst (goInt ((Nat.min sLen dLen:Nat):Int))) w'):o.wp P a w K Q:=by
 subst hdl hsl;by_cases h0:Nat.min ys.length xs.length=0
 ·have hrun:=run_copy_none (P:=P) w dT sT o.type e dp sp xs.length dCap ys.length sCap hu hsz h0;unfold Oper.wp;simp[execOp,ho,resolve,invoke,builtin,hd,hs,hrun,Result.andThen]
  have h1:=h w (by
   have h0':ys=[]∨xs=[]:=by
    rcases Nat.eq_zero_or_pos ys.length with hy|hy
    ·exact .inl (List.eq_nil_of_length_eq_zero hy)
    ·right;rcases Nat.eq_zero_or_pos xs.length with hx0|hx0
     ·exact List.eq_nil_of_length_eq_zero hx0
     ·have:0<Nat.min ys.length xs.length:=Nat.lt_min.2 ⟨hy,hx0⟩;omega
   rcases h0' with rfl|rfl
   ·simpa [bJ] using hx
   ·intro i v hv;simp[bJ] at hv) (Only.refl _ _ _ _)
  rw[h0] at h1;exact h1
 ·have hy0:0<ys.length:=by
   rcases Nat.eq_zero_or_pos ys.length with hy|hy
   ·exact absurd (by rw[hy];exact Nat.zero_min _) h0
   ·exact hy
  have hx0:0<xs.length:=by
   rcases Nat.eq_zero_or_pos xs.length with hy|hy
   ·exact absurd (by rw[hy];exact Nat.min_zero _) h0
   ·exact hy
  obtain⟨b,o',rfl,hyc⟩:=hsp hy0;obtain rfl:=hdp hx0;obtain⟨cur,t,hg⟩:=hsoft;have hcl:off+xs.length≤cur.size:=by
   have:=hx (xs.length-1) (xs[xs.length-1]'(by omega)) (List.getElem?_eq_getElem (by omega));rw[cell_of_row w g _ _ _ _ hg] at this;have:=(Array.getElem?_eq_some_iff.1 this).1;omega
  have hcs:(ys.take xs.length).length=Nat.min ys.length xs.length:=by rw[List.length_take];exact Nat.min_comm _ _
  have hrun:=run_copy_row (P:=P) w dT sT o.type e g off xs.length dCap ⟨b,o',none⟩ ys.length sCap cur t (ys.take xs.length) hu hsz hg hcs
   (fun j v hv=>by
    have hv':ys[j]? =some v:=by
     rw[List.getElem?_take] at hv;split at hv
     ·exact hv
     ·cases hv
    have:=hyc j v hv';unfold Addr.add;split
    ·rename_i hj;subst hj;simpa using this
    ·exact this)
   (by rw[List.length_take];omega) (fun v hv=>hone v (List.mem_of_mem_take hv))
  unfold Oper.wp;simp only[execOp,ho,resolve,invoke,builtin,Sem.run_bind,Sem.run_pure,Result.andThen_ok,List.map_toArray,List.map_cons,List.map_nil,hd,hs,hrun];rw[show(goInt ((ys.take xs.length).length:Int))=goInt ((Nat.min ys.length xs.length:Nat):Int) by rw[hcs]];refine h _ ?_ ?_
  ·have hh:=setRow_heap w g cur (cur.toList.take off++ys.take xs.length++cur.toList.drop (off+(ys.take xs.length).length)).toArray t (0,0) hg;intro j v hv;rw[cell_of_row _ g (off+j) _ _ _ hh];simp only[List.getElem?_toArray];unfold bJ at hv;have hoff:(cur.toList.take off).length=off:=by rw[List.length_take,Array.length_toList];omega
   rw[List.append_assoc,List.getElem?_append_right (by rw[hoff];omega),hoff,Nat.add_sub_cancel_left];by_cases hj:j<(ys.take xs.length).length
   ·rw[List.getElem?_append_left hj] at hv⊢;exact hv
   ·rw[List.getElem?_append_right (by omega)] at hv⊢;rw[List.getElem?_drop] at hv⊢;have hl:(ys.take xs.length).length=min xs.length ys.length:=List.length_take;rcases Nat.lt_or_ge xs.length ys.length with hlt|hge
    ·rw[hl,Nat.min_eq_left (by omega)] at hv hj;rw[List.getElem?_eq_none (by omega)] at hv;cases hv
    ·rw[hl,Nat.min_eq_right hge] at hv hj⊢;have e1:ys.length+(j-ys.length)=j:=by omega
     rw[e1] at hv;have:=hx j v hv;rw[cell_of_row w g _ _ _ _ hg] at this;rw[Array.getElem?_toList,←this];congr 1;omega
  ·have:=JX (w:=w) (cur:=cur.toList) (cs:=ys.take xs.length) (t:=t) (g:=g) (off:=off) (n:=xs.length) (by simpa using hg) (by rw[List.length_take];omega) (by have e1:=List.length_take (i:=xs.length) (l:=ys);have e2:cur.toList.length=cur.size:=Array.length_toList;omega);rw[List.append_assoc];exact this
theorem BV {K:Act→World→Prop} {d s:Operand} {dT sT:TypeId} (ho:o.op= .call { callee:= .builtin .copy,args:= #[d,s],argTypes:= #[dT,sT] }) (k:IntKind) (e:TypeId)
  (hu:P.underlying dT=some (.slice e)) (hsz:(P.info? e).map (·.size)=some 1) {dp sp:Option Addr} {dLen dCap sLen sCap:Nat}
  (hd:a.eval d= .slice dp dLen dCap) (hs:a.eval s= .slice sp sLen sCap) (g off:Nat) (xs ys:List Int) (hdl:xs.length=dLen) (hsl:ys.length=sLen)
  (hdp:0<dLen→dp=some ⟨g,off,none⟩) (hx:Cells k w g off xs) (hsoft:Soft w g) (hy:Rd k w sp ys)
  (h:∀w',Cells k w' g off (bJ xs ys)→Only g off xs.length w w'→K (a.put o.dst (goInt ((Nat.min sLen dLen:Nat):Int))) w'):o.wp P a w K Q:=by
 refine JY ho e hu hsz hd hs g off (xs.map (Value.int k)) (ys.map (Value.int k)) (by simpa using hdl) (by simpa using hsl) hdp hx.vc hsoft ?_ (ints_oneCell k ys) ?_
 ·intro h0;obtain⟨b,o',rfl,_,hc⟩:=hy.at_ (by omega);exact⟨b,o',rfl,hc.vc⟩
 ·intro w' h1 h2;rw[JW] at h1;rw[List.length_map] at h2;exact h w' h1.cells h2
theorem iT (hgd:o.guard=none) {d s:Operand} {dT sT:TypeId} (ho:o.op= .call { callee:= .builtin .copy,args:= #[d,s],argTypes:= #[dT,sT] }) (k:IntKind) (e:TypeId)
  (hu:P.underlying dT=some (.slice e)) (hsz:(P.info? e).map (·.size)=some 1) {dp sp:Option Addr} {dLen dCap sLen sCap:Nat}
  (hd:a.eval d= .slice dp dLen dCap) (hs:a.eval s= .slice sp sLen sCap) (g off:Nat) (xs ys:List Int) (hdl:xs.length=dLen) (hsl:ys.length=sLen)
  (hdp:0<dLen→dp=some ⟨g,off,none⟩) (hx:Cells k w g off xs) (hsoft:Soft w g) (hy:Rd k w sp ys)
  (h:∀w',Cells k w' g off (bJ xs ys)→Only g off xs.length w w'→wpList P ops Q rest (a.put o.dst (goInt ((Nat.min sLen dLen:Nat):Int))) w'):wpList P ops Q (o :: rest) a w:=
 wpList_plain hgd fun _ hK=>BV ho k e hu hsz hd hs g off xs ys hdl hsl hdp hx hsoft hy fun w' h1 h2=>hK _ _ (h w' h1 h2)
theorem JZ {K:Act→World→Prop} {E:Prop} (hgd:o.guard=none) {d s:Operand} {dT sT:TypeId} (ho:o.op= .call { callee:= .builtin .copy,args:= #[d,s],argTypes:= #[dT,sT] }) (k:IntKind) (e:TypeId)
  (hu:P.underlying dT=some (.slice e)) (hsz:(P.info? e).map (·.size)=some 1) {dp sp:Option Addr} {dLen dCap sLen sCap:Nat}
  (hd:a.eval d= .slice dp dLen dCap) (hs:a.eval s= .slice sp sLen sCap) (g off:Nat) (xs ys:List Int) (hdl:xs.length=dLen) (hsl:ys.length=sLen)
  (hdp:0<dLen→dp=some ⟨g,off,none⟩) (hx:Cells k w g off xs) (hsoft:Soft w g) (hy:Rd k w sp ys)
  (h:∀w',Cells k w' g off (bJ xs ys)→Only g off xs.length w w'→K (a.put o.dst (goInt ((Nat.min sLen dLen:Nat):Int))) w'):if Region.wanted o (yielded ops a.tmps)=true then Oper.wp P o a w K Q else E:=by
 have hw:Region.wanted o (yielded ops a.tmps)=true:=by simp[Region.wanted,hgd]
 rw[if_pos hw];exact BV ho k e hu hsz hd hs g off xs ys hdl hsl hdp hx hsoft hy h
theorem K3 (base:Nat) (t ty e:TypeId) (i:TypeInfo) (size:Nat) (ht:P.underlying t=some (.slice e)) (hi:P.info? e=some i)
  (v:Value) (n:Nat) (xs:List Value) (hown:w.ownsRow base e size v n xs) (c:Nat):(Builtin.append_ #[t,t] ty #[v,.slice none 0 c]).run P w= .ok v w:=by
 rcases hown.2 with ⟨rfl,rfl⟩|⟨g,cap,cur,rfl,_,_,hnc,_⟩
 ·simp[Builtin.append_,run_underlying ht,sizeOf,typeInfo,hi,Builtin.lenOf,Builtin.firstCells]
 ·simp[Builtin.append_,run_underlying ht,sizeOf,typeInfo,hi,Builtin.lenOf,Builtin.firstCells,hnc,storeCells]
def Src (w:World) (sp:Option Addr) (cs:List Value):Prop:=cs=[]∨∃b off,sp=some ⟨b,off,none⟩∧VC w b off cs
theorem K4 {b off:Nat} {cs:List Value} (h:VC w b off cs):∀j u,cs[j]? =some u→w.cell? ((⟨b,off,none⟩:Addr).add j)=some u:=by
 intro j u hu;have:=h j u hu;unfold Addr.add;split
 ·rename_i hj;subst hj;simpa using this
 ·exact this
theorem eJ (hgd:o.guard=none) {s x:Operand} {t:TypeId} (ho:o.op= .call { callee:= .builtin .append,args:= #[s,x],argTypes:= #[t,t] })
  (e:TypeId) (z:Value) (size bytes:Nat) (ht:P.underlying t=some (.slice e)) (hi:(P.info? e).map (fun i=>(i.zero,i.size,i.bytes))=some (some z,size,bytes)) (hzs:z.cells.size=size) (hsz:0<size)
  (base:Nat) (v:Value) (n:Nat) (xs:List Value) (hs:a.eval s=v) (hown:w.ownsRow base e size v n xs)
  {sp:Option Addr} {m c:Nat} (ys:List Value) (hx:a.eval x= .slice sp m c) (hm:ys.length=m*size) (hy:Src w sp ys) (hone:∀u∈ys,u.oneCell'=true)
  (h63:n+m≤9223372036854775807) (hbytes:(n+m)*bytes≤140737488355328) (hbase:base≤w.heap.size)
  (h:∀v' w',w'.ownsRow base e size v' (n+m) (xs++ys)→w.grownBy w' v.ownBlock→(v'.ownBlock=v.ownBlock∨v'.ownBlock=some w.heap.size)→wpList P ops Q rest (a.put o.dst v') w'):
  wpList P ops Q (o :: rest) a w:=by
 obtain⟨i,hi0,hz,hs1,hby⟩:=info_parts hi
 have key:∃v' w',(Builtin.append_ #[t,t] o.type #[v,.slice sp m c]).run P w= .ok v' w'∧w'.ownsRow base e size v' (n+m) (xs++ys)∧w.grownBy w' v.ownBlock∧
   (v'.ownBlock=v.ownBlock∨v'.ownBlock=some w.heap.size):=by
  rcases hy with rfl|⟨b,off,rfl,hc⟩
  ·have hm0:m=0:=by
    rcases Nat.eq_zero_or_pos m with h0|h0
    ·exact h0
    ·have:=Nat.mul_pos h0 hsz;simp at hm;omega
   subst hm0;cases sp with
   |none=>exact⟨v,w,K3 base t o.type e i size ht hi0 v n xs hown c,by simpa using hown,World.grownBy.refl w _,.inl rfl⟩
   |some ad=>
    obtain⟨v',w',hrun,h2,h3,_,h5⟩:=run_append_own_at (P:=P) w base t o.type e i z size bytes ht hi0 hz hs1 hby hzs hsz v n xs hown ad 0 c [] hm (by simp) (by simp) h63 hbytes hbase;exact⟨v',w',hrun,h2,h3,h5⟩
  ·obtain⟨v',w',hrun,h2,h3,_,h5⟩:=run_append_own_at (P:=P) w base t o.type e i z size bytes ht hi0 hz hs1 hby hzs hsz v n xs hown ⟨b,off,none⟩ m c ys hm (K4 hc) hone h63 hbytes hbase;exact⟨v',w',hrun,h2,h3,h5⟩
 obtain⟨v',w',hrun,h2,h3,h4⟩:=key;refine wpList_plain hgd fun K hK=> ?_;unfold Oper.wp execOp;simp only[ho,resolve,invoke,builtin,Sem.run_bind,Sem.run_pure,Result.andThen_ok,List.map_toArray,List.map_cons,List.map_nil,hs,hx,hrun];exact hK _ _ (h v' w' h2 h3 h4)
def BW (k:IntKind) (w:World) (base:Nat) (v:Value) (zs:List Int):Prop:=
 ∃A c,v= .slice A zs.length c∧zs.length≤c∧(zs=[]∨∃g,A=some ⟨g,0,none⟩∧base≤g∧Soft w g∧Cells k w g 0 zs)
theorem K5 {k:IntKind} {base:Nat} {e:TypeId} {v:Value} {zs:List Int} (h:w.ownsRow base e 1 v zs.length (zs.map (Value.int k))):BW k w base v zs:=by
 rcases h.2 with ⟨rfl,h0⟩|⟨g,cap,cur,rfl,hb,hh,hn,_,hs,ht⟩
 ·have:zs=[]:=List.eq_nil_of_length_eq_zero h0;subst this;exact⟨none,0,rfl,Nat.le_refl _,.inl rfl⟩
 ·refine⟨_,cap,rfl,hn,.inr ⟨g,rfl,hb,⟨cur,e,hh⟩,?_⟩⟩;refine VC.cells (fun i u hu=> ?_);rw[cell_of_row w g (0+i) cur e (0,0) hh,Nat.zero_add,←Array.getElem?_toList];rw[←ht,List.getElem?_take] at hu;split at hu
  ·exact hu
  ·cases hu
end
end Go.Proofs.YtbhplgdbfmifkaaGreatDoor
