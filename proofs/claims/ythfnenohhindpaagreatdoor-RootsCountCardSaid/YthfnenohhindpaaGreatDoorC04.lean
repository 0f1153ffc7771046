/-
  Contracts, laws: Laws.
-/
import Derived.Test.YthfnenohhindpaaGreatDoorC02
import Derived.Test.YthfnenohhindpaaGreatDoorC03
import Derived.Laws.CopyOwn
import Derived.Maps.AppendAt
import Derived.Laws.OwnMore
set_option linter.all false
set_option maxHeartbeats 8000000
set_option maxRecDepth 100000
namespace Go.Proofs.YthfnenohhindpaaGreatDoor
open Go.RowKit Sos
section
variable {P:Program} {w:World} {ops:Array Oper} {rest:List Oper} {o:Oper} {a:Act} {Q:Exit->Act->World->Prop}
theorem KE (A:o.guard=none) {l c:Operand} {t:TypeId} (E:o.op=Op.makeSlice t l c) (e:TypeId) (z:Value) (k b:Nat)
  (m:P.underlying t=some (.slice e)) (hi:(P.info? e).map (fun i=>(i.zero,i.size,i.bytes))=some (some z,k,b)) (n:Nat) {g f:IntKind} {L C:Int}
  (D:a.eval l= .int g L) (y:a.eval c= .int f C) (s:L=(n:Int)) (p:C=(n:Int)) (H:b*n<=281474976710656) (I:n<=9223372036854775807)
  (q:∀w',w.heap.size<w'.heap.size->Soft w' w.heap.size->VC w' w.heap.size 0 (madeCells z.cells (n*k)).toList->Below w.heap.size w w'->
   wpList P ops Q rest (a.put o.dst (.slice (some ⟨w.heap.size,0,none⟩) n n)) w'):wpList P ops Q (o :: rest) a w:=by
 obtain⟨i,B,G,F,x⟩:=info_parts hi;subst F x s p;have u:(i.bytes:Int)*(n:Int)<=281474976710656:=by
  have h:((i.bytes*n:Nat):Int)<=281474976710656:=by omega
  rwa [Int.natCast_mul] at h
 have d:=run_make (P:=P) w t e i z m B G g f n n (by omega) (by omega) u (by omega);simp only[Int.toNat_natCast] at d;refine wpList_plain A fun K r=> ?_;unfold Oper.wp;simp[execOp,E,D,y,d,Result.andThen];refine r _ _ (q _ ?_ ?_ ?_ ?_)
 ·simp
 ·exact⟨_,_,heap_alloc_new w _⟩
 ·intro j v hv;rw[cell_of_row (w.alloc _) w.heap.size (0+j) _ _ _ (heap_alloc_new w _),aS];rw[Array.getElem?_toList] at hv;exact hv
 ·exact(aH _ _).alloc aE _
theorem KG (k:IntKind) (n:Nat):(madeCells (Value.int k 0).cells (n*1)).toList=(List.replicate n (0:Int)).map (Value.int k):=by
 rw[Nat.mul_one,List.map_replicate];exact toList_madeCells_one _ _
theorem iE (u:o.guard=none) {l c:Operand} {t:TypeId} (y:o.op=Op.makeSlice t l c) (k:IntKind) (e:TypeId) (b:Nat)
  (f:P.underlying t=some (.slice e)) (hi:(P.info? e).map (fun i=>(i.zero,i.size,i.bytes))=some (some (.int k 0),1,b)) (n:Nat) {A z:IntKind} {L C:Int}
  (v:a.eval l= .int A L) (s:a.eval c= .int z C) (q:L=(n:Int)) (m:C=(n:Int)) (r:b*n<=281474976710656) (x:n<=9223372036854775807)
  (p:∀w',w.heap.size<w'.heap.size->Soft w' w.heap.size->Cells k w' w.heap.size 0 (List.replicate n 0)->Below w.heap.size w w'->
   wpList P ops Q rest (a.put o.dst (.slice (some ⟨w.heap.size,0,none⟩) n n)) w'):wpList P ops Q (o :: rest) a w:=
 KE u y e _ 1 b f hi n v s q m r x fun w' g h d j=>p w' g h (by rw[KG] at d;exact d.cells) j
def cK {α:Type} (xs ys:List α):List α:=ys.take xs.length++xs.drop ys.length
theorem j5 {α:Type} (xs ys:List α):(cK xs ys).length=xs.length:=by simp[cK];omega
theorem KH {α β:Type} (f:α->β) (xs ys:List α):cK (xs.map f) (ys.map f)=(cK xs ys).map f:=by simp[cK,List.map_take,List.map_drop]
theorem KI {cur cs:List Value} {t:TypeId} {g off n:Nat} (b:w.heap[g]? =some (.cells cur.toArray t (0,0))) (p:cs.length<=n) (l:off+cs.length<=cur.length):
  Only g off n w (w.setRow g (cur.take off++(cs++cur.drop (off+cs.length))).toArray):=by
 refine⟨⟨rfl,rfl,rfl,by simp[World.setRow],fun i _ f=>setRow_other w g i _ (fun e=>f (by rw[e]))⟩,fun j c=> ?_,fun _=>⟨_,_,setRow_heap w g _ _ t _ b⟩,fun q m h=> ?_⟩
 ·rw[cell_of_row _ g j _ _ _ (setRow_heap w g _ _ t _ b),cell_of_row w g j _ _ _ b];simp only[List.getElem?_toArray];rcases c with c|c
  ·rw[f8 (by simp;omega),List.getElem?_take,if_pos c]
  ·rw[dS (by simp;omega),aZ,dS (by omega),List.getElem?_drop];congr 1;omega
 ·obtain⟨k,d,hn⟩:=h;rw[b] at d;simp only[Option.some.injEq,Obj.cells.injEq] at d;obtain⟨rfl,rfl, -⟩:=d;refine⟨_,setRow_heap w g _ _ t _ b,?_⟩;simp only[List.size_toArray] at hn;simp only[List.size_toArray,aY,aZ,List.length_drop];omega
theorem KJ {K:Act->World->Prop} {d s:Operand} {dT sT:TypeId} (C:o.op= .call { callee:= .builtin .copy,args:= #[d,s],argTypes:= #[dT,sT] }) (e:TypeId)
  (G:P.underlying dT=some (.slice e)) (F:(P.info? e).map (·.size)=some 1) {dp sp:Option Addr} {dLen dCap sLen sCap:Nat}
  (A:a.eval d= .slice dp dLen dCap) (E:a.eval s= .slice sp sLen sCap) (g off:Nat) (xs ys:List Value) (I:xs.length=dLen) (O:ys.length=sLen)
  (J:0<dLen->dp=some ⟨g,off,none⟩) (u:VC w g off xs) (R:Soft w g) (S:0<sLen->∃b q,sp=some ⟨b,q,none⟩∧VC w b q ys) (N:∀v∈ys,v.oneCell'=true)
  (h:∀w',VC w' g off (cK xs ys)->Only g off xs.length w w'->K (a.put o.dst (goInt ((Nat.min sLen dLen:Nat):Int))) w'):o.wp P a w K Q:=by
 subst I O;by_cases p:Nat.min ys.length xs.length=0
 ·have r:=run_copy_none (P:=P) w dT sT o.type e dp sp xs.length dCap ys.length sCap G F p;unfold Oper.wp;simp[execOp,C,resolve,invoke,builtin,A,E,r,Result.andThen]
  have y:=h w (by
   have H:ys=[]∨xs=[]:=by
    rcases Nat.eq_zero_or_pos ys.length with c|c
    ·exact .inl (bM c)
    ·right;rcases Nat.eq_zero_or_pos xs.length with m|m
     ·exact bM m
     ·have:0<Nat.min ys.length xs.length:=Nat.lt_min.2 ⟨c,m⟩;omega
   rcases H with rfl|rfl
   ·simpa [cK] using u
   ·intro i v hv;simp[cK] at hv) (Only.refl _ _ _ _)
  rw[p] at y;exact y
 ·have U:0<ys.length:=by
   rcases Nat.eq_zero_or_pos ys.length with c|c
   ·exact absurd (by rw[c];exact Nat.zero_min _) p
   ·exact c
  have m:0<xs.length:=by
   rcases Nat.eq_zero_or_pos xs.length with c|c
   ·exact absurd (by rw[c];exact Nat.min_zero _) p
   ·exact c
  obtain⟨b,q,rfl,V⟩:=S U;obtain rfl:=J m;obtain⟨cur,t,f⟩:=R;have X:off+xs.length<=cur.size:=by
   have:=u (xs.length-1) (xs[xs.length-1]'(by omega)) (aL (by omega));rw[cell_of_row w g _ _ _ _ f] at this;have:=(Array.getElem?_eq_some_iff.1 this).1;omega
  have z:(ys.take xs.length).length=Nat.min ys.length xs.length:=by rw[aZ];exact Nat.min_comm _ _
  have r:=run_copy_row (P:=P) w dT sT o.type e g off xs.length dCap ⟨b,q,none⟩ ys.length sCap cur t (ys.take xs.length) G F f z
   (fun j v hv=>by
    have T:ys[j]? =some v:=by
     rw[List.getElem?_take] at hv;split at hv
     ·exact hv
     ·cases hv
    have:=V j v T;unfold Addr.add;split
    ·rename_i k;subst k;simpa using this
    ·exact this)
   (by rw[aZ];omega) (fun v hv=>N v (List.mem_of_mem_take hv))
  unfold Oper.wp;simp only[execOp,C,resolve,invoke,builtin,Sem.run_bind,Sem.run_pure,Result.andThen_ok,List.map_toArray,List.map_cons,List.map_nil,A,E,r];rw[show(goInt ((ys.take xs.length).length:Int))=goInt ((Nat.min ys.length xs.length:Nat):Int) by rw[z]];refine h _ ?_ ?_
  ·have M:=setRow_heap w g cur (cur.toList.take off++ys.take xs.length++cur.toList.drop (off+(ys.take xs.length).length)).toArray t (0,0) f;intro j v hv;rw[cell_of_row _ g (off+j) _ _ _ M];simp only[List.getElem?_toArray];unfold cK at hv;have D:(cur.toList.take off).length=off:=by rw[aZ,Array.length_toList];omega
   rw[List.append_assoc,dS (by rw[D];omega),D,Nat.add_sub_cancel_left];by_cases k:j<(ys.take xs.length).length
   ·rw[f8 k] at hv⊢;exact hv
   ·rw[dS (by omega)] at hv⊢;rw[List.getElem?_drop] at hv⊢;have B:(ys.take xs.length).length=min xs.length ys.length:=aZ;rcases Nat.lt_or_ge xs.length ys.length with Y|L
    ·rw[B,Nat.min_eq_left (by omega)] at hv k;rw[eF (by omega)] at hv;cases hv
    ·rw[B,Nat.min_eq_right L] at hv k⊢;have x:ys.length+(j-ys.length)=j:=by omega
     rw[x] at hv;have:=u j v hv;rw[cell_of_row w g _ _ _ _ f] at this;rw[Array.getElem?_toList,<-this];congr 1;omega
  ·have:=KI (w:=w) (cur:=cur.toList) (cs:=ys.take xs.length) (t:=t) (g:=g) (off:=off) (n:=xs.length) (by simpa using f) (by rw[aZ];omega) (by have x:=aZ (i:=xs.length) (l:=ys);have W:cur.toList.length=cur.size:=Array.length_toList;omega);rw[List.append_assoc];exact this
theorem BV {K:Act->World->Prop} {d s:Operand} {dT sT:TypeId} (n:o.op= .call { callee:= .builtin .copy,args:= #[d,s],argTypes:= #[dT,sT] }) (k:IntKind) (e:TypeId)
  (u:P.underlying dT=some (.slice e)) (t:(P.info? e).map (·.size)=some 1) {dp sp:Option Addr} {dLen dCap sLen sCap:Nat}
  (j:a.eval d= .slice dp dLen dCap) (p:a.eval s= .slice sp sLen sCap) (g off:Nat) (xs ys:List Int) (l:xs.length=dLen) (q:ys.length=sLen)
  (m:0<dLen->dp=some ⟨g,off,none⟩) (v:Cells k w g off xs) (r:Soft w g) (x:Rd k w sp ys)
  (h:∀w',Cells k w' g off (cK xs ys)->Only g off xs.length w w'->K (a.put o.dst (goInt ((Nat.min sLen dLen:Nat):Int))) w'):o.wp P a w K Q:=by
 refine KJ n e u t j p g off (xs.map (Value.int k)) (ys.map (Value.int k)) (by simpa using l) (by simpa using q) m v.vc r ?_ (ints_oneCell k ys) ?_
 ·intro z;obtain⟨b,y,rfl,_,i⟩:=x.at_ (by omega);exact⟨b,y,rfl,i.vc⟩
 ·intro w' c f;rw[KH] at c;rw[bK] at f;exact h w' c.cells f
theorem jM (m:o.guard=none) {d s:Operand} {dT sT:TypeId} (n:o.op= .call { callee:= .builtin .copy,args:= #[d,s],argTypes:= #[dT,sT] }) (k:IntKind) (e:TypeId)
  (u:P.underlying dT=some (.slice e)) (t:(P.info? e).map (·.size)=some 1) {dp sp:Option Addr} {dLen dCap sLen sCap:Nat}
  (i:a.eval d= .slice dp dLen dCap) (p:a.eval s= .slice sp sLen sCap) (g off:Nat) (xs ys:List Int) (j:xs.length=dLen) (q:ys.length=sLen)
  (l:0<dLen->dp=some ⟨g,off,none⟩) (v:Cells k w g off xs) (r:Soft w g) (x:Rd k w sp ys)
  (h:∀w',Cells k w' g off (cK xs ys)->Only g off xs.length w w'->wpList P ops Q rest (a.put o.dst (goInt ((Nat.min sLen dLen:Nat):Int))) w'):wpList P ops Q (o :: rest) a w:=
 wpList_plain m fun _ f=>BV n k e u t i p g off xs ys j q l v r x fun w' b c=>f _ _ (h w' b c)
theorem KL {K:Act->World->Prop} {E:Prop} (i:o.guard=none) {d s:Operand} {dT sT:TypeId} (j:o.op= .call { callee:= .builtin .copy,args:= #[d,s],argTypes:= #[dT,sT] }) (k:IntKind) (e:TypeId)
  (q:P.underlying dT=some (.slice e)) (p:(P.info? e).map (·.size)=some 1) {dp sp:Option Addr} {dLen dCap sLen sCap:Nat}
  (b:a.eval d= .slice dp dLen dCap) (l:a.eval s= .slice sp sLen sCap) (g off:Nat) (xs ys:List Int) (c:xs.length=dLen) (m:ys.length=sLen)
  (f:0<dLen->dp=some ⟨g,off,none⟩) (t:Cells k w g off xs) (n:Soft w g) (u:Rd k w sp ys)
  (h:∀w',Cells k w' g off (cK xs ys)->Only g off xs.length w w'->K (a.put o.dst (goInt ((Nat.min sLen dLen:Nat):Int))) w'):if Region.wanted o (yielded ops a.tmps)=true then Oper.wp P o a w K Q else E:=by
 have r:Region.wanted o (yielded ops a.tmps)=true:=by simp[Region.wanted,i]
 rw[if_pos r];exact BV j k e q p b l g off xs ys c m f t n u h
theorem KN (d:Nat) (t k e:TypeId) (i:TypeInfo) (j:Nat) (b:P.underlying t=some (.slice e)) (hi:P.info? e=some i)
  (v:Value) (n:Nat) (xs:List Value) (h:w.ownsRow d e j v n xs) (c:Nat):(Builtin.append_ #[t,t] k #[v,.slice none 0 c]).run P w= .ok v w:=by
 rcases h.2 with ⟨rfl,rfl⟩|⟨g,l,m,rfl,_,_,f,_⟩
 ·simp[Builtin.append_,run_underlying b,sizeOf,typeInfo,hi,Builtin.lenOf,Builtin.firstCells]
 ·simp[Builtin.append_,run_underlying b,sizeOf,typeInfo,hi,Builtin.lenOf,Builtin.firstCells,f,storeCells]
def Src (w:World) (sp:Option Addr) (cs:List Value):Prop:=cs=[]∨∃b off,sp=some ⟨b,off,none⟩∧VC w b off cs
theorem KO {b off:Nat} {cs:List Value} (h:VC w b off cs):∀j u,cs[j]? =some u->w.cell? ((⟨b,off,none⟩:Addr).add j)=some u:=by
 intro j u d;have:=h j u d;unfold Addr.add;split
 ·rename_i c;subst c;simpa using this
 ·exact this
theorem fE (S:o.guard=none) {s x:Operand} {t:TypeId} (U:o.op= .call { callee:= .builtin .append,args:= #[s,x],argTypes:= #[t,t] })
  (e:TypeId) (z:Value) (f p:Nat) (D:P.underlying t=some (.slice e)) (hi:(P.info? e).map (fun i=>(i.zero,i.size,i.bytes))=some (some z,f,p)) (L:z.cells.size=f) (C:0<f)
  (g:Nat) (v:Value) (n:Nat) (xs:List Value) (W:a.eval s=v) (q:w.ownsRow g e f v n xs)
  {sp:Option Addr} {m c:Nat} (ys:List Value) (X:a.eval x= .slice sp m c) (B:ys.length=m*f) (Y:Src w sp ys) (V:∀u∈ys,u.oneCell'=true)
  (E:n+m<=9223372036854775807) (H:(n+m)*p<=140737488355328) (F:g<=w.heap.size)
  (h:∀d w',w'.ownsRow g e f d (n+m) (xs++ys)->w.grownBy w' v.ownBlock->(d.ownBlock=v.ownBlock∨d.ownBlock=some w.heap.size)->wpList P ops Q rest (a.put o.dst d) w'):
  wpList P ops Q (o :: rest) a w:=by
 obtain⟨i,A,J,I,G⟩:=info_parts hi
 have Z:∃d w',(Builtin.append_ #[t,t] o.type #[v,.slice sp m c]).run P w= .ok d w'∧w'.ownsRow g e f d (n+m) (xs++ys)∧w.grownBy w' v.ownBlock∧
   (d.ownBlock=v.ownBlock∨d.ownBlock=some w.heap.size):=by
  rcases Y with rfl|⟨b,ab,rfl,R⟩
  ·have T:m=0:=by
    rcases Nat.eq_zero_or_pos m with r|r
    ·exact r
    ·have:=Nat.mul_pos r C;simp at B;omega
   subst T;cases sp with
   |none=>exact⟨v,w,KN g t o.type e i f D A v n xs q c,by simpa using q,World.grownBy.refl w _,.inl rfl⟩
   |some M=>
    obtain⟨d,w',l,j,k,_,y⟩:=run_append_own_at (P:=P) w g t o.type e i z f p D A J I G L C v n xs q M 0 c [] B (by simp) (by simp) E H F;exact⟨d,w',l,j,k,y⟩
  ·obtain⟨d,w',l,j,k,_,y⟩:=run_append_own_at (P:=P) w g t o.type e i z f p D A J I G L C v n xs q ⟨b,ab,none⟩ m c ys B (KO R) V E H F;exact⟨d,w',l,j,k,y⟩
 obtain⟨d,w',l,j,k,N⟩:=Z;refine wpList_plain S fun K O=> ?_;unfold Oper.wp execOp;simp only[U,resolve,invoke,builtin,Sem.run_bind,Sem.run_pure,Result.andThen_ok,List.map_toArray,List.map_cons,List.map_nil,W,X,l];exact O _ _ (h d w' j k N)
def BW (k:IntKind) (w:World) (b:Nat) (v:Value) (zs:List Int):Prop:=
 ∃A c,v= .slice A zs.length c∧zs.length<=c∧(zs=[]∨∃g,A=some ⟨g,0,none⟩∧b<=g∧Soft w g∧Cells k w g 0 zs)
theorem KP {k:IntKind} {c:Nat} {e:TypeId} {v:Value} {zs:List Int} (h:w.ownsRow c e 1 v zs.length (zs.map (Value.int k))):BW k w c v zs:=by
 rcases h.2 with ⟨rfl,l⟩|⟨g,j,d,rfl,m,f,hn,_,p,n⟩
 ·have:zs=[]:=bM l;subst this;exact⟨none,0,rfl,aE,.inl rfl⟩
 ·refine⟨_,j,rfl,hn,.inr ⟨g,rfl,m,⟨d,e,f⟩,?_⟩⟩;refine VC.cells (fun i u b=> ?_);rw[cell_of_row w g (0+i) d e (0,0) f,aS,<-Array.getElem?_toList];rw[<-n,List.getElem?_take] at b;split at b
  ·exact b
  ·cases b
end
