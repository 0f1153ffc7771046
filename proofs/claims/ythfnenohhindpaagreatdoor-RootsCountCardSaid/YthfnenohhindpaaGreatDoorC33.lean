/-
  Contracts, laws: NumT, BxF, UpZ, RatM, RatY, RatR.
-/
import Derived.Test.YthfnenohhindpaaGreatDoorC32
set_option linter.all false
set_option maxHeartbeats 8000000
set_option maxRecDepth 100000
namespace Go.Proofs.YthfnenohhindpaaGreatDoor
open Go.RowKit Sos
abbrev R4 (w:World) (b o:Nat) (c d e f:Value):Prop:=w.cell? ⟨b,o,none⟩=some c∧w.cell? ⟨b,o+1,none⟩=some d∧w.cell? ⟨b,o+2,none⟩=some e∧w.cell? ⟨b,o+3,none⟩=some f
def QRow (w:World) (rows:List (List Value)) (qs:List Rat):Prop:=∀(i:Nat) (q:Rat),qs[i]? =some q->∃s A l c f d e c',rows[i]? =some [Value.bool s,Value.slice A l c,Value.bool f,Value.slice d e c']∧NQ w (.agg #[.bool s,.slice A l c,.bool f,.slice d e c']) q
def QsAt (w:World) (v:Value) (qs:List Rat):Prop:=∃A c,v= .slice A qs.length c∧qs.length<=c∧(A=none∧qs=[]∨∃b rows,A=some ⟨b,0,none⟩∧Rw w b 4 rows 81∧qs.length<=rows.length∧QRow w rows qs)
def OwnQ (w:World) (b:Nat) (qs:List Rat):Prop:=∃rows,Rw w b 4 rows 81∧qs.length<=rows.length∧QRow w rows qs
def oG (g:Nat) (w W:World):Prop:=KM w W∧kO g w W
theorem KM.put {w:World} {p:Addr} {c:Value} (f:w.cell? p=some c) (e:NoInt c) (v:Value):KM w (w.setCell p v):=
 ⟨by simp,fun q k x d=>by
  rw[World.cell?_setCell_other _ _ _ _ ?_,d];rintro rfl;rw[f] at d;injection d with d;exact absurd d (e _ _)⟩
theorem pN:(Tryz.prog.info? 81).map (fun i=>(i.zero,i.size,i.bytes))=some (some (.agg #[.bool false,.slice none 0 0,.bool false,.slice none 0 0]),4,64):=by kernel_rfl
section
variable {w w':World} {b:Nat} {qs:List Rat} {v:Value} {rows:List (List Value)}
theorem QRow.keep (h:QRow w rows qs) (g:KM w w'):QRow w' rows qs:=fun i q hi=>by
 obtain⟨s,A,l,c,k,d,j,c',e,f⟩:=h i q hi;exact⟨s,A,l,c,k,d,j,c',e,f.keep g⟩
theorem QRow.take (h:QRow w rows qs) (m:Nat):QRow w rows (qs.take m):=fun i q hi=>by
 rw[List.getElem?_take] at hi;split at hi
 ·exact h i q hi
 ·cases hi
theorem QsAt.below (h:QsAt w v qs) (d:Below w.heap.size w w'):QsAt w' v qs:=by
 obtain⟨A,c,hv,f,h⟩:=h;refine⟨A,c,hv,f,?_⟩;rcases h with h|⟨b,rows,e,j,i,g⟩
 ·exact .inl h
 ·exact .inr ⟨b,rows,e,j.below d,i,g.keep (KM.below d)⟩
theorem QsAt.drew (h:QsAt w v qs):QsAt w.drew v qs:=h.below (aH _ _).drew
theorem QsAt.step {A:Option Addr} {l c g:Nat} (h:QsAt w (.slice A l c) qs) (f:oG g w w') (p:∀b,A=some ⟨b,0,none⟩->b≠g):QsAt w' (.slice A l c) qs:=by
 obtain⟨i,j,e,k,h⟩:=h;refine⟨i,j,e,k,?_⟩;simp only[Value.slice.injEq] at e;obtain⟨rfl,rfl,rfl⟩:=e;rcases h with h|⟨b,rows,e,d,n,m⟩
 ·exact .inl h
 ·exact .inr ⟨b,rows,e,⟨(f.2.2.1 b (p b e)).trans d.1,d.2⟩,n,m.keep f.1⟩
theorem QsAt.nil (w:World):QsAt w (.slice none 0 0) []:=⟨none,0,rfl,aE,.inl ⟨rfl,rfl⟩⟩
theorem QsAt.form (h:QsAt w v qs):∃A c,v= .slice A qs.length c∧qs.length<=c:=by
 obtain⟨A,c,hv,d,_⟩:=h;exact⟨A,c,hv,d⟩
theorem QsAt.cut {A:Option Addr} {c l:Nat} (h:QsAt w (.slice A l c) qs) (m:Nat) (g:m<=qs.length):QsAt w (.slice A m c) (qs.take m):=by
 obtain⟨j,k,e,n,h⟩:=h;simp only[Value.slice.injEq] at e;obtain⟨rfl,rfl,rfl⟩:=e;refine⟨A,c,by rw[aZ,Nat.min_eq_left g],by rw[aZ];omega,?_⟩;rcases h with ⟨h,d⟩|⟨b,rows,e,i,p,f⟩
 ·exact .inl ⟨h,by rw[d];simp⟩
 ·exact .inr ⟨b,rows,e,i,by rw[aZ];omega,f.take m⟩
theorem OwnQ.lt (h:OwnQ w b qs):b<w.heap.size:=by
 obtain⟨rows,c,_⟩:=h;exact c.lt
theorem OwnQ.below (h:OwnQ w b qs) (c:Below w.heap.size w w'):OwnQ w' b qs:=by
 obtain⟨rows,f,e,d⟩:=h;exact⟨rows,f.below c,e,d.keep (KM.below c)⟩
theorem OwnQ.drew (h:OwnQ w b qs):OwnQ w.drew b qs:=h.below (aH _ _).drew
theorem OwnQ.step {g:Nat} (h:OwnQ w b qs) (d:oG g w w') (i:b≠g):OwnQ w' b qs:=by
 obtain⟨rows,c,f,e⟩:=h;exact⟨rows,⟨(d.2.2.1 b i).trans c.1,c.2⟩,f,e.keep d.1⟩
theorem OwnQ.nums (h:OwnQ w b qs) (c:Nat) (d:qs.length<=c):QsAt w (.slice (some ⟨b,0,none⟩) qs.length c) qs:=by
 obtain⟨rows,g,f,e⟩:=h;exact⟨_,c,rfl,d,.inr ⟨b,rows,rfl,g,f,e⟩⟩
theorem OwnQ.free (h:OwnQ w b qs) (j:Nat):w.frozen? ⟨b,j,none⟩=false:=by
 obtain⟨rows,c,_⟩:=h;exact c.free j
theorem OwnQ.at_ (h:OwnQ w b qs) {i:Nat} {q:Rat} (hi:qs[i]? =some q):
  ∃s B m d k c j e,R4 w b (i*4) (.bool s) (.slice B m d) (.bool k) (.slice c j e)∧NQ w (.agg #[.bool s,.slice B m d,.bool k,.slice c j e]) q:=by
 obtain⟨rows,g,p,n⟩:=h;obtain⟨s,B,m,d,k,c,j,e,f,l⟩:=n i q hi;exact⟨s,B,m,d,k,c,j,e,⟨g.cell 0 f rfl,g.cell 1 f rfl,g.cell 2 f rfl,g.cell 3 f rfl⟩,l⟩
theorem QsAt.at_ {A:Option Addr} {c l:Nat} (h:QsAt w (.slice A l c) qs) {i:Nat} {q:Rat} (hi:qs[i]? =some q):
  ∃b s B m d p g n j,A=some ⟨b,0,none⟩∧b<w.heap.size∧R4 w b (i*4) (.bool s) (.slice B m d) (.bool p) (.slice g n j)∧NQ w (.agg #[.bool s,.slice B m d,.bool p,.slice g n j]) q:=by
 obtain⟨x,y,e,z,h⟩:=h;simp only[Value.slice.injEq] at e;obtain⟨rfl,rfl,rfl⟩:=e;rcases h with ⟨-,h⟩|⟨b,rows,e,f, -,t⟩
 ·rw[h] at hi;simp at hi
 ·obtain⟨s,B,m,d,p,g,n,j,k,r⟩:=t i q hi;exact⟨b,s,B,m,d,p,g,n,j,e,f.lt,⟨f.cell 0 k rfl,f.cell 1 k rfl,f.cell 2 k rfl,f.cell 3 k rfl⟩,r⟩
theorem OwnQ.stored (h:OwnQ w b qs) {i:Nat} (hi:i<qs.length) {s d:Bool} {A r:Option Addr} {l c t c':Nat} {q:Rat} (hn:NQ w (.agg #[.bool s,.slice A l c,.bool d,.slice r t c']) q):
  let W:=(((w.setCell ⟨b,i*4,none⟩ (.bool s)).setCell ⟨b,i*4+1,none⟩ (.slice A l c)).setCell ⟨b,i*4+2,none⟩ (.bool d)).setCell ⟨b,i*4+3,none⟩ (.slice r t c')
  OwnQ W b (qs.set i q)∧oG b w W:=by
 obtain⟨rows,R,hl,P⟩:=h;obtain⟨s1,E,H,F,x,f,p,k,O,h2⟩:=P i qs[i] (aL hi);have D:i<rows.length:=by omega
 have S:=R.set 0 O (by omega) (.bool s);have L:(rows.set i ([Value.bool s1,.slice E H F,.bool x,.slice f p k].set 0 (.bool s)))[i]? =some [.bool s,.slice E H F,.bool x,.slice f p k]:=by rw[List.getElem?_set_self D];rfl
 have I:=S.set 1 L (by omega) (.slice A l c);rw[List.set_set] at I;have M:(rows.set i ([Value.bool s,.slice E H F,.bool x,.slice f p k].set 1 (.slice A l c)))[i]? =some [.bool s,.slice A l c,.bool x,.slice f p k]:=by rw[List.getElem?_set_self D];rfl
 have J:=I.set 2 M (by omega) (.bool d);rw[List.set_set] at J;have N:(rows.set i ([Value.bool s,.slice A l c,.bool x,.slice f p k].set 2 (.bool d)))[i]? =some [.bool s,.slice A l c,.bool d,.slice f p k]:=by rw[List.getElem?_set_self D];rfl
 have T:=J.set 3 N (by omega) (.slice r t c');rw[List.set_set] at T;have K:=R.cell 0 O rfl;have y:=S.cell 1 L rfl;have z:=I.cell 2 M rfl;have B:=J.cell 3 N rfl;have G:=(((KM.put K (NoInt.bool _) (.bool s)).trans (KM.put y (NoInt.slice _ _ _) (.slice A l c))).trans (KM.put z (NoInt.bool _) (.bool d))).trans (KM.put B (NoInt.slice _ _ _) (.slice r t c'));refine⟨⟨_,T,by simpa using hl,fun j m n=> ?_⟩,G,(((Keep.put K (NoInt.bool _) _).trans (Keep.put y (NoInt.slice _ _ _) _)).trans (Keep.put z (NoInt.bool _) _)).trans (Keep.put B (NoInt.slice _ _ _) _),fun g C=> ?_,by simp,rfl,rfl,rfl⟩
 ·by_cases e:i=j
  ·subst e;rw[List.getElem?_set_self hi] at n;injection n with n;subst n;exact⟨s,A,l,c,d,r,t,c',by rw[List.getElem?_set_self D];rfl,hn.keep G⟩
  ·rw[List.getElem?_set_ne e] at n;obtain⟨y,z,B,U,V,X,Y,Z,k1,k2⟩:=P j m n;exact⟨y,z,B,U,V,X,Y,Z,by rw[List.getElem?_set_ne e];exact k1,k2.keep G⟩
 ·rw[Below.heap_setCell _ ⟨b,i*4+3,none⟩ _ g C,Below.heap_setCell _ ⟨b,i*4+2,none⟩ _ g C,Below.heap_setCell _ ⟨b,i*4+1,none⟩ _ g C,Below.heap_setCell _ ⟨b,i*4,none⟩ _ g C]
theorem OwnQ.made {n:Nat} (h:Rw w b 4 (List.replicate n [.bool false,.slice none 0 0,.bool false,.slice none 0 0]) 81):OwnQ w b (List.replicate n 0):=
 ⟨_,h,by simp,fun i m c=>⟨false,none,0,0,false,none,0,0,by
  have:=(List.getElem?_eq_some_iff.1 c).1;rw[cN] at this;rw[List.getElem?_replicate,if_pos this],by
  have:=List.getElem?_replicate (n:=n) (a:=(0:Rat)) (i:=i);rw[c] at this;split at this
  ·injection this with this;subst this;exact NQ.zero w
  ·cases this⟩⟩
theorem Rw.src {k n:Nat} {t:TypeId} (i:Rw w b k rows t) (d:0<k) (hn:n<=rows.length):Src w (some ⟨b,0,none⟩) (rows.take n).flatten:=by
 have g:∀r∈rows.take n,r.length=k:=fun r h=>i.2 r (List.mem_of_mem_take h);refine .inr ⟨b,0,rfl,fun j u l=> ?_⟩;have p:j<n*k:=by
  have:=(List.getElem?_eq_some_iff.1 l).1;rw[kG g,aZ,Nat.min_eq_left hn] at this;exact this
 have m:j/k<n:=by rw[Nat.div_lt_iff_lt_mul d];exact p
 obtain⟨r,c⟩:∃r,(rows.take n)[j/k]? =some r:=⟨_,aL (by rw[aZ];omega)⟩;have f:=kF g c (Nat.mod_lt j d);have e:j/k*k+j%k=j:=by rw[dD];exact Nat.div_add_mod j k
 rw[e,l] at f;rw[List.getElem?_take,if_pos m] at c;have:=i.cell (j%k) c f.symm;rw[e] at this;rw[aS];exact this
theorem QsAt.srcs {A:Option Addr} {c l:Nat} (h:QsAt w (.slice A l c) qs):
  ∃rows:List (List Value),rows.length=qs.length∧l=qs.length∧(∀r∈rows,r.length=4)∧Src w A rows.flatten∧QRow w rows qs∧∀u∈rows.flatten,u.oneCell'=true:=by
 obtain⟨f,g,e,F,h⟩:=h;simp only[Value.slice.injEq] at e;obtain⟨rfl,rfl,rfl⟩:=e;rcases h with ⟨rfl,rfl⟩|⟨b,rows,rfl,n,C,B⟩
 ·exact⟨[],rfl,rfl,(fun _ h=>by cases h),.inl rfl,(fun i q h=>by simp at h),(fun _ h=>by cases h)⟩
 ·have j:QRow w (rows.take qs.length) qs:=fun i q m=>by
   obtain⟨s,A,l,c,x,f,t,g,d,y⟩:=B i q m;exact⟨s,A,l,c,x,f,t,g,by rw[List.getElem?_take,if_pos (List.getElem?_eq_some_iff.1 m).1];exact d,y⟩
  refine⟨rows.take qs.length,by rw[aZ];omega,rfl,fun r h=>n.2 r (List.mem_of_mem_take h),n.src (by decide) C,j,fun u E=> ?_⟩;obtain⟨r,D,p⟩:=List.mem_flatten.1 E;obtain⟨i,k⟩:=List.mem_iff_getElem?.1 D;have z:=(List.getElem?_eq_some_iff.1 k).1;rw[aZ] at z;obtain⟨s,A,l,c,x,f,t,g,d,_⟩:=j i _ (aL (by omega));rw[k] at d;injection d with d;subst d;simp at p;rcases p with rfl|rfl|rfl|rfl<;>rfl
theorem zV {p n:Nat} (h:w.ownsRow p 81 4 v n rows.flatten) (J:∀r∈rows,r.length=4) (hn:rows.length=n) (z:qs.length=n) (hi:QRow w rows qs):
  QsAt w v qs∧(v= .slice none 0 0∨∃g d,v= .slice (some ⟨g,0,none⟩) n d∧p<=g∧OwnQ w g qs):=by
 rcases h.2 with ⟨rfl,O⟩|⟨g,d,E,rfl,H,I,R,U,K,L⟩
 ·obtain rfl:qs=[]:=bM (by omega);exact⟨QsAt.nil w,.inl rfl⟩
 ·obtain⟨B,P,q,e⟩:=xA 4 d E.toList (by simpa using K);have t:OwnQ w g qs:=by
   refine⟨B,⟨by unfold Bx;rw[I,q],e⟩,by omega,fun i m y=> ?_⟩;obtain⟨s,A,l,c,N,C,M,D,F,G⟩:=hi i m y;refine⟨s,A,l,c,N,C,M,D,?_,G⟩;have S:i<n:=by rw[<-z];exact(List.getElem?_eq_some_iff.1 y).1
   obtain⟨k,f⟩:∃k,B[i]? =some k:=⟨_,aL (by omega)⟩;rw[f];congr 1;have T:=e k (cH f);refine List.ext_getElem? (fun j=> ?_);by_cases x:j<4
   ·rw[<-kF e f x,<-kF J F x,q,<-L,List.getElem?_take,if_pos (by omega)]
   ·rw[eF (by omega),eF (by simp;omega)]
  have:=t.nums d (by omega);rw[z] at this;exact⟨this,.inr ⟨g,d,rfl,H,t⟩⟩
theorem IF (w:World):(w.alloc (.cells #[] 81)).ownsRow w.heap.size 81 4 (.slice (some ⟨w.heap.size,0,none⟩) 0 0) 0 []:=
 ⟨by simp,.inr ⟨w.heap.size,0,#[],rfl,aE,heap_alloc_new w _,aE,by decide,rfl,rfl⟩⟩
end
section
variable {w:World} {ops:Array Oper} {rest:List Oper} {o:Oper} {a:Act} {Q:Exit->Act->World->Prop}
theorem uR (y:o.guard=none) {s x:Operand} (C:o.op= .call { callee:= .builtin .append,args:= #[s,x],argTypes:= #[71,71] })
  (F:a.eval s= .slice (some ⟨w.heap.size,0,none⟩) 0 0) {A:Option Addr} {l c:Nat} {qs:List Rat} (H:a.eval x= .slice A l c) (E:QsAt w (.slice A l c) qs) (I:qs.length<=1073741824)
  (h:∀d w',QsAt w' d qs->(d= .slice none 0 0∨∃g p,d= .slice (some ⟨g,0,none⟩) qs.length p∧w.heap.size<=g∧OwnQ w' g qs)->Below w.heap.size w w'->wpList Tryz.prog ops Q rest (a.put o.dst d) w'):
  wpList Tryz.prog ops Q (o :: rest) a (w.alloc (.cells #[] 81)):=by
 have t:Below w.heap.size w (w.alloc (.cells #[] 81)):=(aH _ _).alloc aE _;obtain⟨rows,n,rfl,m,G,z,D⟩:=E.srcs;refine fE y C 81 _ 4 64 Tryz.underlying71 pN rfl (by decide) w.heap.size (.slice (some ⟨w.heap.size,0,none⟩) 0 0) 0 [] F (IF w) rows.flatten H (by rw[kG m,n]) (G.below t) D (by omega) (by omega) (by simp) ?_;intro d w' j f _;have i:Below w.heap.size w w':=⟨f.os,f.tape,f.output,aG (by simp) f.size,fun k B=>(f.block k (by simp;omega) (fun e=>by simp[Value.ownBlock] at e;omega)).trans (Below.heap_alloc w _ k B)⟩;rw[aS,List.nil_append] at j;obtain⟨q,r⟩:=zV j m n rfl (z.keep (KM.below i));exact h d w' q r i
end
section
variable {a b:World} [u:Up a b]
theorem QsAt.up {v:Value} {qs:List Rat} (h:QsAt a v qs):QsAt b v qs:=h.below u.out
theorem OwnQ.up {g:Nat} {qs:List Rat} (h:OwnQ a g qs):OwnQ b g qs:=h.below u.out
theorem R4.up {g o:Nat} {d e f i:Value} (h:R4 a g o d e f i) (c:g<a.heap.size):R4 b g o d e f i:=
 ⟨(u.out.cell (p:=⟨g,o,none⟩) c).trans h.1,(u.out.cell (p:=⟨g,o+1,none⟩) c).trans h.2.1,(u.out.cell (p:=⟨g,o+2,none⟩) c).trans h.2.2.1,(u.out.cell (p:=⟨g,o+3,none⟩) c).trans h.2.2.2⟩
end
theorem R4.old {w w':World} {B g o:Nat} {e f i j:Value} (h:R4 w g o e f i j) (c:Below B w w') (d:g<B):R4 w' g o e f i j:=
 ⟨(c.cell (p:=⟨g,o,none⟩) d).trans h.1,(c.cell (p:=⟨g,o+1,none⟩) d).trans h.2.1,(c.cell (p:=⟨g,o+2,none⟩) d).trans h.2.2.1,(c.cell (p:=⟨g,o+3,none⟩) d).trans h.2.2.2⟩
def uS (w:World) (v:Value):Prop:=∀g,v.ownBlock=some g->∀cur t f,w.heap[g]? =some (.cells cur t f)->∀y∈cur.toList,NoInt y
def GrowQ (w:World) (c:Nat) (v:Value) (qs:List Rat):Prop:=(∃rows,w.ownsRow c 81 4 v qs.length rows.flatten∧rows.length=qs.length∧(∀r∈rows,r.length=4)∧QRow w rows qs)∧uS w v
theorem GrowQ.nil (w:World) {c:Nat}:GrowQ w c (.slice none 0 0) []:=⟨⟨[],World.ownsRow_nil _ _ _ _,rfl,(fun _ h=>by cases h),(fun i q h=>by simp at h)⟩,fun g h=>by simp[Value.ownBlock] at h⟩
theorem GrowQ.nums {w:World} {c:Nat} {v:Value} {qs:List Rat} (h:GrowQ w c v qs):QsAt w v qs:=by
 obtain⟨⟨rows,d,e,f,g⟩, -⟩:=h;exact(zV d f e rfl g).1
theorem GrowQ.below {w w':World} {l:Nat} {v:Value} {qs:List Rat} (h:GrowQ w l v qs) (k:Below w.heap.size w w'):GrowQ w' l v qs:=by
 obtain⟨⟨rows,j,n,p,q⟩,s⟩:=h;have x:∀g,v.ownBlock=some g->g<w.heap.size:=fun g e=>by
  rcases j.2 with ⟨rfl,_⟩|⟨i,m,d,rfl,_,c,_⟩
  ·simp[Value.ownBlock] at e
  ·simp[Value.ownBlock] at e;subst e;exact(Array.getElem?_eq_some_iff.1 c).1
 refine⟨⟨rows,⟨j.1,?_⟩,n,p,q.keep (KM.below k)⟩,fun g e d t f c=>s g e d t f ((k.block g (x g e)).symm.trans c)⟩;rcases j.2 with h|⟨i,m,d,rfl,r,c,h⟩
 ·exact .inl h
 ·exact .inr ⟨i,m,d,rfl,r,(k.block i (Array.getElem?_eq_some_iff.1 c).1).trans c,h⟩
theorem GrowQ.drew {w:World} {c:Nat} {v:Value} {qs:List Rat} (h:GrowQ w c v qs):GrowQ w.drew c v qs:=h.below (aH _ _).drew
theorem GrowQ.up {a b:World} [u:Up a b] {c:Nat} {v:Value} {qs:List Rat} (h:GrowQ a c v qs):GrowQ b c v qs:=h.below u.out
theorem IG (n:Nat):∀y∈Builtin.zeroCells #[Value.bool false,.slice none 0 0,.bool false,.slice none 0 0] n,NoInt y:=fun y c=>by
 unfold Builtin.zeroCells at c;obtain⟨j,_,rfl⟩:=Array.mem_map.1 c;have d:(#[Value.bool false,.slice none 0 0,.bool false,.slice none 0 0]:Array Value).size=4:=rfl;rw[d];rcases(show j%4=0∨j%4=1∨j%4=2∨j%4=3 by omega) with h|h|h|h<;>rw[h]
 ·exact NoInt.bool _
 ·exact NoInt.slice _ _ _
 ·exact NoInt.bool _
 ·exact NoInt.slice _ _ _
theorem IH (w:World) (U:TypeId) {R:Nat} {v:Value} {qs:List Rat} (hG:GrowQ w R v qs) {g c:Nat}
  {E F:Bool} {l n:Option Addr} {C D s z:Nat} (hB:Bx w g [.bool E,.slice l C s,.bool F,.slice n D z] 81) {q:Rat} (hq:NQ w (.agg #[.bool E,.slice l C s,.bool F,.slice n D z]) q) (hl:qs.length<=1073741824) (hb:R<=w.heap.size):
  ∃V w',(Builtin.append_ #[71,71] U #[v,.slice (some ⟨g,0,none⟩) 1 c]).run Tryz.prog w= .ok V w'∧GrowQ w' R V (qs++[q])∧Below R w w':=by
 obtain⟨⟨rows,M,h2,h3,h4⟩,hN⟩:=hG;obtain⟨i,X,ad,S,ae⟩:=info_parts pN;have Y:∀j u,[Value.bool E,.slice l C s,.bool F,.slice n D z][j]? =some u->w.cell? ((⟨g,0,none⟩:Addr).add j)=some u:=fun j u J=>by
  have:=hB.cell j J;unfold Addr.add;split
  ·rename_i W;subst W;exact this
  ·simpa using this
 have Z:∀u∈[Value.bool E,.slice l C s,.bool F,.slice n D z],NoInt u∧u.oneCell'=true:=fun u J=>by
  simp at J;rcases J with rfl|rfl|rfl|rfl
  ·exact⟨NoInt.bool _,rfl⟩
  ·exact⟨NoInt.slice _ _ _,rfl⟩
  ·exact⟨NoInt.bool _,rfl⟩
  ·exact⟨NoInt.slice _ _ _,rfl⟩
 obtain⟨V,w',H,ho,N,_,au⟩:=run_append_own_at (P:=Tryz.prog) w R 71 U 81 i _ 4 64 Tryz.underlying71 X ad S ae rfl (by decide) v qs.length _ M ⟨g,0,none⟩ 1 c [.bool E,.slice l C s,.bool F,.slice n D z] rfl Y (fun u J=>(Z u J).2) (by unfold maxLen;omega) (by omega) hb
 have ah:KM w w':=⟨N.size,fun p k x T=>by
  obtain⟨b,o,sp⟩:=p;obtain rfl:sp=none:=World.cell?_spot T;by_cases e:v.ownBlock=some b
  ·rcases M.2 with ⟨rfl,_⟩|⟨B,K,A,rfl,_,O,_⟩
   ·simp[Value.ownBlock] at e
   ·have L:B=b:=by simpa [Value.ownBlock] using e
    subst L;rw[cell_of_row w B o A _ (0,0) O,<-Array.getElem?_toList] at T;exact absurd rfl (hN B e A _ _ O _ (cH T) k x)
  ·exact(World.cell?_of_block (N.block b (block_lt_of_cell (a:=⟨b,o,none⟩) T) (fun e'=>e e'.symm))).trans T⟩
 have ai:Below R w w':=⟨N.os,N.tape,N.output,N.size,fun k hk=>N.block k (by omega) (fun e=>by
  rcases M.2 with ⟨rfl,_⟩|⟨B,_,_,rfl,av,_⟩
  ·simp[Value.ownBlock] at e
  ·simp[Value.ownBlock] at e;omega)⟩
 have aj:uS w' V:=by
  have af:∀(ab:List Value) (K m:Nat),(∀y∈ab,NoInt y)->uS (w.drew.alloc (.cells (ab.toArray++[Value.bool E,.slice l C s,.bool F,.slice n D z].toArray++Builtin.zeroCells #[Value.bool false,.slice none 0 0,.bool false,.slice none 0 0] m) 81)) (.slice (some ⟨w.heap.size,0,none⟩) (qs.length+1) K):=fun ab K m hv B e A t f hc=>by
   simp[Value.ownBlock] at e;subst e;have:=heap_alloc_new w.drew (.cells (ab.toArray++[Value.bool E,.slice l C s,.bool F,.slice n D z].toArray++Builtin.zeroCells #[Value.bool false,.slice none 0 0,.bool false,.slice none 0 0] m) 81);have h5:=this.symm.trans hc;simp only[Option.some.injEq,Obj.cells.injEq] at h5;rw[<-h5.1];intro y d;rw[Array.toList_append,Array.toList_append] at d;rcases List.mem_append.1 d with d|d
   ·rcases List.mem_append.1 d with d|d
    ·exact hv y d
    ·exact(Z y d).1
   ·exact IG m y (Array.mem_toList_iff.1 d)
  rcases M.2 with ⟨rfl,W⟩|⟨B,K,A,rfl,ar,O,ax,aw,hs,ht⟩
  ·have I:=run_append_nil (P:=Tryz.prog) w 71 U 81 i _ Tryz.underlying71 X ad ⟨g,0,none⟩ 1 c [.bool E,.slice l C s,.bool F,.slice n D z] (by rw[S];rfl) Y (by decide) (by decide) (by rw[ae];decide);rw[H] at I;injection I with e1 L;subst e1 L;have am:qs.length=0:=by omega
   have:=af [] (grownCap w 1 0 81) (grownCap w 1 0 81-1) (fun _ h=>by cases h);rw[am] at this;exact this
  ·have ac:∀y∈A.toList,NoInt y:=hN B rfl A _ _ O;by_cases an:qs.length+1<=K
   ·have I:=run_append_room (P:=Tryz.prog) w 71 U 81 i Tryz.underlying71 X B qs.length K A O ⟨g,0,none⟩ 1 c [.bool E,.slice l C s,.bool F,.slice n D z] (by rw[S];rfl) Y (fun u J=>(Z u J).2) an (by rw[S,hs];simp;omega);rw[H] at I;injection I with e1 L;subst e1 L;intro g3 e aq t f hc;simp[Value.ownBlock] at e;subst e;have h7:=(setRow_heap w B A _ 81 _ O).symm.trans hc;simp only[Option.some.injEq,Obj.cells.injEq] at h7;rw[<-h7.1];intro y d;have ap:y∈A.toList.take (qs.length*i.size)++[Value.bool E,.slice l C s,.bool F,.slice n D z]++A.toList.drop (qs.length*i.size+4):=d;rcases List.mem_append.1 ap with d|d
    ·rcases List.mem_append.1 d with d|d
     ·exact ac y (List.mem_of_mem_take d)
     ·exact(Z y d).1
    ·exact ac y (List.mem_of_mem_drop d)
   ·have al:∀j y,(A.toList.take (qs.length*4))[j]? =some y->w.cell? ((⟨B,0,none⟩:Addr).add j)=some y:=fun j y G=>by
     have M:w.cell? ⟨B,j,none⟩=some y:=by
      rw[cell_of_row w B j A _ (0,0) O,<-Array.getElem?_toList];rw[List.getElem?_take] at G;split at G
      ·exact G
      ·cases G
     unfold Addr.add;split
     ·rename_i W;subst W;exact M
     ·simpa using M
    have I:=run_append_grow (P:=Tryz.prog) w 71 U 81 i _ Tryz.underlying71 X ad ⟨B,0,none⟩ qs.length K (A.toList.take (qs.length*4)) (by rw[S,aZ];simp;omega) al ⟨g,0,none⟩ 1 c [.bool E,.slice l C s,.bool F,.slice n D z] (by rw[S];rfl) Y (by omega) (by omega) (growslice_fits (by omega) (by rw[ae];omega));rw[H] at I;injection I with e1 L;subst e1 L;exact af _ _ _ (fun y d=>ac y (List.mem_of_mem_take d))
 refine⟨V,w',H,⟨⟨rows++[[.bool E,.slice l C s,.bool F,.slice n D z]],?_,by simp[h2],fun r H=> ?_,fun j x G=> ?_⟩,aj⟩,ai⟩
 ·rw[aY,List.flatten_append];simpa using ho
 ·rcases List.mem_append.1 H with H|H
  ·exact h3 r H
  ·rw[List.mem_singleton.1 H];rfl
 ·rcases Nat.lt_or_ge j qs.length with ag|ag
  ·rw[f8 ag] at G;obtain⟨a1,a2,a3,a4,a5,a6,a7,a8,x1,x2⟩:=h4 j x G;exact⟨a1,a2,a3,a4,a5,a6,a7,a8,by rw[f8 (by omega)];exact x1,x2.keep ah⟩
  ·have ak:=(List.getElem?_eq_some_iff.1 G).1;rw[aY,List.length_singleton] at ak;obtain rfl:j=qs.length:=by omega
   rw[dS aE,Nat.sub_self] at G;have ao:x=q:=by simpa using G.symm
   subst ao;exact⟨E,l,C,s,F,n,D,z,by rw[dS (by omega),h2,Nat.sub_self];rfl,hq.keep ah⟩
theorem II {w:World} {ops:Array Oper} {o:Oper} {a:Act} {K:Act->World->Prop} {Q:Exit->Act->World->Prop} {E:Prop} (B:o.guard=none) {s x:Operand}
  (D:o.op= .call { callee:= .builtin .append,args:= #[s,x],argTypes:= #[71,71] }) {d:Nat} {v:Value} {qs:List Rat} (H:a.eval s=v) (z:GrowQ w d v qs) {g c:Nat} (J:a.eval x= .slice (some ⟨g,0,none⟩) 1 c)
  {n p:Bool} {f i:Option Addr} {l m j k:Nat} (y:Bx w g [.bool n,.slice f l j,.bool p,.slice i m k] 81) {q:Rat} (F:NQ w (.agg #[.bool n,.slice f l j,.bool p,.slice i m k]) q) (C:qs.length<=1073741824) (A:d<=w.heap.size)
  (h:∀e w',GrowQ w' d e (qs++[q])->Below d w w'->K (a.put o.dst e) w'):if Region.wanted o (yielded ops a.tmps)=true then Oper.wp Tryz.prog o a w K Q else E:=by
 have I:Region.wanted o (yielded ops a.tmps)=true:=by simp[Region.wanted,B]
 rw[if_pos I];obtain⟨e,w',G,r,t⟩:=IH w o.type z y F C A (c:=c);unfold Oper.wp execOp;simp only[D,resolve,invoke,builtin,Sem.run_bind,Sem.run_pure,Result.andThen_ok,List.map_toArray,List.map_cons,List.map_nil,H,J,G];exact h e w' r t
abbrev C5 (w:World) (b:Nat) (v0 v1 v2 v3 v4:Value):Prop:=w.cell? ⟨b,0,none⟩=some v0∧w.cell? ⟨b,1,none⟩=some v1∧w.cell? ⟨b,2,none⟩=some v2∧w.cell? ⟨b,3,none⟩=some v3∧w.cell? ⟨b,4,none⟩=some v4
abbrev C6 (w:World) (b:Nat) (v0 v1 v2 v3 v4 a:Value):Prop:=w.cell? ⟨b,0,none⟩=some v0∧w.cell? ⟨b,1,none⟩=some v1∧w.cell? ⟨b,2,none⟩=some v2∧w.cell? ⟨b,3,none⟩=some v3∧w.cell? ⟨b,4,none⟩=some v4∧w.cell? ⟨b,5,none⟩=some a
abbrev C8 (w:World) (b:Nat) (v0 v1 v2 v3 v4 a c d:Value):Prop:=w.cell? ⟨b,0,none⟩=some v0∧w.cell? ⟨b,1,none⟩=some v1∧w.cell? ⟨b,2,none⟩=some v2∧w.cell? ⟨b,3,none⟩=some v3∧w.cell? ⟨b,4,none⟩=some v4∧w.cell? ⟨b,5,none⟩=some a∧w.cell? ⟨b,6,none⟩=some c∧w.cell? ⟨b,7,none⟩=some d
section
variable {w W:World} {b g o B:Nat} {t:TypeId} {v0 v1 v2 v3 v4 u:Value} {cs:List Value}
theorem Bx.k5 (h:Bx w b [v0,v1,v2,v3,v4] t):C5 w b v0 v1 v2 v3 v4:=⟨h.cell 0 rfl,h.cell 1 rfl,h.cell 2 rfl,h.cell 3 rfl,h.cell 4 rfl⟩
theorem Bx.g5 (h:Bx w b [v0,v1,v2,v3,v4] t):C5 w b v0 v1 v2 v3 v4∧Fz w b:=⟨h.k5,h.free⟩
theorem Bx.k6 {v0 v1 v2 v3 v4 a:Value} (h:Bx w b [v0,v1,v2,v3,v4,a] t):C6 w b v0 v1 v2 v3 v4 a:=⟨h.cell 0 rfl,h.cell 1 rfl,h.cell 2 rfl,h.cell 3 rfl,h.cell 4 rfl,h.cell 5 rfl⟩
theorem Bx.g6 {v0 v1 v2 v3 v4 a:Value} (h:Bx w b [v0,v1,v2,v3,v4,a] t):C6 w b v0 v1 v2 v3 v4 a∧Fz w b:=⟨h.k6,h.free⟩
theorem Bx.k8 {v0 v1 v2 v3 v4 a c d:Value} (h:Bx w b [v0,v1,v2,v3,v4,a,c,d] t):C8 w b v0 v1 v2 v3 v4 a c d:=⟨h.cell 0 rfl,h.cell 1 rfl,h.cell 2 rfl,h.cell 3 rfl,h.cell 4 rfl,h.cell 5 rfl,h.cell 6 rfl,h.cell 7 rfl⟩
theorem Bx.g8 {v0 v1 v2 v3 v4 a c d:Value} (h:Bx w b [v0,v1,v2,v3,v4,a,c,d] t):C8 w b v0 v1 v2 v3 v4 a c d∧Fz w b:=⟨h.k8,h.free⟩
theorem NatAt.puti {n:Nat} (h:NatAt w u n) {p:Addr} {c:Int} (a:w.cell? p=some (.int .i64 c)) (v:Value):NatAt (w.setCell p v) u n:=by
 obtain⟨A,f,hv,j,d,q⟩:=h;refine⟨A,f,hv,j,?_,q.mono (by simp)⟩;rcases d with d|⟨b,r,rfl,m,k⟩
 ·exact .inl d
 ·refine .inr ⟨b,r,rfl,by simpa using m,fun i l=> ?_⟩;have e:=k i l;rw[World.cell?_setCell_other _ _ _ _ ?_,e];rintro rfl;rw[e] at a;injection a with a;injection a with a;cases a
theorem Keep.puti {p:Addr} {c:Int} (a:w.cell? p=some (.int .i64 c)) (v:Value):Keep w (w.setCell p v):=fun _ _ h=>h.puti a v
theorem Bx.put5 (h:Bx W b cs t) (D:Below B w W) (c:B<=b) (v0 v1 v2 v3 v4:Value) {e f i j:Value} {k:Int} (E:cs=[e,f,i,j,.int .i64 k]) (hn:(dN (some e)&&(dN (some f)&&(dN (some i)&&dN (some j))))=true):
  ∃a,((((W.setCell ⟨b,0,none⟩ v0).setCell ⟨b,1,none⟩ v1).setCell ⟨b,2,none⟩ v2).setCell ⟨b,3,none⟩ v3).setCell ⟨b,4,none⟩ v4=a∧Bx a b [v0,v1,v2,v3,v4] t∧Below B w a∧Keep W a∧∀{g:Nat} {cs:List Value} {t:TypeId},Bx W g cs t->b≠g->Bx a g cs t:=by
 subst E;simp only[Bool.and_eq_true] at hn;obtain⟨J,rfl,z,m,F,s⟩:=h.put1 D c 0 v0 hn.1;obtain⟨K,rfl,A,n,G,v⟩:=z.put1 m c 1 v1 hn.2.1;obtain⟨L,rfl,C,q,H,x⟩:=A.put1 n c 2 v2 hn.2.2.1;obtain⟨M,rfl,l,r,I,y⟩:=C.put1 q c 3 v3 hn.2.2.2;exact⟨_,rfl,l.set 4 v4,r.setCell (p:=⟨b,4,none⟩) c v4,(((F.trans G).trans H).trans I).trans (Keep.puti (l.cell 4 rfl) v4),fun k d=>(y (x (v (s k d) d) d) d).far 4 v4 d⟩
end
def EndAt (w:World) (v:Value) (i:Int) (x:Rat):Prop:=∃s A k c e a d c',v= .agg #[.bool s,.slice A k c,.bool e,.slice a d c',.int .i64 i]∧RatAt w (.agg #[.bool s,.slice A k c,.bool e,.slice a d c']) x
theorem EndAt.below {w W:World} {v:Value} {i:Int} {x:Rat} (h:EndAt w v i x) (f:Below w.heap.size w W):EndAt W v i x:=by
 obtain⟨s,A,k,c,l,a,j,d,e,h⟩:=h;exact⟨s,A,k,c,l,a,j,d,e,h.below f⟩
theorem EndAt.up {a b:World} [u:Up a b] {v:Value} {i:Int} {x:Rat} (h:EndAt a v i x):EndAt b v i x:=h.below u.out
theorem EndAt.form {w:World} {v:Value} {i:Int} {x:Rat} (h:EndAt w v i x):∃s A k c f a d c',v= .agg #[.bool s,.slice A k c,.bool f,.slice a d c',.int .i64 i]:=by
 obtain⟨s,A,k,c,f,a,d,c',e,h⟩:=h;exact⟨s,A,k,c,f,a,d,c',e⟩
theorem EndAt.rat {w:World} {s:Bool} {A:Option Addr} {k c:Nat} {f:Bool} {a:Option Addr} {d c':Nat} {i:Int} {x:Rat} (h:EndAt w (.agg #[.bool s,.slice A k c,.bool f,.slice a d c',.int .i64 i]) i x):RatAt w (.agg #[.bool s,.slice A k c,.bool f,.slice a d c']) x:=by
 obtain⟨s,A,k,c,f,a,d,c',e,h⟩:=h;simp only[Value.agg.injEq,Array.mk.injEq,List.cons.injEq,Value.bool.injEq,Value.slice.injEq] at e;obtain⟨rfl,⟨rfl,rfl,rfl⟩,rfl,⟨rfl,rfl,rfl⟩, -⟩:=e;exact h
theorem EndAt.of {w:World} {s:Bool} {A:Option Addr} {k c:Nat} {e:Bool} {a:Option Addr} {d c':Nat} {i:Int} {x:Rat} (h:RatAt w (.agg #[.bool s,.slice A k c,.bool e,.slice a d c']) x):EndAt w (.agg #[.bool s,.slice A k c,.bool e,.slice a d c',.int .i64 i]) i x:=⟨_,_,_,_,_,_,_,_,rfl,h⟩
theorem pE (a b:World) [u:Up (a.alloc Z0) b]:Bx b a.heap.size [.bool false,.slice none 0 0] 59∧(C2 b a.heap.size (.bool false) (.slice none 0 0)∧Fz b a.heap.size)∧(∀o:Obj,C2 (b.alloc o) a.heap.size (.bool false) (.slice none 0 0)∧Fz (b.alloc o) a.heap.size)∧a.heap.size≠b.heap.size∧b.heap.size≠a.heap.size:=by
 have D:Bx b a.heap.size [.bool false,.slice none 0 0] 59:=(Bx.newAt a [.bool false,.slice none 0 0] 59 a.heap.size rfl).below u.out;exact⟨D,dd D⟩
theorem pF (a b:World) [u:Up ((a.alloc Z0).alloc Z0) b]:Bx b (a.heap.size+1) [.bool false,.slice none 0 0] 59∧(C2 b (a.heap.size+1) (.bool false) (.slice none 0 0)∧Fz b (a.heap.size+1))∧(∀o:Obj,C2 (b.alloc o) (a.heap.size+1) (.bool false) (.slice none 0 0)∧Fz (b.alloc o) (a.heap.size+1))∧a.heap.size+1≠b.heap.size∧b.heap.size≠a.heap.size+1:=by
 have D:Bx b (a.heap.size+1) [.bool false,.slice none 0 0] 59:=(Bx.newAt (a.alloc Z0) [.bool false,.slice none 0 0] 59 (a.heap.size+1) (World.size_alloc _ _)).below u.out;exact⟨D,dd D⟩
theorem RatAt.int {w:World} {s a:Bool} {u b:Value} {n:Int} (c:IntAt w (.agg #[.bool s,u]) n) (d:IntAt w (.agg #[.bool a,b]) 0):RatAt w (.agg #[.bool s,u,.bool a,b]) (n:Rat):=
 RatAt.of c d rfl (eK.2 rfl)
theorem qT:nl (Int.natAbs 0)<=17592186044416:=by rw[show Int.natAbs 0=0 from rfl,dC];exact Nat.zero_le _
theorem xN (n:Int):bI (n:Rat)=0:=eK.2 rfl
theorem xO (n:Int) (f:Value) (w:World) (hn:IntAt w f n):
  Calls Tryz.prog 72 #[f] w (eP w (n:Rat)):=by
 obtain⟨d,a,c,b,rfl⟩:=hn.form;have h:Bx ((w.alloc (.cells #[.bool d,.slice a c b] 59)).alloc (.cells #[.bool false,.slice none 0 0,.bool false,.slice none 0 0] 66)) (w.heap.size) [.bool d,.slice a c b] 59:=(Bx.newAt w [.bool d,.slice a c b] 59 (w.heap.size) (by simp)).alloc (.cells #[.bool false,.slice none 0 0,.bool false,.slice none 0 0] 66);have R:Bx ((w.alloc (.cells #[.bool d,.slice a c b] 59)).alloc (.cells #[.bool false,.slice none 0 0,.bool false,.slice none 0 0] 66)) (w.heap.size+1) [.bool false,.slice none 0 0,.bool false,.slice none 0 0] 66:=Bx.newAt (w.alloc (.cells #[.bool d,.slice a c b] 59)) [.bool false,.slice none 0 0,.bool false,.slice none 0 0] 66 (w.heap.size+1) (by simp);have g:Below w.heap.size w ((w.alloc (.cells #[.bool d,.slice a c b] 59)).alloc (.cells #[.bool false,.slice none 0 0,.bool false,.slice none 0 0] 66)):=((aH _ _).alloc (by simp) _).alloc (by simp<;>omega) _;go_enter Tryz.func72,Tryz.ntmps72;go_wp2_with fail;have i:=hn.below g;have e:=((aH w.heap.size w).alloc aE (.cells #[.bool d,.slice a c b] 59)).alloc (by simp) (.cells #[.bool d,.slice a c b,.bool false,.slice none 0 0] 66);exact aK (v:= .agg #[.bool d,.slice a c b,.bool false,.slice none 0 0]) (by simp[results,Tryz.results72,go_sem]) rfl ⟨_,rfl,RatAt.int (hn.below e) (IntAt.zero _),e⟩
theorem QA (x y:Int) (vx vy:Value) (w:World) (G:RatAt w vx (x:Rat)) (H:RatAt w vy (y:Rat)) (ab:nl x.natAbs+nl y.natAbs<=17592186044416):
  Calls Tryz.prog 57 #[vx,vy] w (eP w ((x*y:Int):Rat)):=by
 obtain⟨s,A,k,c,U,I,Q,M,rfl⟩:=G.form;obtain⟨t,C,l,e,Z,K,T,O,rfl⟩:=H.form;obtain⟨W,P,a,X,Y,R⟩:=fF w [.bool s,.slice A k c,.bool U,.slice I Q M] 66 [.bool t,.slice C l e,.bool Z,.slice K T O] 66 [.bool false,.slice none 0 0,.bool false,.slice none 0 0] 66;have j:=aa X.g4 (aa Y.g4 R.g4);go_enter Tryz.func57,Tryz.ntmps57;go_wp2_with fail;(try rw[P]);clear P;have f:IntAt W (.agg #[.bool s,.slice A k c]) x:=(G.below a).num;have h:IntAt W (.agg #[.bool U,.slice I Q M]) 0:=by have:=(G.below a).den;rw[xN] at this;exact this
 have g:IntAt W (.agg #[.bool t,.slice C l e]) y:=(H.below a).num;have i:IntAt W (.agg #[.bool Z,.slice K T O]) 0:=by have:=(H.below a).den;rw[xN] at this;exact this
 refine(fD x _ _ f (by omega)).mono ?_;rintro e1 w1 ⟨rfl,p⟩;replace X:=X.below p;replace Y:=Y.below p;replace R:=R.below p;replace j:=aa X.k4 (aa Y.k4 R.g4);replace b:=Keep.below p;replace f:=f.keep b;replace h:=h.keep b;replace g:=g.keep b;replace i:=i.keep b;replace a:=aC a p;by_cases E:x=0
 ·have d:decide (x=0)=true:=by simpa using E
  rw[d];have z:x*y=0:=by rw[E,Int.zero_mul]
  have o:=aB z;clear d z E;go_wp2_with fail;obtain⟨L,m,R,a,b,n⟩:=R.put4 a (by omega) (.bool false) (.slice none 0 0) (.bool false) (.slice none 0 0) rfl rfl;replace X:=n X (by omega);replace Y:=n Y (by omega);rw[m];clear m;replace j:=aa X.k4 (aa Y.k4 R.k4);exact aK (v:= .agg #[.bool false,.slice none 0 0,.bool false,.slice none 0 0]) (by simp[results,Tryz.results57,go_sem,R.k4]) rfl ⟨_,rfl,RatAt.of (IntAt.zero _) (IntAt.zero _) (by rw[o.out];rfl) (by rw[o.out];rfl),a⟩
 ·have d:decide (x=0)=false:=by simpa using E
  rw[d];clear d;go_wp2_with fail;refine(fD y _ _ g (by omega)).mono ?_;rintro e2 w2 ⟨rfl,q⟩;replace X:=X.below q;replace Y:=Y.below q;replace R:=R.below q;replace j:=aa X.k4 (aa Y.k4 R.g4);replace b:=Keep.below q;replace f:=f.keep b;replace h:=h.keep b;replace g:=g.keep b;replace i:=i.keep b;replace a:=aC a q;by_cases F:y=0
  ·have d:decide (y=0)=true:=by simpa using F
   rw[d];have z:x*y=0:=by rw[F,Int.mul_zero]
   have o:=aB z;clear d z F;go_wp2_with fail;obtain⟨L,m,R,a,b,n⟩:=R.put4 a (by omega) (.bool false) (.slice none 0 0) (.bool false) (.slice none 0 0) rfl rfl;replace X:=n X (by omega);replace Y:=n Y (by omega);rw[m];clear m;replace j:=aa X.k4 (aa Y.k4 R.k4);exact aK (v:= .agg #[.bool false,.slice none 0 0,.bool false,.slice none 0 0]) (by simp[results,Tryz.results57,go_sem,R.k4]) rfl ⟨_,rfl,RatAt.of (IntAt.zero _) (IntAt.zero _) (by rw[o.out];rfl) (by rw[o.out];rfl),a⟩
  ·have d:decide (y=0)=false:=by simpa using F
   rw[d];clear d;go_wp2_with fail;refine(fD 0 _ _ h qT).mono ?_;rintro e3 w3 ⟨rfl,r⟩;replace X:=X.below r;replace Y:=Y.below r;replace R:=R.below r;replace j:=aa X.k4 (aa Y.k4 R.g4);replace b:=Keep.below r;replace f:=f.keep b;replace h:=h.keep b;replace g:=g.keep b;replace i:=i.keep b;replace a:=aC a r;have d:decide ((0:Int)=0)=true:=rfl;rw[d];clear d;go_wp2_with fail;refine(fD 0 _ _ i qT).mono ?_;rintro e4 w4 ⟨rfl,u⟩;replace X:=X.below u;replace Y:=Y.below u;replace R:=R.below u;replace j:=aa X.k4 (aa Y.k4 R.g4);replace b:=Keep.below u;replace f:=f.keep b;replace h:=h.keep b;replace g:=g.keep b;replace i:=i.keep b;replace a:=aC a u;have d:decide ((0:Int)=0)=true:=rfl;rw[d];clear d;go_wp2_with fail;refine(iN x y _ _ _ f g ab).mono ?_;rintro e5 w5 ⟨v5,rfl,B,D⟩;obtain⟨V,J,S,N,rfl⟩:=B.form;replace X:=X.below D;replace Y:=Y.below D;replace R:=R.below D;replace j:=aa X.k4 (aa Y.k4 R.g4);replace a:=aC a D;go_wp2_with fail;obtain⟨L,m,R,a,b,n⟩:=R.put4 a (by omega) (.bool V) (.slice J S N) (.bool false) (.slice none 0 0) rfl rfl;replace X:=n X (by omega);replace Y:=n Y (by omega);replace B:=B.keep b;rw[m];clear m;replace j:=aa X.k4 (aa Y.k4 R.k4);exact aK (v:= .agg #[.bool V,.slice J S N,.bool false,.slice none 0 0]) (by simp[results,Tryz.results57,go_sem,R.k4]) rfl ⟨_,rfl,RatAt.int B (IntAt.zero _),a⟩
theorem Q8 (x:Rat) (v:Value) (w:World) (hv:RatAt w v x):Calls Tryz.prog 144 #[v] w (dB w x.num):=by
 obtain⟨d,a,c,b,i,f,h,g,rfl⟩:=hv.form;have e:=((aH w.heap.size w).alloc aE (.cells #[.bool d,.slice a c b,.bool i,.slice f h g] 66)).alloc (by simp) (.cells #[.bool d,.slice a c b] 59);go_enter Tryz.func144,Tryz.ntmps144;go_wp2_with fail;exact aK (v:= .agg #[.bool d,.slice a c b]) (by simp[results,Tryz.results144,go_sem]) rfl ⟨_,rfl,hv.num.below e,e⟩
theorem qS (x:Rat) (v:Value) (w:World) (hv:RatAt w v x) (D:nl x.den<=17592186044416):Calls Tryz.prog 121 #[v] w (dB w (x.den:Int)):=by
 obtain⟨E,y,C,B,s,j,q,l,rfl⟩:=hv.form;have p:=aG (kH x) D;obtain⟨W,u,a,X,R⟩:=dI w [.bool E,.slice y C B,.bool s,.slice j q l] 66 [.bool false,.slice none 0 0] 59;have h:=aa X.g4 R.g2;go_enter Tryz.func121,Tryz.ntmps121;go_wp2_with fail;(try rw[u]);clear u;have b:=(hv.below a).den;refine(fD (bI x) _ _ b p).mono ?_;rintro G J ⟨rfl,i⟩;replace X:=X.below i;replace R:=R.below i;replace h:=aa X.k4 R.g2;replace g:=Keep.below i;replace b:=b.keep g;replace a:=aC a i;by_cases e:x.den=1
 ·have f:decide (bI x=0)=true:=by rw[decide_eq_true_iff,eK];exact e
  have z:Hid ((x.den:Int)=1):=by unfold Hid;omega
  rw[f];clear f e p;go_wp2_with fail;refine(iM 1 _ (by decide) (by decide)).mono ?_;rintro H F ⟨I,rfl,c,o⟩;obtain⟨t,k,r,m,rfl⟩:=c.form;replace X:=X.below o;replace R:=R.below o;replace h:=aa X.k4 R.g2;replace a:=aC a o;go_wp2_with fail;replace c:IntAt F (.agg #[.bool t,.slice k r m]) (x.den:Int):=by rw[z.out];exact c
  obtain⟨A,d,R,a,g,n⟩:=R.put2 a (by omega) (.bool t) (.slice k r m) rfl rfl;replace X:=n X (by omega);replace c:=c.keep g;rw[d];clear d;replace h:=aa X.k4 R.k2;exact aK (v:= .agg #[.bool t,.slice k r m]) (by simp[results,Tryz.results121,go_sem,R.k2]) rfl ⟨_,rfl,c,a⟩
 ·have f:decide (bI x=0)=false:=by rw[decide_eq_false_iff_not,eK];exact e
  rw[f];rw[kZ e] at b;clear f e p;go_wp2_with fail;obtain⟨A,d,R,a,g,n⟩:=R.put2 a (by omega) (.bool s) (.slice j q l) rfl rfl;replace X:=n X (by omega);replace b:=b.keep g;rw[d];clear d;replace h:=aa X.k4 R.k2;exact aK (v:= .agg #[.bool s,.slice j q l]) (by simp[results,Tryz.results121,go_sem,R.k2]) rfl ⟨_,rfl,b,a⟩
theorem RatAt.denN {w:World} {s a:Bool} {u b:Value} {q:Rat} (h:RatAt w (.agg #[.bool s,u,.bool a,b]) q) (c:q.den≠1):IntAt w (.agg #[.bool a,b]) (q.den:Int):=by
 have:=h.den;rwa [kZ c] at this
theorem QB (x y:Rat) (vx vy:Value) (w:World) (u:RatAt w vx x) (B:RatAt w vy y) (z:x.den=1) (D:y.den=1) (K:Nat) (bx:RL K x) (bY:RL K y) (hK:10*K+40<=aI):
  Calls Tryz.prog 91 #[vx,vy] w (eP w (x+y)):=by
 obtain⟨s,A,k,c,V,E,S,I,rfl⟩:=u.form;obtain⟨t,C,l,e,t',G,U,N,rfl⟩:=B.form;unfold aI at hK;have⟨ab,ac⟩:=bx;have⟨ad,ae⟩:=bY;obtain⟨o,p⟩:=EF (y:=y) z;rw[D] at o p;have H:Hid ((x+y).num=x.num+y.num∧bI (x+y)=0):=⟨by rw[o];simp,eK.2 p⟩;have L:bI x=0:=eK.2 z;have M:bI y=0:=eK.2 D;clear o p;obtain⟨W,O,a,X,Y,R⟩:=fF w [.bool s,.slice A k c,.bool V,.slice E S I] 66 [.bool t,.slice C l e,.bool t',.slice G U N] 66 [.bool false,.slice none 0 0,.bool false,.slice none 0 0] 66;have n:=aa X.g4 (aa Y.g4 R.g4);go_enter Tryz.func91,Tryz.ntmps91;go_wp2_with fail;(try rw[O]);clear O;have i:IntAt W (.agg #[.bool s,.slice A k c]) x.num:=(u.below a).num;have h:IntAt W (.agg #[.bool V,.slice E S I]) 0:=by have:=(u.below a).den;rwa [L] at this
 have m:IntAt W (.agg #[.bool t,.slice C l e]) y.num:=(B.below a).num;have j:IntAt W (.agg #[.bool t',.slice G U N]) 0:=by have:=(B.below a).den;rwa [M] at this
 clear L M z D;generalize x.num=xn at *;generalize y.num=yn at *;refine(fD 0 _ _ h qT).mono ?_;rintro o w1 ⟨rfl,d⟩;replace X:=X.below d;replace Y:=Y.below d;replace R:=R.below d;replace n:=aa X.k4 (aa Y.k4 R.g4);replace b:=Keep.below d;replace i:=i.keep b;replace h:=h.keep b;replace m:=m.keep b;replace j:=j.keep b;replace a:=aC a d;have g:decide ((0:Int)=0)=true:=rfl;rw[g];clear g;go_wp2_with fail;refine(fD 0 _ _ j qT).mono ?_;rintro p w2 ⟨rfl,f⟩;replace X:=X.below f;replace Y:=Y.below f;replace R:=R.below f;replace n:=aa X.k4 (aa Y.k4 R.g4);replace b:=Keep.below f;replace i:=i.keep b;replace h:=h.keep b;replace m:=m.keep b;replace j:=j.keep b;replace a:=aC a f;have g:decide ((0:Int)=0)=true:=rfl;rw[g];clear g;go_wp2_with fail;refine(sB xn yn _ _ _ i m (by omega) (by omega)).mono ?_;rintro e5 w5 ⟨v5,rfl,q,r⟩;obtain⟨Z,F,T,J,rfl⟩:=q.form;replace X:=X.below r;replace Y:=Y.below r;replace R:=R.below r;replace n:=aa X.k4 (aa Y.k4 R.g4);replace a:=aC a r;go_wp2_with fail;obtain⟨W6,P,R,a,b,Q⟩:=R.put4 a (by omega) (.bool Z) (.slice F T J) (.bool false) (.slice none 0 0) rfl rfl;replace X:=Q X (by omega);replace Y:=Q Y (by omega);replace q:=q.keep b;rw[P];clear P;replace n:=aa X.k4 (aa Y.k4 R.k4);exact aK (v:= .agg #[.bool Z,.slice F T J,.bool false,.slice none 0 0]) (by simp[results,Tryz.results91,go_sem,R.k4]) rfl ⟨_,rfl,RatAt.of q (IntAt.zero _) H.out.1 H.out.2,a⟩
theorem QC (x y:Rat) (vx vy:Value) (w:World) (J:RatAt w vx x) (M:RatAt w vy y) (L:x.den≠1) (N:y.den=1) (K:Nat) (Z:RL K x) (V:RL K y) (hK:10*K+40<=aI):
  Calls Tryz.prog 91 #[vx,vy] w (eP w (x+y)):=by
 obtain⟨s,A,k,c,B,m,z,n,rfl⟩:=J.form;obtain⟨t,C,l,e,P,G,O,H,rfl⟩:=M.form;unfold aI at hK;have⟨ak,ab⟩:=Z;have⟨af,ag⟩:=V;obtain⟨I,E⟩:=PB (x:=x) N;have U:Hid ((x+y).num=y.num*x.den+x.num∧bI (x+y)=x.den):=⟨I,by rw[kZ (by rw[E];exact L),E]⟩;have dy:bI y=0:=eK.2 N;clear I E;obtain⟨W,eW,b,X,Y,R⟩:=fF w [.bool s,.slice A k c,.bool B,.slice m z n] 66 [.bool t,.slice C l e,.bool P,.slice G O H] 66 [.bool false,.slice none 0 0,.bool false,.slice none 0 0] 66;have h:=aa X.g4 (aa Y.g4 R.g4);go_enter Tryz.func91,Tryz.ntmps91;go_wp2_with fail;(try rw[eW]);clear eW;have f:IntAt W (.agg #[.bool s,.slice A k c]) x.num:=(J.below b).num;have i:IntAt W (.agg #[.bool P,.slice G O H]) 0:=by have:=(M.below b).den;rwa [dy] at this
 have g:IntAt W (.agg #[.bool t,.slice C l e]) y.num:=(M.below b).num;have d:IntAt W (.agg #[.bool B,.slice m z n]) (x.den:Int):=(J.below b).denN L;have ae:decide ((x.den:Int)=0)=false:=by have:=x.den_nz;simpa using this
 have ah:nl (x.den:Int).natAbs<=K:=ab;clear dy L N ag V Z ab;generalize x.num=xn at *;generalize y.num=Q at *;generalize (x.den:Int)=D at *;have T:=aB ae;clear ae;have al:=gL Q D K K af ah;refine(fD D _ _ d (by omega)).mono ?_;rintro I w1 ⟨rfl,o⟩;replace X:=X.below o;replace Y:=Y.below o;replace R:=R.below o;replace h:=aa X.k4 (aa Y.k4 R.g4);replace a:=Keep.below o;replace f:=f.keep a;replace d:=d.keep a;replace g:=g.keep a;replace i:=i.keep a;replace b:=aC b o;rw[T.out];go_wp2_with fail;refine(fD D _ _ d (by omega)).mono ?_;rintro E w2 ⟨rfl,p⟩;replace X:=X.below p;replace Y:=Y.below p;replace R:=R.below p;replace h:=aa X.k4 (aa Y.k4 R.g4);replace a:=Keep.below p;replace f:=f.keep a;replace d:=d.keep a;replace g:=g.keep a;replace i:=i.keep a;replace b:=aC b p;rw[T.out];go_wp2_with fail;refine(fD 0 _ _ i qT).mono ?_;rintro e3 w3 ⟨rfl,q⟩;replace X:=X.below q;replace Y:=Y.below q;replace R:=R.below q;replace h:=aa X.k4 (aa Y.k4 R.g4);replace a:=Keep.below q;replace f:=f.keep a;replace d:=d.keep a;replace g:=g.keep a;replace i:=i.keep a;replace b:=aC b q;have ad:decide ((0:Int)=0)=true:=rfl;rw[ad];clear ad;go_wp2_with fail;replace f:=f.drew;replace g:=g.drew;replace d:=d.drew;replace X:=X.drew;replace Y:=Y.drew;replace R:=R.drew;replace b:=b.drew;replace h:=aa X.k4 (aa Y.k4 R.g4);have ai:w.heap.size+1+1≠w.heap.size:=by omega
 have aj:w.heap.size+1+1≠w.heap.size+1:=by omega
 go_region_held3 (fun w'=>C4 w' w.heap.size (.bool s) (.slice A k c) (.bool B) (.slice m z n)∧C4 w' (w.heap.size+1) (.bool t) (.slice C l e) (.bool P) (.slice G O H))
  (first|(with_reducible exact⟨X.k4,Y.k4⟩)|(refine⟨?_,?_⟩<;>(repeat (first|with_reducible exact X.k4|with_reducible exact Y.k4|with_reducible refine jA ai ?_|with_reducible refine jA aj ?_))))
  (first
   |(go_at_call 110;(with_reducible refine(iN Q D _ _ _ g d (by omega)).mono ?_);rintro e4 w4 ⟨v4,rfl,F,r⟩;obtain⟨s4,A4,k4,c4,rfl⟩:=F.form;replace X:=X.below r;replace Y:=Y.below r;replace R:=R.below r;replace h:=aa X.k4 (aa Y.k4 R.g4);replace a:=Keep.below r;replace f:=f.keep a;replace g:=g.keep a;replace d:=d.keep a;(try replace j:=j.keep a);replace b:=aC b r)
   |(go_at_call 114;(with_reducible refine(sB (Q*D) xn _ _ _ F f (by omega) (by omega)).mono ?_);rintro e5 w5 ⟨v5,rfl,j,u⟩;obtain⟨s5,S,k5,c5,rfl⟩:=j.form;replace X:=X.below u;replace Y:=Y.below u;replace R:=R.below u;replace h:=aa X.k4 (aa Y.k4 R.g4);replace a:=Keep.below u;replace f:=f.keep a;replace g:=g.keep a;replace d:=d.keep a;(try replace F:=F.keep a);replace b:=aC b u))
 all_goals (
  go_wp2_with fail;obtain⟨W6,ac,R,b,a,ff⟩:=R.put4 b (by omega) (.bool s5) (.slice S k5 c5) (.bool B) (.slice m z n) rfl rfl;replace X:=ff X (by omega);replace Y:=ff Y (by omega);replace j:=j.keep a;replace d:=d.keep a;rw[ac];clear ac;replace h:=aa X.k4 (aa Y.k4 R.k4);exact aK (v:= .agg #[.bool s5,.slice S k5 c5,.bool B,.slice m z n]) (by simp[results,Tryz.results91,go_sem,R.k4]) rfl ⟨_,rfl,RatAt.of j d U.out.1 U.out.2,b⟩;)
