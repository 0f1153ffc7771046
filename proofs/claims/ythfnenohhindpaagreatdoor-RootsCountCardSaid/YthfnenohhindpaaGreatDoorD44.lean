/-
  Contracts, laws: RowM, RooF, RooG, RooH, RooI.
-/
import Derived.Test.YthfnenohhindpaaGreatDoorD39
set_option linter.all false
set_option maxHeartbeats 8000000
set_option maxRecDepth 100000
namespace Go.Proofs.YthfnenohhindpaaGreatDoor
open Go.RowKit Sos
def zG (w:World) (v:Value):Prop:=∀g,v.ownBlock=some g->∀cur t f,w.heap[g]? =some (.cells cur t f)->∀y∈cur.toList,NoInt y
def GrowD (w:World) (base:Nat) (e:TypeId) (k:Nat) (v:Value) (rows:List (List Value)):Prop:=w.ownsRow base e k v rows.length rows.flatten∧(∀r∈rows,r.length=k)∧zG w v
section
variable {w w':World} {base:Nat} {e:TypeId} {k:Nat} {v:Value} {rows:List (List Value)}
theorem GrowD.nil:GrowD w base e k (.slice none 0 0) []:=⟨World.ownsRow_nil _ _ _ _,(fun _ h=>by cases h),fun g h=>by simp[Value.ownBlock] at h⟩
theorem GrowD.lt (h:GrowD w base e k v rows):∀g,v.ownBlock=some g->base<=g∧g<w.heap.size:=fun g b=>by
 rcases h.1.2 with ⟨rfl,_⟩|⟨i,f,cur,rfl,c,d,_⟩
 ·simp[Value.ownBlock] at b
 ·simp[Value.ownBlock] at b;subst b;exact⟨c,(Array.getElem?_eq_some_iff.1 d).1⟩
theorem GrowD.kept (h:GrowD w base e k v rows) (l:∀g,v.ownBlock=some g->w'.heap[g]? =w.heap[g]?):GrowD w' base e k v rows:=by
 obtain⟨j,n,q⟩:=h;refine⟨⟨j.1,?_⟩,n,fun g d b t f c=>q g d b t f ((l g d).symm.trans c)⟩;rcases j.2 with h|⟨i,m,b,rfl,p,c,h⟩
 ·exact .inl h
 ·exact .inr ⟨i,m,b,rfl,p,(l i (by simp[Value.ownBlock])).trans c,h⟩
theorem GrowD.below (h:GrowD w base e k v rows) (c:Below w.heap.size w w'):GrowD w' base e k v rows:=h.kept (fun g b=>c.block g (h.lt g b).2)
theorem GrowD.up {a b:World} [u:Up a b] (h:GrowD a base e k v rows):GrowD b base e k v rows:=h.below u.out
theorem GrowD.form (h:GrowD w base e k v rows):∃A c,v= .slice A rows.length c∧rows.length<=c:=by
 rcases h.1.2 with ⟨rfl,b⟩|⟨i,d,g,rfl,j,l,f,_⟩
 ·exact⟨none,0,by rw[b],by rw[b];exact aE⟩
 ·exact⟨_,d,rfl,f⟩
theorem GrowD.at_ {A:Option Addr} {l c:Nat} (h:GrowD w base e k (.slice A l c) rows) {i:Nat} {r:List Value} (hi:rows[i]? =some r):∃b,A=some ⟨b,0,none⟩∧base<=b∧b<w.heap.size∧∀(j:Nat) (u:Value),r[j]? =some u->w.cell? ⟨b,i*k+j,none⟩=some u:=by
 obtain⟨q,g,B⟩:=h;have C:=(List.getElem?_eq_some_iff.1 hi).1;rcases q.2 with ⟨_,z⟩|⟨f,y,p,hv,s,m,D,E,F,x⟩
 ·omega
 ·simp only[Value.slice.injEq] at hv;refine⟨f,hv.1,s,(Array.getElem?_eq_some_iff.1 m).1,fun j u n=> ?_⟩;have t:j<k:=by rw[<-g r (cH hi)];exact(List.getElem?_eq_some_iff.1 n).1
  rw[cell_of_row w f _ p e (0,0) m,<-Array.getElem?_toList];have d:=kF g hi t;rw[n,<-x,List.getElem?_take] at d;split at d
  ·exact d
  ·cases d
end
theorem GX (w:World) (t N e:TypeId) (k O:Nat) (z:Value) (W:Tryz.prog.underlying t=some (.slice e)) (hi:(Tryz.prog.info? e).map (fun i=>(i.zero,i.size,i.bytes))=some (some z,k,O)) (av:z.cells.size=k) (hz:∀n,∀y∈Builtin.zeroCells z.cells n,NoInt y) (hk:0<k) (ai:O<=1024)
  {base:Nat} {v:Value} {rows:List (List Value)} (hG:GrowD w base e k v rows) {g c:Nat} {t':TypeId} {r:List Value} (hB:Bx w g r t') (H:r.length=k) (U:∀u∈r,NoInt u∧u.oneCell'=true) (hl:rows.length<=1073741824) (hb:base<=w.heap.size):
  ∃E w',(Builtin.append_ #[t,t] N #[v,.slice (some ⟨g,0,none⟩) 1 c]).run Tryz.prog w= .ok E w'∧GrowD w' base e k E (rows++[r])∧Keep w w'∧w.grownBy w' v.ownBlock∧(E.ownBlock=v.ownBlock∨E.ownBlock=some w.heap.size):=by
 obtain⟨F,h3,hN⟩:=hG;obtain⟨i,hi,ab,I,ac⟩:=info_parts hi;have ae:(rows.length+1)*O<=140737488355328:=aG (Nat.mul_le_mul (show rows.length+1<=1073741825 by omega) ai) (by decide);have T:∀j u,r[j]? =some u->w.cell? ((⟨g,0,none⟩:Addr).add j)=some u:=fun j u M=>by
  have:=hB.cell j M;unfold Addr.add;split
  ·rename_i K;subst K;exact this
  ·simpa using this
 obtain⟨E,w',V,ho,S,_,ah⟩:=run_append_own_at (P:=Tryz.prog) w base t N e i z k O W hi ab I ac av hk v rows.length _ F ⟨g,0,none⟩ 1 c r (by rw[H,Nat.one_mul]) T (fun u M=>(U u M).2) (by unfold maxLen;omega) ae hb;have am:Keep w w':=fun x n D=>by
  obtain⟨A,c',hv,L,ar,ap⟩:=D;refine⟨A,c',hv,L,?_,ap.mono S.size⟩;rcases ar with h|⟨b,aw,rfl,af,ak⟩
  ·exact .inl h
  ·refine .inr ⟨b,aw,rfl,aU af S.size,fun j G=> ?_⟩;have Z:=ak j G;by_cases R:v.ownBlock=some b
   ·rcases F.2 with ⟨rfl,_⟩|⟨p,q,l,rfl,_,C,_⟩
    ·simp[Value.ownBlock] at R
    ·have B:p=b:=by simpa [Value.ownBlock] using R
     subst B;rw[cell_of_row w p _ l _ (0,0) C,<-Array.getElem?_toList] at Z;exact absurd rfl (hN p R l _ _ C _ (cH Z) _ _)
   ·exact(World.cell?_of_block (S.block b af (fun e'=>R e'.symm))).trans Z
 have al:zG w' E:=by
  have ad:∀(X:List Value) (q m:Nat),(∀y∈X,NoInt y)->zG (w.drew.alloc (.cells (X.toArray++r.toArray++Builtin.zeroCells z.cells m) e)) (.slice (some ⟨w.heap.size,0,none⟩) (rows.length+1) q):=fun X q m hv p J l t f L=>by
   simp[Value.ownBlock] at J;subst J;have:=heap_alloc_new w.drew (.cells (X.toArray++r.toArray++Builtin.zeroCells z.cells m) e);have h5:=this.symm.trans L;simp only[Option.some.injEq,Obj.cells.injEq] at h5;rw[<-h5.1];intro y d;rw[Array.toList_append,Array.toList_append] at d;rcases List.mem_append.1 d with d|d
   ·rcases List.mem_append.1 d with d|d
    ·exact hv y d
    ·exact(U y d).1
   ·exact hz m y (Array.mem_toList_iff.1 d)
  rcases F.2 with ⟨rfl,K⟩|⟨p,q,l,rfl,ay,C,ao,az,hs,a0⟩
  ·have s:=run_append_nil (P:=Tryz.prog) w t N e i z W hi ab ⟨g,0,none⟩ 1 c r (by rw[I,H,Nat.one_mul]) T (by decide) (by decide) (by rw[ac];omega);rw[V] at s;injection s with e1 B;subst e1 B;have:=ad [] (grownCap w 1 0 e) (grownCap w 1 0 e-1) (fun _ h=>by cases h);rw[K] at this;simpa using this
  ·have Y:∀y∈l.toList,NoInt y:=hN p rfl l _ _ C;by_cases ag:rows.length+1<=q
   ·have s:=run_append_room (P:=Tryz.prog) w t N e i W hi p rows.length q l C ⟨g,0,none⟩ 1 c r (by rw[I,H,Nat.one_mul]) T (fun u M=>(U u M).2) ag (by
     rw[I,hs,H];have:=cZ k ag;rw[Nat.add_mul,Nat.one_mul] at this;exact this)
    rw[V] at s;injection s with e1 B;subst e1 B;intro g3 J ax t f L;simp[Value.ownBlock] at J;subst J;have h7:=(setRow_heap w p l _ e _ C).symm.trans L;simp only[Option.some.injEq,Obj.cells.injEq] at h7;rw[<-h7.1];intro y d;have au:y∈l.toList.take (rows.length*i.size)++r++l.toList.drop (rows.length*i.size+r.length):=d;rcases List.mem_append.1 au with d|d
    ·rcases List.mem_append.1 d with d|d
     ·exact Y y (List.mem_of_mem_take d)
     ·exact(U y d).1
    ·exact Y y (List.mem_of_mem_drop d)
   ·have aq:∀j y,(l.toList.take (rows.length*k))[j]? =some y->w.cell? ((⟨p,0,none⟩:Addr).add j)=some y:=fun j y G=>by
     have F:w.cell? ⟨p,j,none⟩=some y:=by
      rw[cell_of_row w p j l _ (0,0) C,<-Array.getElem?_toList];rw[List.getElem?_take] at G;split at G
      ·exact G
      ·cases G
     unfold Addr.add;split
     ·rename_i K;subst K;exact F
     ·simpa using F
    have an:(l.toList.take (rows.length*k)).length=rows.length*i.size:=by
     have aj:l.toList.length=q*k:=hs;rw[I,aZ,aj];exact Nat.min_eq_left (cZ _ ao)
    have s:=run_append_grow (P:=Tryz.prog) w t N e i z W hi ab ⟨p,0,none⟩ rows.length q (l.toList.take (rows.length*k)) an aq ⟨g,0,none⟩ 1 c r (by rw[I,H,Nat.one_mul]) T (by omega) (by omega) (growslice_fits (by omega) (by rw[ac];exact ae));rw[V] at s;injection s with e1 B;subst e1 B;have:=ad (l.toList.take (rows.length*k)) (grownCap w (rows.length+1) q e) (grownCap w (rows.length+1) q e-(rows.length+1)) (fun y d=>Y y (List.mem_of_mem_take d));simpa using this
 refine⟨E,w',V,⟨?_,fun x D=> ?_,al⟩,am,S,ah⟩
 ·rw[aY,List.flatten_append];simpa using ho
 ·rcases List.mem_append.1 D with D|D
  ·exact h3 x D
  ·rw[List.mem_singleton.1 D];exact H
section
variable {ops:Array Oper} {rest:List Oper} {o:Oper} {a:Act} {Q:Exit->Act->World->Prop} {w:World}
theorem VK (D:o.guard=none) {s x:Operand} {t:TypeId} (H:o.op= .call { callee:= .builtin .append,args:= #[s,x],argTypes:= #[t,t] }) (e:TypeId) (k d:Nat) (z:Value) (M:Tryz.prog.underlying t=some (.slice e)) (hi:(Tryz.prog.info? e).map (fun i=>(i.zero,i.size,i.bytes))=some (some z,k,d)) (P:z.cells.size=k) (O:∀n,∀y∈Builtin.zeroCells z.cells n,NoInt y) (E:0<k) (C:d<=1024)
  {base:Nat} {v:Value} {rows:List (List Value)} (L:a.eval s=v) (q:GrowD w base e k v rows) {g c:Nat} {R:TypeId} {r:List Value} (N:a.eval x= .slice (some ⟨g,0,none⟩) 1 c) (p:Bx w g r R) (I:r.length=k) (G:∀u∈r,NoInt u∧u.oneCell'=true) (F:rows.length<=1073741824) (B:base<=w.heap.size)
  (h:∀b w',GrowD w' base e k b (rows++[r])->Keep w w'->w.grownBy w' v.ownBlock->(b.ownBlock=v.ownBlock∨b.ownBlock=some w.heap.size)->wpList Tryz.prog ops Q rest (a.put o.dst b) w'):
  wpList Tryz.prog ops Q (o :: rest) a w:=by
 obtain⟨b,w',J,f,j,l,m⟩:=GX w t o.type e k d z M hi P O E C q p I G F B (c:=c);refine wpList_plain D fun K A=> ?_;unfold Oper.wp execOp;simp only[H,resolve,invoke,builtin,Sem.run_bind,Sem.run_pure,Result.andThen_ok,List.map_toArray,List.map_cons,List.map_nil,L,N,J];exact A _ _ (h b w' f j l m)
theorem GY {K:Act->World->Prop} {E:Prop} (C:o.guard=none) {s x:Operand} {t:TypeId} (H:o.op= .call { callee:= .builtin .append,args:= #[s,x],argTypes:= #[t,t] }) (e:TypeId) (k d:Nat) (z:Value) (M:Tryz.prog.underlying t=some (.slice e)) (hi:(Tryz.prog.info? e).map (fun i=>(i.zero,i.size,i.bytes))=some (some z,k,d)) (R:z.cells.size=k) (P:∀n,∀y∈Builtin.zeroCells z.cells n,NoInt y) (D:0<k) (B:d<=1024)
  {base:Nat} {v:Value} {rows:List (List Value)} (L:a.eval s=v) (q:GrowD w base e k v rows) {g c:Nat} {S:TypeId} {r:List Value} (O:a.eval x= .slice (some ⟨g,0,none⟩) 1 c) (p:Bx w g r S) (I:r.length=k) (G:∀u∈r,NoInt u∧u.oneCell'=true) (F:rows.length<=1073741824) (A:base<=w.heap.size)
  (h:∀b w',GrowD w' base e k b (rows++[r])->Keep w w'->w.grownBy w' v.ownBlock->(b.ownBlock=v.ownBlock∨b.ownBlock=some w.heap.size)->K (a.put o.dst b) w'):if Region.wanted o (yielded ops a.tmps)=true then Oper.wp Tryz.prog o a w K Q else E:=by
 have N:Region.wanted o (yielded ops a.tmps)=true:=by simp[Region.wanted,C]
 rw[if_pos N];obtain⟨b,w',J,f,j,l,m⟩:=GX w t o.type e k d z M hi R P D B q p I G F A (c:=c);unfold Oper.wp execOp;simp only[H,resolve,invoke,builtin,Sem.run_bind,Sem.run_pure,Result.andThen_ok,List.map_toArray,List.map_cons,List.map_nil,L,O,J];exact h b w' f j l m
end
theorem GrowD.left {w w':World} {base:Nat} {e:TypeId} {k:Nat} {v:Value} {rows:List (List Value)} (h:GrowD w base e k v rows) (b:w.grownBy w' v.ownBlock) (c:base<=w.heap.size):Below base w w':=⟨b.os,b.tape,b.output,b.size,fun k d=>b.block k (by omega) (fun e=>by have:=(h.lt k e.symm).1;omega)⟩
theorem VB (x y:Rat):(x+y)*(((1:Int):Rat)/((2:Int):Rat))=(x+y)/2:=by
 have a:((1:Int):Rat)=1:=rfl;have c:((2:Int):Rat)=2:=rfl;rw[a,c];grind
def SpanAt (w:World) (v:Value) (x y:Rat):Prop:=∃o a k f p c l h q d m i r e n j,v= .agg #[.bool o,.slice a k f,.bool p,.slice c l h,.bool q,.slice d m i,.bool r,.slice e n j]∧RatAt w (.agg #[.bool o,.slice a k f,.bool p,.slice c l h]) x∧RatAt w (.agg #[.bool q,.slice d m i,.bool r,.slice e n j]) y
def rH (K:Nat) (D:Rat->Rat->Prop):Prop:=∀x y,D x y->RL K x->RL K y->∀W u v,Glob W->RatAt W u x->RatAt W v y->Calls Tryz.prog 91 #[u,v] W (eP W (x+y))
theorem VD {K:Nat} (d:10*K+40<=aI):rH K uK:=fun x y e f i W u v c h a=>EK x y u v W c h a e.2 K f i d
theorem VE (D:Rat->Rat->Prop) (x y:Rat) (v:Value) (w:World) (a:Glob w) (hv:SpanAt w v x y) (K:Nat) (q:RL K x) (p:RL K y) (h1:1<=K) (af:K<=1073741824) (H:rH K D) (I:D x y):
  Calls Tryz.prog 142 #[v] w (eP w ((x+y)/2)):=by
 obtain⟨V,i,M,r,Y,j,N,s,Z,k,O,t,s4,l,P,A,rfl,hx,hy⟩:=hv;have J:=fun W a h d=>H x y I q p W (.agg #[.bool V,.slice i M r,.bool Y,.slice j N s]) (.agg #[.bool Z,.slice k O t,.bool s4,.slice l P A]) a h d;clear H I;have T:nl (1:Int).natAbs<=1:=bW (by decide);have U:nl (2:Int).natAbs<=1:=bW (by decide);have L:=fun W u v a h d=>tF 1 2 u v W a h d 1 T U (by unfold aI;decide);have f:=fun W u v a h d=>xM (x+y) (((1:Int):Rat)/((2:Int):Rat)) u v W a h d (2*K+2) (bU (xE q p) (by omega)) (bU (jC T U (jX 1)) (by omega)) (by unfold aI;omega);rw[VB] at f;unfold eP at J L f;unfold eP;generalize (x+y)/2=m at *;generalize x+y=z at *;generalize ((1:Int):Rat)/((2:Int):Rat)=ag at *;obtain⟨W,F,c,X,R⟩:=dI w [.bool V,.slice i M r,.bool Y,.slice j N s,.bool Z,.slice k O t,.bool s4,.slice l P A] 69 [.bool false,.slice none 0 0,.bool false,.slice none 0 0] 66;have cM:=aa X.g8 R.g4;go_enter Tryz.func142,Tryz.ntmps142;go_wp2_with fail;(try rw[F]);clear F;refine(J _ (a.below c) (hx.below c) (hy.below c)).mono ?_;rintro e5 w5 ⟨v5,rfl,h5,ab⟩;have:=St.mk ab;go_wp2_with fail;refine(iM 1 _ (by decide) (by decide)).mono ?_;rintro E w6 ⟨v6,rfl,h6,e⟩;have:=St.mk e;go_wp2_with fail;refine(iM 2 _ (by decide) (by decide)).mono ?_;rintro e7 w7 ⟨v7,rfl,h7,ac⟩;have:=St.mk ac;go_wp2_with fail;refine(L _ _ _ (a.below c).up h6.up h7).mono ?_;rintro e8 w8 ⟨v8,rfl,h8,ad⟩;have:=St.mk ad;go_wp2_with fail;refine(f _ _ _ (a.below c).up h5.up h8).mono ?_;rintro e9 w9 ⟨v9,rfl,G,ae⟩;obtain⟨s5,n,Q,B,s6,o,S,C,rfl⟩:=G.form;have:=St.mk ae;replace R:=R.up (b:=w9);have cR:=R.g4;go_wp2_with fail;obtain⟨W6,E,R6,e,hk,ff⟩:=R.put4 (eG (b:=w9) c) (by omega) (.bool s5) (.slice n Q B) (.bool s6) (.slice o S C) rfl rfl;rw[E];exact aK (v:= .agg #[.bool s5,.slice n Q B,.bool s6,.slice o S C]) (by simp[results,Tryz.results142,go_sem,R6.k4]) rfl ⟨_,rfl,G.keep hk,e⟩
theorem VF (x y:Rat) (v:Value) (w:World) (a:Glob w) (hv:SpanAt w v x y) (K:Nat) (S:RL K x) (Q:RL K y) (L:K<=1073741824):
  Calls Tryz.prog 39 #[v] w fun e w'=>e= .returned (.agg #[.string ⟨(bD x).toArray⟩,.string ⟨(bD y).toArray⟩])∧Below w.heap.size w w':=by
 obtain⟨A,i,s,m,B,j,t,n,C,k,u,o,D,l,z,p,rfl,q,r⟩:=hv;have U:=fun W a h=>tH x (.agg #[.bool A,.slice i s m,.bool B,.slice j t n]) W a h K S L;have V:=fun W a h=>tH y (.agg #[.bool C,.slice k u o,.bool D,.slice l z p]) W a h K Q L;generalize (bD x).toArray=N at *;generalize (bD y).toArray=O at *;obtain⟨W,I,c,X,R⟩:=dI w [.bool A,.slice i s m,.bool B,.slice j t n,.bool C,.slice k u o,.bool D,.slice l z p] 69 [.string ⟨#[]⟩,.string ⟨#[]⟩] 24;have cM:=aa X.g8 R.g2;go_enter Tryz.func39,Tryz.ntmps39;go_wp2_with fail;(try rw[I]);clear I;replace q:=q.below c;replace r:=r.below c;have M:w.heap.size+1≠w.heap.size:=by omega
 go_region_held3 (fun w'=>C8 w' w.heap.size (.bool A) (.slice i s m) (.bool B) (.slice j t n) (.bool C) (.slice k u o) (.bool D) (.slice l z p)) (first|(with_reducible exact X.up.k8)|(with_reducible exact((G.far 0 _ M).far 1 _ M).k8))
  (first
   |(go_at_call 63;first|(with_reducible refine(U _ (a.below c).up q.up).mono ?_;rintro e5 E ⟨rfl,Y⟩;have:=St.mk Y;have d:=R.up (b:=E);have G:=X.up (b:=E);have T:=d.g2;have J:=eG (b:=E) c)|(with_reducible refine(V _ (a.below c).up r.up).mono ?_;rintro H F ⟨rfl,f⟩;have:=St.mk f;have d:=R.up (b:=F);have G:=X.up (b:=F);have T:=d.g2;have J:=eG (b:=F) c)))
 all_goals (
  go_wp2_with fail;obtain⟨Z,H,P,f,hk,ff⟩:=d.put2 J (by omega) (.string ⟨N⟩) (.string ⟨O⟩) rfl rfl;rw[H];exact aK (v:= .agg #[.string ⟨N⟩,.string ⟨O⟩]) (by simp[results,Tryz.results39,go_sem,P.k2]) rfl ⟨rfl,by first|exact f|exact f.drew⟩)
def PoAt (w:World) (v:Value) (x:Rat) (n:Int) (z:Bool):Prop:=∃i a f d j c h e,v= .agg #[.bool i,.slice a f d,.bool j,.slice c h e,.int .i64 n,.bool z]∧RatAt w (.agg #[.bool i,.slice a f d,.bool j,.slice c h e]) x
theorem Bx.put6 {w W:World} {b B:Nat} {cs:List Value} {t:TypeId} (h:Bx W b cs t) (H:Below B w W) (a:B<=b) (v0 v1 v2 v3 v4 v5:Value) {e f i j l:Value} {k:Int} (I:cs=[e,f,i,j,.int .i64 k,l]) (hn:(dN (some e)&&(dN (some f)&&(dN (some i)&&(dN (some j)&&dN (some l)))))=true):
  ∃d,(((((W.setCell ⟨b,0,none⟩ v0).setCell ⟨b,1,none⟩ v1).setCell ⟨b,2,none⟩ v2).setCell ⟨b,3,none⟩ v3).setCell ⟨b,4,none⟩ v4).setCell ⟨b,5,none⟩ v5=d∧Bx d b [v0,v1,v2,v3,v4,v5] t∧Below B w d∧Keep W d∧∀{g:Nat} {cs:List Value} {t:TypeId},Bx W g cs t->b≠g->Bx d g cs t:=by
 subst I;simp only[Bool.and_eq_true] at hn;obtain⟨P,rfl,C,n,J,v⟩:=h.put1 H a 0 v0 hn.1;obtain⟨Q,rfl,D,o,K,x⟩:=C.put1 n a 1 v1 hn.2.1;obtain⟨R,rfl,E,q,L,y⟩:=D.put1 o a 2 v2 hn.2.2.1;obtain⟨S,rfl,m,r,M,z⟩:=E.put1 q a 3 v3 hn.2.2.2.1;have s:=r.setCell (p:=⟨b,4,none⟩) a v4;have N:=Keep.puti (m.cell 4 rfl) v4;have F:=m.set 4 v4;obtain⟨T,rfl,G,u,O,A⟩:=F.put1 s a 5 v5 hn.2.2.2.2;exact⟨_,rfl,G,u,((((J.trans K).trans L).trans M).trans N).trans O,fun k c=>A ((z (y (x (v k c) c) c) c).far 4 v4 c) c⟩
section
variable {w:World} {b g:Nat} {v0 v1 v2 v3 v4 v5:Value}
theorem oE (a:b≠g) {o:Nat} {u:Value} (h:w.cell? ⟨g,o,none⟩=some u):((((((w.setCell ⟨b,0,none⟩ v0).setCell ⟨b,1,none⟩ v1).setCell ⟨b,2,none⟩ v2).setCell ⟨b,3,none⟩ v3).setCell ⟨b,4,none⟩ v4).setCell ⟨b,5,none⟩ v5).cell? ⟨g,o,none⟩=some u:=by
 exact(aT _ _ _ _ _ _ a).trans ((aT _ _ _ _ _ _ a).trans ((aT _ _ _ _ _ _ a).trans ((aT _ _ _ _ _ _ a).trans ((aT _ _ _ _ _ _ a).trans ((aT _ _ _ _ _ _ a).trans h)))))
theorem VG (a:b≠g) {u0 u1 u2 u3:Value} (h:C4 w g u0 u1 u2 u3):C4 ((((((w.setCell ⟨b,0,none⟩ v0).setCell ⟨b,1,none⟩ v1).setCell ⟨b,2,none⟩ v2).setCell ⟨b,3,none⟩ v3).setCell ⟨b,4,none⟩ v4).setCell ⟨b,5,none⟩ v5) g u0 u1 u2 u3:=⟨oE a h.1,oE a h.2.1,oE a h.2.2.1,oE a h.2.2.2⟩
theorem VH (a:b≠g) {u0 u1:Value} (h:C2 w g u0 u1):C2 ((((((w.setCell ⟨b,0,none⟩ v0).setCell ⟨b,1,none⟩ v1).setCell ⟨b,2,none⟩ v2).setCell ⟨b,3,none⟩ v3).setCell ⟨b,4,none⟩ v4).setCell ⟨b,5,none⟩ v5) g u0 u1:=⟨oE a h.1,oE a h.2⟩
end
theorem VI (s:List Int) (x:Rat):decide (eT s x.num x.den=0)=decide (bJ s 0 x=0):=by
 unfold bJ;rw[if_pos rfl];exact decide_eq_decide.2 (by rw[Int.sign_eq_zero_iff_zero])
theorem VJ (s:List Int) (c:List (List Int)) (B E:Nat) (x:Rat) (vc vr vx:Value) (w:World) (H:Bx w E [vc,vr] 138) (hv:WsAt w B 56 vc (s :: c)) (y:RatAt w vx x) (am:(s :: c).length<=1024) (K:Nat) (J:∀a∈s :: c,a≠[]∧a.length<=65∧∀n∈a,nl n.natAbs<=K) (C:RL K x) (ab:140*K+10<=17592186044416):
  Calls Tryz.prog 85 #[.pointer (some ⟨E,0,none⟩),vx] w fun e w'=>∃v',e= .returned v'∧PoAt w' v' x (cC 0 ((s :: c).map (fun a=>bJ a 0 x)):Nat) (decide (bJ s 0 x=0))∧Below w.heap.size w w':=by
 obtain⟨r,d,o,k,t,f,q,m,rfl⟩:=y.form;obtain⟨A,Q,rfl,hc⟩:=hv.form;obtain⟨j,u0,rfl,ad,hu,ag⟩:=hv.at_ (i:=0) (l:=s) rfl;obtain⟨N,P,rfl,ao⟩:=ag.form;have ap:(0:Int)<((s :: c).length:Int):=by rw[List.length_cons];omega
 have z:=J s (List.mem_cons_self ..);have ae:=fun W h G=>xJ (s :: c) B 0 x (.slice (some ⟨j,0,none⟩) (s :: c).length Q) (.agg #[.bool r,.slice d o k,.bool t,.slice f q m,.int .i64 0]) W h G (by decide) am K J C ab;have ac:=fun W h G=>EZ s x (.slice N s.length P) (.agg #[.bool r,.slice d o k,.bool t,.slice f q m]) W h G K z.2.2 C z.2.1 ab;have O:=xY (ns:=s) (a:=x.num) (b:=x.den) (T:=BN^K) (fun n h=>mD (z.2.2 n h)) (mD C.1) (mD C.2);have ai:nl (eT s x.num x.den).natAbs<=K*65+1:=by
  refine bW (Nat.lt_of_le_of_lt O.1 (aU (xZ (by omega)).1 (cE (by decide) ?_)));have:=dL K z.2.1;omega
 have af:=fun W u h=>fD (eT s x.num x.den) u W h (by omega);rw[VI] at af;have an:=H.lt;unfold dK at ae;unfold dB at ac;generalize (cC 0 ((s :: c).map (fun a=>bJ a 0 x)):Nat)=V at *;generalize decide (bJ s 0 x=0)=Z at *;generalize eT s x.num x.den=ar at *;clear J z O ai C;have aq:0<(s :: c).length:=by rw[List.length_cons];omega
 generalize (s :: c).length=n at *;obtain⟨W,U,I,X,R⟩:=dI w [.bool r,.slice d o k,.bool t,.slice f q m] 66 [.bool false,.slice none 0 0,.bool false,.slice none 0 0,.int .i64 0,.bool false] 141;have cM:=aa X.g4 R.g6;go_enter Tryz.func85,Tryz.ntmps85;go_wp2_with fail;(try rw[U]);clear U;have:=St.mk I;have n1:w.heap.size+1≠w.heap.size:=by omega
 have n2:w.heap.size+1≠E:=by omega
 have n3:w.heap.size+1≠j:=by omega
 go_region_held3 (fun w'=>C4 w' w.heap.size (.bool r) (.slice d o k) (.bool t) (.slice f q m)∧C2 w' E (.slice (some ⟨j,0,none⟩) n Q) vr∧w'.cell? ⟨j,0,none⟩=some (.slice N s.length P))
  (first
   |(with_reducible exact⟨X.up.k4,H.up.k2,((Up.out (a:=w)).cell (p:=⟨j,0,none⟩) ad).trans hu⟩)
   |(with_reducible exact⟨VG n1 X.up.k4,VH n2 H.up.k2,oE n3 (((Up.out (a:=w)).cell (p:=⟨j,0,none⟩) ad).trans hu)⟩))
  (first
   |(go_at_call 127;(with_reducible refine(ae _ hv.up (EndAt.of y.up)).mono ?_);rintro e5 L ⟨rfl,ak⟩;have:=St.mk ak;have D:=R.up (b:=L);have aj:=D.g6;have Y:=eG (b:=L) I;have ah:=y.up (b:=L))
   |(go_at_call 75;(with_reducible refine(ac _ ag.up y.up).mono ?_);rintro S w6 ⟨v6,rfl,h6,F⟩;have:=St.mk F)
   |(go_at_call 76;(with_reducible refine(af _ _ h6.up).mono ?_);rintro e7 M ⟨rfl,al⟩;have:=St.mk al;have D:=R.up (b:=M);have aj:=D.g6;have Y:=eG (b:=M) I;have ah:=y.up (b:=M)))
 all_goals (
  go_wp2_with fail;obtain⟨W6,S,R6,F,hk,ff⟩:=D.put6 Y (by omega) (.bool r) (.slice d o k) (.bool t) (.slice f q m) (.int .i64 (V:Int)) (.bool Z) rfl rfl;rw[S];exact aK (v:= .agg #[.bool r,.slice d o k,.bool t,.slice f q m,.int .i64 (V:Int),.bool Z]) (by simp[results,Tryz.results85,go_sem,R6.k6]) rfl ⟨_,rfl,⟨_,_,_,_,_,_,_,_,rfl,ah.keep hk⟩,by first|exact F|exact F.drew⟩)
structure Fr (gb:Nat) (v:Value) (w w':World):Prop where
 below:Below gb w w'
 keep:Keep w w'
 block:∀k,gb<k->k<w.heap.size->v.ownBlock≠some k->w'.heap[k]? =w.heap[k]?
def OwnTo (w:World) (v v':Value):Prop:=∀g,v'.ownBlock=some g->v.ownBlock=some g∨w.heap.size<=g
theorem Fr.of {a:Nat} {v:Value} {w w':World} (h:Below w.heap.size w w') (b:a<=w.heap.size):Fr a v w w':=⟨h.mono b,Keep.below h,fun k _ c _=>h.block k c⟩
theorem Fr.trans {a:Nat} {v i:Value} {w w1 j:World} (h:Fr a v w w1) (b:Fr a i w1 j) (l:OwnTo w v i):Fr a v w j:=
 ⟨h.below.trans b.below,h.keep.trans b.keep,fun k c d f=>(b.block k c (aU d h.below.size) (fun e=>by
  rcases l k e with g|g
  ·exact f g
  ·omega)).trans (h.block k c d f)⟩
theorem OwnTo.trans {w w1:World} {v b c:Value} (h:OwnTo w v b) (d:OwnTo w1 b c) (f:w.heap.size<=w1.heap.size):OwnTo w v c:=fun g e=>by
 rcases d g e with a|a
 ·exact h g a
 ·exact .inr (aG f a)
theorem Bx.fr {a g:Nat} {v:Value} {w w':World} {cs:List Value} {t:TypeId} (h:Bx w g cs t) (b:Fr a v w w') (c:a<g) (hv:v.ownBlock≠some g):Bx w' g cs t:=(b.block g c h.lt hv).trans h
def SpRow (w:World) (rows:List (List Value)) (l:List (Rat×Rat)):Prop:=rows.length=l.length∧∀(i:Nat) (p:Rat×Rat),l[i]? =some p->∃q a k f r b m g s c n h t d o j,rows[i]? =some [Value.bool q,.slice a k f,.bool r,.slice b m g,.bool s,.slice c n h,.bool t,.slice d o j]∧RatAt w (.agg #[.bool q,.slice a k f,.bool r,.slice b m g]) p.1∧RatAt w (.agg #[.bool s,.slice c n h,.bool t,.slice d o j]) p.2
theorem SpRow.keep {w w':World} {rows:List (List Value)} {l:List (Rat×Rat)} (h:SpRow w rows l) (a:Keep w w'):SpRow w' rows l:=⟨h.1,fun i p q=>by
 obtain⟨v,b,r,g,y,c,s,j,z,d,t,k,A,f,u,m,e,n,o⟩:=h.2 i p q;exact⟨v,b,r,g,y,c,s,j,z,d,t,k,A,f,u,m,e,n.keep a,o.keep a⟩⟩
def RowSp (w:World) (a:Nat) (v:Value) (l:List (Rat×Rat)):Prop:=∃rows,GrowD w a 69 8 v rows∧SpRow w rows l
theorem RowSp.below {w w':World} {a:Nat} {v:Value} {l:List (Rat×Rat)} (h:RowSp w a v l) (b:Below w.heap.size w w'):RowSp w' a v l:=by
 obtain⟨f,c,d⟩:=h;exact⟨f,c.below b,d.keep (Keep.below b)⟩
theorem RowSp.lt {w:World} {a:Nat} {v:Value} {l:List (Rat×Rat)} (h:RowSp w a v l):∀g,v.ownBlock=some g->a<=g∧g<w.heap.size:=by
 obtain⟨d,b,c⟩:=h;exact b.lt
theorem RowSp.nil (w:World) (a:Nat):RowSp w a (.slice none 0 0) []:=⟨[],GrowD.nil,rfl,fun i p h=>by simp at h⟩
theorem RowSp.form {w:World} {a:Nat} {v:Value} {l:List (Rat×Rat)} (h:RowSp w a v l):∃A c,v= .slice A l.length c∧l.length<=c:=by
 obtain⟨f,b,d⟩:=h;rw[<-d.1];exact b.form
theorem GT:(Tryz.prog.info? 69).map (fun i=>(i.zero,i.size,i.bytes))=some (some (.agg #[.bool false,.slice none 0 0,.bool false,.slice none 0 0,.bool false,.slice none 0 0,.bool false,.slice none 0 0]),8,128):=by kernel_rfl
theorem GU (n:Nat):∀y∈Builtin.zeroCells (Value.agg #[.bool false,.slice none 0 0,.bool false,.slice none 0 0,.bool false,.slice none 0 0,.bool false,.slice none 0 0]).cells n,NoInt y:=fun y b=>by
 unfold Builtin.zeroCells at b;obtain⟨j,_,rfl⟩:=Array.mem_map.1 b;have a:(Value.agg #[.bool false,.slice none 0 0,.bool false,.slice none 0 0,.bool false,.slice none 0 0,.bool false,.slice none 0 0]).cells= #[Value.bool false,.slice none 0 0,.bool false,.slice none 0 0,.bool false,.slice none 0 0,.bool false,.slice none 0 0]:=rfl;rw[a];have a:(#[Value.bool false,.slice none 0 0,.bool false,.slice none 0 0,.bool false,.slice none 0 0,.bool false,.slice none 0 0]:Array Value).size=8:=rfl;rw[a];rcases(show j%8=0∨j%8=1∨j%8=2∨j%8=3∨j%8=4∨j%8=5∨j%8=6∨j%8=7 by omega) with h|h|h|h|h|h|h|h<;>rw[h]
 ·exact NoInt.bool _
 ·exact NoInt.slice _ _ _
 ·exact NoInt.bool _
 ·exact NoInt.slice _ _ _
 ·exact NoInt.bool _
 ·exact NoInt.slice _ _ _
 ·exact NoInt.bool _
 ·exact NoInt.slice _ _ _
theorem Bx.grown {w w':World} {g:Nat} {a:Option Nat} {cs:List Value} {t:TypeId} (h:Bx w g cs t) (b:w.grownBy w' a) (c:a≠some g):Bx w' g cs t:=(b.block g h.lt (fun e=>c e.symm)).trans h
theorem GV {a:Nat} {w W d:World} {vc vr b:Value} {rows:List (List Value)} {q:List (Rat×Rat)} {x y:Rat} {Q R S T:Bool} {s t u v:Option Addr} {L M N O B C E F:Nat}
  (l:Below w.heap.size w W) (ah:a<w.heap.size) (P:Bx W a [vc,vr] 138) (ag:∃A k c,vr= .slice A k c) (hG:GrowD W (a+1) 69 8 vr rows) (hS:SpRow W rows q) (hx:RatAt W (.agg #[.bool Q,.slice s L B,.bool R,.slice t M C]) x) (hy:RatAt W (.agg #[.bool S,.slice u N E,.bool T,.slice v O F]) y)
  (H:GrowD d (a+1) 69 8 b (rows++[[.bool Q,.slice s L B,.bool R,.slice t M C,.bool S,.slice u N E,.bool T,.slice v O F]])) (j:Keep W d) (f:W.grownBy d vr.ownBlock) (ho:b.ownBlock=vr.ownBlock∨b.ownBlock=some W.heap.size):
  Bx (d.setCell ⟨a,1,none⟩ b) a [vc,b] 138∧RowSp (d.setCell ⟨a,1,none⟩ b) (a+1) b (q++[(x,y)])∧Fr a vr w (d.setCell ⟨a,1,none⟩ b)∧OwnTo w vr b:=by
 have ae:vr.ownBlock≠some a:=fun e=>by have:=(hG.lt a e).1;omega
 have z:=P.grown f ae;obtain⟨A,k,c,rfl⟩:=ag;have o:Keep d (d.setCell ⟨a,1,none⟩ b):=Keep.put (z.cell 1 rfl) (NoInt.slice _ _ _) b;have J:∀k,k≠a->(d.setCell ⟨a,1,none⟩ b).heap[k]? =d.heap[k]? :=fun k j=>Below.heap_setCell d ⟨a,1,none⟩ b k j;have ai:(d.setCell ⟨a,1,none⟩ b).heap.size=d.heap.size:=by simp[World.setCell]
 refine⟨z.set 1 b,⟨_,H.kept (fun g e=>J g (by have:=(H.lt g e).1;omega)),?_⟩,⟨?_,((Keep.below l).trans j).trans o,fun k G r h3=> ?_⟩,fun g e=> ?_⟩
 ·have m:=hS.keep (j.trans o);refine⟨by rw[aY,aY,m.1];rfl,fun i p n=> ?_⟩;rcases Nat.lt_or_ge i q.length with I|I
  ·rw[f8 I] at n;obtain⟨t1,U,l1,d1,t2,X,l2,d2,t3,Y,l3,d3,t4,Z,l4,d4,e,G,r⟩:=m.2 i p n;exact⟨t1,U,l1,d1,t2,X,l2,d2,t3,Y,l3,d3,t4,Z,l4,d4,by rw[f8 (by have:=m.1;omega)];exact e,G,r⟩
  ·have ad:=(List.getElem?_eq_some_iff.1 n).1;rw[aY,List.length_singleton] at ad;obtain rfl:i=q.length:=by omega
   rw[dS aE,Nat.sub_self] at n;have af:(x,y)=p:=by simpa using n
   subst af;exact⟨_,_,_,_,_,_,_,_,_,_,_,_,_,_,_,_,by rw[dS (by have:=m.1;omega),m.1,Nat.sub_self];rfl,hx.keep (j.trans o),hy.keep (j.trans o)⟩
 ·have ab:Below a w W:=l.mono (by omega);have ac:Below a W d:=⟨f.os,f.tape,f.output,f.size,fun k j=>f.block k (by have:=l.size;omega) (fun e=>by have:=(hG.lt k e.symm).1;omega)⟩;exact(ab.trans ac).setCell (p:=⟨a,1,none⟩) aE b
 ·rw[J k (by omega),f.block k (by have:=l.size;omega) (fun e=>h3 e.symm)];exact l.block k r
 ·rcases ho with h|h
  ·exact .inl (by rw[<-h];exact e)
  ·rw[h] at e;injection e with e;exact .inr (by have:=l.size;omega)
def uP (wb w:World) (vc vr:Value) (a:List (Rat×Rat)) (e:Ending) (w':World):Prop:=∃v',e= .returned (.tuple #[])∧Bx w' wb.heap.size [vc,v'] 138∧RowSp w' (wb.heap.size+1) v' a∧Fr wb.heap.size vr w w'∧OwnTo w vr v'
theorem PoAt.of {w:World} {x:Rat} {n:Int} {z i j:Bool} {a b:Option Addr} {f c g d:Nat} (h:RatAt w (.agg #[.bool i,.slice a f c,.bool j,.slice b g d]) x):PoAt w (.agg #[.bool i,.slice a f c,.bool j,.slice b g d,.int .i64 n,.bool z]) x n z:=⟨_,_,_,_,_,_,_,_,rfl,h⟩
theorem SpanAt.of {w:World} {x y:Rat} {o p q r:Bool} {a b c d:Option Addr} {k f l g m i n j:Nat} (h:RatAt w (.agg #[.bool o,.slice a k f,.bool p,.slice b l g]) x) (s:RatAt w (.agg #[.bool q,.slice c m i,.bool r,.slice d n j]) y):SpanAt w (.agg #[.bool o,.slice a k f,.bool p,.slice b l g,.bool q,.slice c m i,.bool r,.slice d n j]) x y:=⟨_,_,_,_,_,_,_,_,_,_,_,_,_,_,_,_,rfl,h,s⟩
theorem PoAt.keep {w w':World} {v:Value} {x:Rat} {n:Int} {z:Bool} (h:PoAt w v x n z) (a:Keep w w'):PoAt w' v x n z:=by
 obtain⟨j,b,g,d,k,c,i,f,rfl,h⟩:=h;exact⟨_,_,_,_,_,_,_,_,rfl,h.keep a⟩
theorem GrowD.form3 {w:World} {a:Nat} {e:TypeId} {k:Nat} {v:Value} {rows:List (List Value)} (h:GrowD w a e k v rows):∃A n c,v= .slice A n c:=by
 obtain⟨A,c,e, -⟩:=h.form;exact⟨A,_,c,e⟩
theorem GW (o p q r:Bool) (b c d f:Option Addr) (k g l h m i n j:Nat):∀u∈[Value.bool o,.slice b k g,.bool p,.slice c l h,.bool q,.slice d m i,.bool r,.slice f n j],NoInt u∧u.oneCell'=true:=fun u a=>by
 simp at a;rcases a with rfl|rfl|rfl|rfl|rfl|rfl|rfl|rfl
 ·exact⟨NoInt.bool _,rfl⟩
 ·exact⟨NoInt.slice _ _ _,rfl⟩
 ·exact⟨NoInt.bool _,rfl⟩
 ·exact⟨NoInt.slice _ _ _,rfl⟩
 ·exact⟨NoInt.bool _,rfl⟩
 ·exact⟨NoInt.slice _ _ _,rfl⟩
 ·exact⟨NoInt.bool _,rfl⟩
 ·exact⟨NoInt.slice _ _ _,rfl⟩
section
variable {V:Rat->Nat} {sg:Rat->Int} {K:Nat} {D:Rat->Rat->Prop} {wb:World} {vc:Value} (hG:Glob wb) (hA:rH K D) (hV:∀x,V x<=1024) (hK1:1<=K) (hK2:K<=1073741824)
 (hat:∀(x:Rat) (W:World) (vr vx:Value),Bx W wb.heap.size [vc,vr] 138->Below wb.heap.size wb W->RatAt W vx x->RL K x->Calls Tryz.prog 85 #[.pointer (some ⟨wb.heap.size,0,none⟩),vx] W fun e w'=>∃v',e= .returned v'∧PoAt w' v' x (V x) (decide (sg x=0))∧Below W.heap.size W w')
include hG hA hV hK1 hK2 hat
theorem VA {a b:Rat} {l:List (Rat×Rat)} (h:ExK K D V sg a b l):RL K a->RL K b->∀(T:List (Rat×Rat)) (vr va vb:Value) (w:World),Bx w wb.heap.size [vc,vr] 138->Below wb.heap.size wb w->RowSp w (wb.heap.size+1) vr T->PoAt w va a (V a) (decide (sg a=0))->PoAt w vb b (V b) (decide (sg b=0))->T.length+l.length<=1048576->
  Calls Tryz.prog 84 #[.pointer (some ⟨wb.heap.size,0,none⟩),va,vb] w (uP wb w vc vr (T++l)):=by
 induction h with
 | @none a b h=>
  intro ka kb T vr va vb w P ak k i f hl;obtain⟨I,r,E,z,J,s,F,A,rfl,i⟩:=i;obtain⟨L,t,G,B,M,y,H,C,rfl,f⟩:=f;have bh:=hV a;have ao:=hV b;have Q:=P.lt;rw[List.append_nil];have hn:((V a:Nat):Int)-((V b:Nat):Int)<=0:=by omega
  generalize decide (sg a=0)=za at *;generalize decide (sg b=0)=zb at *;generalize V a=R at *;generalize V b=S at *;clear hat;obtain⟨W,n,c,X,Y⟩:=dI w [.bool I,.slice r E z,.bool J,.slice s F A,.int .i64 (R:Int),.bool za] 141 [.bool L,.slice t G B,.bool M,.slice y H C,.int .i64 (S:Int),.bool zb] 141;have cM:=aa X.g6 Y.g6;go_enter Tryz.func84,Tryz.ntmps84;go_wp2_with fail;(try rw[n]);clear n;exact aK (v:= .tuple #[]) (by simp[results,Tryz.results84,go_sem]) rfl ⟨vr,rfl,P.below c,k.below c,Fr.of c (Nat.le_of_lt Q),fun g e=> .inl e⟩
 | @hit a b h ah=>
  intro ka kb T vr va vb w P ak k i f hl;obtain⟨I,r,E,z,J,s,F,A,rfl,i⟩:=i;obtain⟨L,t,G,B,M,y,H,C,rfl,f⟩:=f;have ao:=hV b;have Q:=P.lt;have p:=k.lt;obtain⟨U,ab,ag⟩:=k;obtain⟨Ar,cr,rfl,bj⟩:=ab.form;have hN:((V a:Nat):Int)-((V b:Nat):Int)=1:=by omega
  clear h;have az:=ag.1;have a0:U.length<=1073741824:=by omega
  clear az;have al:decide (sg b=0)=true:=decide_eq_true ah;rw[al];clear al ah;generalize decide (sg a=0)=za at *;generalize V a=R at *;generalize V b=S at *;clear hat;obtain⟨W,n,c,X,Y⟩:=dI w [.bool I,.slice r E z,.bool J,.slice s F A,.int .i64 (R:Int),.bool za] 141 [.bool L,.slice t G B,.bool M,.slice y H C,.int .i64 (S:Int),.bool true] 141;have cM:=aa X.g6 Y.g6;go_enter Tryz.func84,Tryz.ntmps84;go_wp2_with fail;(try rw[n]);clear n;have:=St.mk c;have ap:(Value.slice Ar U.length cr).ownBlock≠some w.heap.size:=fun e=>by have:=(p _ e).2;omega
  have ac:(Value.slice Ar U.length cr).ownBlock≠some (w.heap.size+1):=fun e=>by have:=(p _ e).2;omega
  have an:(Value.slice Ar U.length cr).ownBlock≠some wb.heap.size:=fun e=>by have:=(p _ e).1;omega
  have n1:wb.heap.size≠w.heap.size:=by omega
  have n2:wb.heap.size≠w.heap.size+1:=by omega
  have cP:=(P.up (b:=W.drew)).k2;have a8:=(P.up (b:=W)).cell 1 rfl;have dP:=fun o:Obj=>((P.up (b:=W.drew)).alloc o).cell 1 rfl;have l1:wb.heap.size<W.heap.size:=(P.up (b:=W)).lt;have l2:wb.heap.size≠W.heap.size:=Nat.ne_of_lt l1;have l3:W.heap.size≠wb.heap.size:=Nat.ne_of_gt l1;have cX:=X.k6;have cY:=Y.k6;have av:=X.lt;have aw:=Y.lt;have bm:=Nat.ne_of_lt av;have bn:=Nat.ne_of_lt aw
  go_region_law (first
    |(refine GY (by rfl) (by rfl) 69 8 128 _ Tryz.underlying62 GT rfl GU (by decide) (by decide) (by rfl) ab.up (by rfl) (Bx.new _ _ _) rfl (GW _ _ _ _ _ _ _ _ _ _ _ _ _ _ _ _) a0 (by have:=c.size;simp;omega) ?_;intro v9 w9 af au O ay;obtain⟨A9,L9,m9,rfl⟩:=af.form3;have X9:=Bx.grown X.up O ap;have Y9:=Bx.grown Y.up O ac;have P9:=Bx.grown P.up O an;have c9:=P9.g2;have bc:=X9.k6;have bf:=Y9.k6;have SP:=GV (Up.out (a:=w)) Q P.up ⟨_,_,_,rfl⟩ ab.up (ag.keep (Keep.below (Up.out (a:=w)))) f.up f.up af au O ay))
  all_goals (
   go_wp2_with fail;obtain⟨z1,z2,z3,z4⟩:=SP;exact aK (v:= .tuple #[]) (by simp[results,Tryz.results84,go_sem]) rfl ⟨_,rfl,z1,z2,z3,z4⟩)
 | @one a b h ah a1=>
  intro ka kb T vr va vb w P ak k i f hl;obtain⟨I,r,E,z,J,s,F,A,rfl,i⟩:=i;obtain⟨L,t,G,B,M,y,H,C,rfl,f⟩:=f;have ao:=hV b;have Q:=P.lt;have p:=k.lt;obtain⟨U,ab,ag⟩:=k;obtain⟨Ar,cr,rfl,bj⟩:=ab.form;have hN:((V a:Nat):Int)-((V b:Nat):Int)=1:=by omega
  clear h;have az:=ag.1;have a0:U.length<=1073741824:=by omega
  clear az;have al:decide (sg b=0)=false:=decide_eq_false ah;have a4:decide (sg a=0)=false:=decide_eq_false a1;rw[al,a4];clear al ah a4 a1;generalize V a=R at *;generalize V b=S at *;clear hat;obtain⟨W,n,c,X,Y⟩:=dI w [.bool I,.slice r E z,.bool J,.slice s F A,.int .i64 (R:Int),.bool false] 141 [.bool L,.slice t G B,.bool M,.slice y H C,.int .i64 (S:Int),.bool false] 141;have cM:=aa X.g6 Y.g6;go_enter Tryz.func84,Tryz.ntmps84;go_wp2_with fail;(try rw[n]);clear n;have:=St.mk c;have ap:(Value.slice Ar U.length cr).ownBlock≠some w.heap.size:=fun e=>by have:=(p _ e).2;omega
  have ac:(Value.slice Ar U.length cr).ownBlock≠some (w.heap.size+1):=fun e=>by have:=(p _ e).2;omega
  have an:(Value.slice Ar U.length cr).ownBlock≠some wb.heap.size:=fun e=>by have:=(p _ e).1;omega
  have n1:wb.heap.size≠w.heap.size:=by omega
  have n2:wb.heap.size≠w.heap.size+1:=by omega
  have cP:=(P.up (b:=W.drew)).k2;have a8:=(P.up (b:=W)).cell 1 rfl;have dP:=fun o:Obj=>((P.up (b:=W.drew)).alloc o).cell 1 rfl;have l1:wb.heap.size<W.heap.size:=(P.up (b:=W)).lt;have l2:wb.heap.size≠W.heap.size:=Nat.ne_of_lt l1;have l3:W.heap.size≠wb.heap.size:=Nat.ne_of_gt l1;have cX:=X.k6;have cY:=Y.k6;have av:=X.lt;have aw:=Y.lt;have bm:=Nat.ne_of_lt av;have bn:=Nat.ne_of_lt aw
  go_region_law (first
    |(refine GY (by rfl) (by rfl) 69 8 128 _ Tryz.underlying62 GT rfl GU (by decide) (by decide) (by rfl) ab.up (by rfl) (Bx.new _ _ _) rfl (GW _ _ _ _ _ _ _ _ _ _ _ _ _ _ _ _) a0 (by have:=c.size;simp;omega) ?_;intro v9 w9 af au O ay;obtain⟨A9,L9,m9,rfl⟩:=af.form3;have X9:=Bx.grown X.up O ap;have Y9:=Bx.grown Y.up O ac;have P9:=Bx.grown P.up O an;have c9:=P9.g2;have bc:=X9.k6;have bf:=Y9.k6;have SP:=GV (Up.out (a:=w)) Q P.up ⟨_,_,_,rfl⟩ ab.up (ag.keep (Keep.below (Up.out (a:=w)))) i.up f.up af au O ay))
  all_goals (
   go_wp2_with fail;obtain⟨z1,z2,z3,z4⟩:=SP;exact aK (v:= .tuple #[]) (by simp[results,Tryz.results84,go_sem]) rfl ⟨_,rfl,z1,z2,z3,z4⟩)
 | @split a b l m h h' hd hk bk hm a5 a6=>
  intro ka kb T vr va vb w P ak k i f hl;obtain⟨I,r,E,z,J,s,F,A,rfl,i⟩:=i;obtain⟨L,t,G,B,M,y,H,C,rfl,f⟩:=f;have bh:=hV a;have ao:=hV b;have Q:=P.lt;have p:=k.lt;have ax:=fun W hG h=>VE D a b (.agg #[.bool I,.slice r E z,.bool J,.slice s F A,.bool L,.slice t G B,.bool M,.slice y H C]) W hG h K ka kb hK1 hK2 hA hd;have a2:=fun W vx P c h=>hat ((a+b)/2) W vr vx P c h hk;have i1:=fun vm W P c k h1 h2=>a5 ka hk T vr (.agg #[.bool I,.slice r E z,.bool J,.slice s F A,.int .i64 (V a:Int),.bool (decide (sg a=0))]) vm W P c k h1 h2 (by rw[aY] at hl;omega);have i2:=fun v1 vm W P c k h1 h2=>a6 hk kb (T++l) v1 vm (.agg #[.bool L,.slice t G B,.bool M,.slice y H C,.int .i64 (V b:Int),.bool (decide (sg b=0))]) W P c k h1 h2 (by rw[aY] at hl⊢;omega);have bg:¬((V a:Nat):Int)-((V b:Nat):Int)<=0:=by omega
  have hZ:((V a:Nat):Int)-((V b:Nat):Int)=1->decide (sg a=0)=true∧decide (sg b=0)=false:=fun e=>⟨decide_eq_true (h' (by omega)).2,decide_eq_false (h' (by omega)).1⟩;have a3:Glob w:=hG.below ak;have ad:=fun (W':World) (u:Below w.heap.size w W')=>ak.trans (u.mono (Nat.le_of_lt Q));rw[<-List.append_assoc];unfold eP at ax;unfold uP at i1 i2;unfold uP;clear a5 a6 hat hV h h' hl hk bk hm ka kb hG hA hd;generalize (a+b)/2=a7 at *;generalize decide (sg a=0)=za at *;generalize decide (sg b=0)=zb at *;generalize decide (sg a7=0)=zm at *;generalize V a=R at *;generalize V b=S at *;generalize V a7=nm at *;obtain⟨N,hN⟩:∃N:Int,(R:Int)-(S:Int)=N:=⟨_,rfl⟩;rw[hN] at hZ bg;have bp:IntKind.i64.wrap N=N:=IntWalk.i64_in _ ⟨by omega,by omega⟩;have bo: -1024<=N∧N<=1024:=by omega
  have ac:vr.ownBlock≠some (w.heap.size+1):=fun e=>by have:=(p _ e).2;omega
  by_cases am:N=1
  ·obtain⟨rfl,rfl⟩:=hZ am;subst am;clear hZ;obtain⟨W,n,c,X,Y⟩:=dI w [.bool I,.slice r E z,.bool J,.slice s F A,.int .i64 (R:Int),.bool true] 141 [.bool L,.slice t G B,.bool M,.slice y H C,.int .i64 (S:Int),.bool false] 141;have cM:=aa X.g6 Y.g6;go_enter Tryz.func84,Tryz.ntmps84;go_wp2_with fail;(try rw[n]);clear n;have bi:=c.size;have:=St.mk c;refine(ax _ (a3.below c) (SpanAt.of i.up f.up)).mono ?_;rintro e5 w5 ⟨v5,rfl,h5,ai⟩;have:=St.mk ai;obtain⟨s5,A5,k5,c5,s6,A6,k6,c6,rfl⟩:=h5.form;have a9:=aa (X.up (b:=w5)).k6 (Y.up (b:=w5)).k6;go_wp2_with fail;refine(a2 _ _ P.up (ad _ (Up.out (a:=w))) h5).mono ?_;rintro e6 w6 ⟨v6,rfl,h6,aj⟩;have:=St.mk aj;obtain⟨s7,A7,k7,c7,s8,A8,k8,c8,rfl,h7⟩:=h6;obtain⟨q,e7,ar,Z⟩:=bB w6 [.bool s7,.slice A7 k7 c7,.bool s8,.slice A8 k8 c8,.int .i64 (nm:Int),.bool zm] 141;have:=St.mk ar;have d:=Up.out (a:=w) (b:=q);have X7:=X.up (b:=q);have Y7:=Y.up (b:=q);have ba:=aa X7.k6 (aa Y7.k6 Z.k6);have s6:=aj.size;have s5:=ai.size;go_wp2_with fail;(try rw[e7]);(try clear e7);refine(i1 _ q (P.below d) (ad _ d) (k.below d) (PoAt.of (i.below d)) (PoAt.of h7.up)).mono ?_;rintro e8 w8 ⟨v8,rfl,P8,R8,j,O8⟩;have aq:vr.ownBlock≠some w6.heap.size:=fun e=>by have:=(p _ e).2;omega
   have Y8:=Y7.fr j (by omega) ac;have Z8:=Z.fr j (by omega) aq;have bb:=aa Y8.k6 Z8.k6;go_wp2_with fail;refine(i2 v8 _ w8 P8 ((ad _ d).trans j.below) R8 (PoAt.of ((h7.up (b:=q)).keep j.keep)) (PoAt.of ((f.below d).keep j.keep))).mono ?_;rintro e9 w9 ⟨v9,rfl,P9,R9,F9,O9⟩;have ae:OwnTo w vr v8:=fun g e=>(O8 g e).imp id (fun h=>aG d.size h);go_wp2_with fail;exact bodyPost_end (v:= .tuple #[]) (by simp[results,Tryz.results84,go_sem]) rfl ⟨v9,rfl,P9,R9,((Fr.of d (Nat.le_of_lt Q)).trans j (fun g e=> .inl e)).trans F9 ae,ae.trans O9 (aG d.size j.below.size)⟩
  ·have q1:(N==1)=false:=by simpa using am
   clear hZ am;obtain⟨W,n,c,X,Y⟩:=dI w [.bool I,.slice r E z,.bool J,.slice s F A,.int .i64 (R:Int),.bool za] 141 [.bool L,.slice t G B,.bool M,.slice y H C,.int .i64 (S:Int),.bool zb] 141;have cM:=aa X.g6 Y.g6;go_enter Tryz.func84,Tryz.ntmps84;go_wp2_with fail;(try rw[n]);clear n;have bi:=c.size;have:=St.mk c;refine(ax _ (a3.below c) (SpanAt.of i.up f.up)).mono ?_;rintro e5 w5 ⟨v5,rfl,h5,ai⟩;have:=St.mk ai;obtain⟨s5,A5,k5,c5,s6,A6,k6,c6,rfl⟩:=h5.form;have a9:=aa (X.up (b:=w5)).k6 (Y.up (b:=w5)).k6;go_wp2_with fail;refine(a2 _ _ P.up (ad _ (Up.out (a:=w))) h5).mono ?_;rintro e6 w6 ⟨v6,rfl,h6,aj⟩;have:=St.mk aj;obtain⟨s7,A7,k7,c7,s8,A8,k8,c8,rfl,h7⟩:=h6;obtain⟨q,e7,ar,Z⟩:=bB w6 [.bool s7,.slice A7 k7 c7,.bool s8,.slice A8 k8 c8,.int .i64 (nm:Int),.bool zm] 141;have:=St.mk ar;have d:=Up.out (a:=w) (b:=q);have X7:=X.up (b:=q);have Y7:=Y.up (b:=q);have ba:=aa X7.k6 (aa Y7.k6 Z.k6);have s6:=aj.size;have s5:=ai.size;go_wp2_with fail;(try rw[e7]);(try clear e7);refine(i1 _ q (P.below d) (ad _ d) (k.below d) (PoAt.of (i.below d)) (PoAt.of h7.up)).mono ?_;rintro e8 w8 ⟨v8,rfl,P8,R8,j,O8⟩;have aq:vr.ownBlock≠some w6.heap.size:=fun e=>by have:=(p _ e).2;omega
   have Y8:=Y7.fr j (by omega) ac;have Z8:=Z.fr j (by omega) aq;have bb:=aa Y8.k6 Z8.k6;go_wp2_with fail;refine(i2 v8 _ w8 P8 ((ad _ d).trans j.below) R8 (PoAt.of ((h7.up (b:=q)).keep j.keep)) (PoAt.of ((f.below d).keep j.keep))).mono ?_;rintro e9 w9 ⟨v9,rfl,P9,R9,F9,O9⟩;have ae:OwnTo w vr v8:=fun g e=>(O8 g e).imp id (fun h=>aG d.size h);go_wp2_with fail;exact bodyPost_end (v:= .tuple #[]) (by simp[results,Tryz.results84,go_sem]) rfl ⟨v9,rfl,P9,R9,((Fr.of d (Nat.le_of_lt Q)).trans j (fun g e=> .inl e)).trans F9 ae,ae.trans O9 (aG d.size j.below.size)⟩
end
theorem V8 (j:Nat):nl ((2:Int)^j).natAbs<=j/64+1:=by
 rw[Int.natAbs_pow]
 exact bW (by
  have e:BN^(j/64+1)=2^(64*(j/64+1)):=by rw[Nat.pow_mul];rfl
  rw[e];exact Nat.pow_lt_pow_right (by decide) (by omega))
theorem rE {n:Int} {K:Nat} (h:nl n.natAbs<=K) (a:1<=K):RL K (n:Rat):=⟨by rw[Rat.num_intCast];exact h,by rw[Rat.den_intCast];exact aG (bW (m:=1) (by unfold BN;decide)) a⟩
theorem GS (x y:Rat):(x-y).num.sign<0↔x<y:=by
 rcases jU (x-y) with h|h|h
 ·rw[(fJ _).2 h];exact⟨fun _=>by grind,fun _=>by decide⟩
 ·rw[h];exact⟨fun k=>absurd k (by decide),fun k=>by grind⟩
 ·rw[(fJ _).1 h];exact⟨fun k=>absurd k (by decide),fun k=>by grind⟩
theorem Bx.old {w w':World} {g B:Nat} {cs:List Value} {t:TypeId} (h:Bx w g cs t) (a:Below B w w') (b:g<B):Bx w' g cs t:=(a.block g b).trans h
theorem PoAt.upp {a b:World} [u:Up a b] {v:Value} {x:Rat} {n:Int} {z:Bool} (h:PoAt a v x n z):PoAt b v x n z:=h.keep (Keep.below u.out)
def zE (w:World) (P:List (Rat×Rat)->Prop) (e:Ending) (w':World):Prop:=∃a b l,e= .returned a∧P l∧RowSp w' b a l∧Below w.heap.size w w'
theorem V9 (s:List Int) (b:Rat) (n K:Nat) (P:List (Rat×Rat)->Prop) (v u:Value) (w:World) (Q:Glob w) (hv:WholeAt w v s) (hu:RatAt w u b) (ts:aO s) (h0:s≠[]) (Y:Sz s) (al:Pw b n) (hn:n<=1000) (kb:RL 35080695 b) (au:35080695<=K) (av:K<=1073741824) (D:Rat->Rat->Prop) (hA:rH K D)
  (ak:∀c,StT 35080695 s (aQ (bA s)) c->∃l,ExK K D (fun x=>cC 0 ((s :: c).map (fun a=>bJ a 0 x))) (fun x=>bJ s 0 x) (((-((2:Int)^n):Int)):Rat) ((((2:Int)^n:Int)):Rat) l∧l.length<=1048576∧P l):
  Calls Tryz.prog 36 #[v,u] w (zE w P):=by
 obtain⟨A,c,rfl,hc⟩:=hv.form;obtain⟨s1,H,Z,J,s2,I,k2,L,rfl⟩:=hu.form;have ac:=fun W Q h=>G3 s (.slice A s.length c) W Q h ts h0 Y;have td:=fK (jW ts);have kd:∀n∈aQ (bA s),nl n.natAbs<=35080695:=fun n hn=>by
  obtain⟨K,hK,au,av, -⟩:=Y.ex;exact aG (fG (o6 hK (by have:=Y.1;omega)) n hn) (by omega)
 have ld:(aQ (bA s)).length=s.length-1:=by rw[cS,jF]
 have aj:∀c,StT 35080695 s (aQ (bA s)) c->(s :: c).length<=8∧∀a∈s :: c,a≠[]∧a.length<=65∧∀n∈a,nl n.natAbs<=35080695:=fun c h=>by
  have B:=h.len;have h7:=Y.1;refine⟨by rw[List.length_cons];omega,fun a ha=> ?_⟩;rcases List.mem_cons.1 ha with rfl|ha
  ·exact⟨h0,by omega,fun n hn=>aG (Y.nums n hn) (by omega)⟩
  ·obtain⟨e1,M,e3,e4⟩:=h.mem td kd a ha;exact⟨e1,by omega,e4⟩
 unfold uJ at ac;unfold zE;clear td kd ld;obtain⟨W,eW,d,X⟩:=bB w [.bool s1,.slice H Z J,.bool s2,.slice I k2 L] 66;have cM:=X.g4;go_enter Tryz.func36,Tryz.ntmps36;go_wp2_with fail;(try rw[eW]);clear eW;refine(iM 1 _ (by decide) (by decide)).mono ?_;rintro e1 w1 ⟨v1,rfl,B,ae⟩;obtain⟨m,f,i,g,rfl⟩:=B.form;obtain⟨w2,M,aw,G⟩:=bB w1 [.bool m,.slice f i g] 59;have p:=aC ae aw;have bu:=X.lt;have bv:=ae.size;have bw:w.heap.size<w1.heap.size:=by omega
 replace X:=X.below p;replace d:=aC d p;have ar:IntBx w2 w1.heap.size ((2:Int)^0):=⟨_,_,_,_,G,B.below aw⟩;clear G B;go_wp2_with fail;(try rw[M]);(try clear M);generalize w1.heap.size=O at *;go_loopg [] n (fun k wr=>∃j,Hid (j+k=n)∧IntBx wr O ((2:Int)^j)∧Bx wr w.heap.size [.bool s1,.slice H Z J,.bool s2,.slice I k2 L] 66∧Below w.heap.size w wr)
 case atStart=>exact⟨0,by unfold Hid;omega,ar,X,d⟩
 case round=>
  clear ar X d;obtain⟨j,HJ,⟨m,f,i,g,G,V⟩,X,d⟩:=hrel;generalize wr=wy at *;have bx:j<=n:=by have:=HJ.out;omega
  have kp:nl ((2:Int)^j).natAbs<=20:=aG (V8 j) (by omega);have U:=fun W v h h'=>ER (((2:Int)^j:Int):Rat) b v (.agg #[.bool s1,.slice H Z J,.bool s2,.slice I k2 L]) W h h' 35080695 (rE (aG kp (by decide)) (by decide)) kb (by decide);have ad:=fun W h=>xO ((2:Int)^j) (.agg #[.bool m,.slice f i g]) W h;obtain⟨S,hS⟩:∃S,((((2:Int)^j:Int):Rat)-b).num.sign=S:=⟨_,rfl⟩;have R:=GS (((2:Int)^j:Int):Rat) b;rw[hS] at R U;unfold dK at U;unfold eP at ad;have ai:=hu.below d;have bt:=Q.below d;have b2:=hv.below d;have:=d;cases gk with
  |succ k=>
   have b0:S<0:=R.2 (al.2 j (by have:=HJ.out;omega));clear R hS ac ak aj;have am:∀W,IntAt W (.agg #[.bool m,.slice f i g]) ((2:Int)^j)->Calls Tryz.prog 70 #[.agg #[.bool m,.slice f i g],.int .u64 1] W (dB W ((2:Int)^j*2^1)):=fun W h=>UE ((2:Int)^j) 1 (.agg #[.bool m,.slice f i g]) W h (by decide) (by omega);have M:(2:Int)^j*2^1=2^(j+1):=by rw[Int.pow_succ];rfl
   rw[M] at am;unfold dB at am;go_wp2_with fail
   go_region_held3 (fun t=>C2 t O (.bool m) (.slice f i g)∧C4 t w.heap.size (.bool s1) (.slice H Z J) (.bool s2) (.slice I k2 L)) (with_reducible exact⟨G.up.k2,X.up.k4⟩)
    (first
     |(go_at_call 72;(with_reducible refine(ad _ V.up).mono ?_);rintro e4 w4 ⟨v4,rfl,h4,af⟩;have:=St.mk af)
     |(go_at_call 74;(with_reducible refine(U _ _ h4.up ai.up).mono ?_);rintro e5 o ⟨rfl,ag⟩;have:=St.mk ag))
   all_goals (
    have y:=G.up (b:=o);have X5:=X.up (b:=o);have a5:=aa y.g2 X5.k4;have q:=eG (b:=o) d;go_wp2_with fail;refine(am _ (V.up (b:=o))).mono ?_;rintro e6 e ⟨v6,rfl,C,r⟩;obtain⟨s6,A6,k6,c6,rfl⟩:=C.form;have z:=y.below r;have X6:=X5.below r;have bo:=aa z.g2 X6.k4;have T:=aC q r;go_wp2_with fail;obtain⟨W7,N,G7,ah,hk,ff⟩:=z.put2 T (by omega) (.bool s6) (.slice A6 k6 c6) rfl rfl;rw[N];clear N;go_roundg k
    case rel=>exact⟨j+1,by have:=HJ.out;unfold Hid;omega,⟨_,_,_,_,G7,C.keep hk⟩,ff X6 (by omega),ah⟩
    case measure=>omega)
  |zero=>
   obtain rfl:j=n:=HJ.out;have b1:¬S<0:=fun h=>by have:=R.1 h;have:=al.1;grind
   clear R hS;go_wp2_with fail
   go_region_held3 (fun t=>C2 t O (.bool m) (.slice f i g)∧C4 t w.heap.size (.bool s1) (.slice H Z J) (.bool s2) (.slice I k2 L)) (with_reducible exact⟨G.up.k2,X.up.k4⟩)
    (first
     |(go_at_call 72;(with_reducible refine(ad _ V.up).mono ?_);rintro e4 w4 ⟨v4,rfl,h4,af⟩;have:=St.mk af)
     |(go_at_call 74;(with_reducible refine(U _ _ h4.up ai.up).mono ?_);rintro e5 o ⟨rfl,ag⟩;have:=St.mk ag))
   all_goals (
    have y:=G.up (b:=o);have q:=eG (b:=o) d;have a5:=y.k2;have ax:=V.up (b:=o);clear ad U G X V ai;go_wp2_with fail;refine(ac _ (Q.below q) (hv.below q)).mono ?_;rintro e6 e ⟨v6,c,rfl,C,hT,r⟩;have z:=y.below r;have ay:=ax.below r;have T:=aC q r;obtain⟨bz,E⟩:=aj c hT;obtain⟨l,a2,hl,hP⟩:=ak c hT;have ap:=aB a2;have HP:=aB hP;replace E:=fun a h=>(⟨(E a h).1,(E a h).2.1,fun n hn=>aG ((E a h).2.2 n hn) au⟩:a≠[]∧a.length<=65∧∀n∈a,nl n.natAbs<=K);clear a2 hP;obtain⟨Ac,cc,rfl, -⟩:=C.form;clear ac ak aj hT;have bi:O<e.heap.size:=z.lt;have az:=fun W h=>oO ((2:Int)^j) (.agg #[.bool m,.slice f i g]) W h (aG kp (by decide));have a0:=fun W v h=>xO (-((2:Int)^j)) v W h;have a1:=fun W h=>xO ((2:Int)^j) (.agg #[.bool m,.slice f i g]) W h;have kn:RL K ((-((2:Int)^j):Int):Rat):=rE (by rw[Int.natAbs_neg];exact aG kp (by omega)) (by omega);have kq:RL K (((2:Int)^j:Int):Rat):=rE (aG kp (by omega)) (by omega);have ab:=fun (x:Rat) (W:World) (vr F:Value) (P:Bx W e.heap.size [.slice Ac (s :: c).length cc,vr] 138) (d:Below e.heap.size e W) (h:RatAt W F x) (hk:RL K x)=>VJ s c o.heap.size e.heap.size x (.slice Ac (s :: c).length cc) vr F W P (C.below d) h (by omega) K E hk (by omega);have hV:∀x:Rat,cC 0 ((s :: c).map (fun a=>bJ a 0 x))<=1024:=fun x=>by have:=qX ((s :: c).map (fun a=>bJ a 0 x)) 0;rw[bK] at this;omega
    have an:=fun va vb W P p hR B h2=>VA (wb:=e) (vc:= .slice Ac (s :: c).length cc) (Q.below T) hA hV (by omega) av ab ap.out kn kq [] (.slice none 0 0) va vb W P p hR B h2 (by rw[List.length_nil];omega);have a9:=fun W F P p h=>ab ((-((2:Int)^j):Int):Rat) W (.slice none 0 0) F P p h kn;have ba:=fun W F P p h=>ab (((2:Int)^j:Int):Rat) W (.slice none 0 0) F P p h kq;rw[List.nil_append] at an;unfold uP at an;unfold dB at az;unfold eP at a0 a1;clear ab ap hV E kb al kn kq C y ax;generalize (s :: c).length=nc at *;generalize cC 0 ((s :: c).map (fun a=>bJ a 0 ((-((2:Int)^j):Int):Rat)))=Vn at *;generalize cC 0 ((s :: c).map (fun a=>bJ a 0 (((2:Int)^j:Int):Rat)))=Vp at *;generalize decide (bJ s 0 ((-((2:Int)^j):Int):Rat)=0)=Zn at *;generalize decide (bJ s 0 (((2:Int)^j:Int):Rat)=0)=Zp at *;generalize ((-((2:Int)^j):Int):Rat)=xn at *;generalize (((2:Int)^j:Int):Rat)=xp at *;generalize (-((2:Int)^j))=pn at *;go_wp2_with fail;obtain⟨w7,N,ah,P⟩:=bB e [.slice Ac nc cc,.slice none 0 0] 138;rw[N];clear N;have:=St.mk ah;have cP:=P.g2
    go_region_held3 (fun t=>C2 t O (.bool m) (.slice f i g)) (first|(with_reducible exact z.up.k2)|(with_reducible exact G9.k2))
     (first
      |(go_at_call 56;(with_reducible refine(az _ ay.up).mono ?_);rintro e8 w8 ⟨v8,rfl,h8,bg⟩;have:=St.mk bg)
      |(go_at_call 72;first|(with_reducible refine(a1 _ ay.up).mono ?_;rintro e9 w9 ⟨v9,rfl,h9,bh⟩;have:=St.mk bh)|(with_reducible refine(a0 _ _ h8.up).mono ?_;rintro bp b7 ⟨b3,rfl,a6,bb⟩;have:=St.mk bb))
      |(go_at_call 85;first|(with_reducible refine(ba _ _ P.up (Up.out (a:=e)) h9.up).mono ?_;rintro bq b8 ⟨b4,rfl,a7,bc⟩;have:=St.mk bc)|(with_reducible refine(a9 _ _ P.up (Up.out (a:=e)) a6.up).mono ?_;rintro br b9 ⟨b5,rfl,a8,bf⟩;have:=St.mk bf))
      |(go_at_call 84;(with_reducible refine(an _ _ _ P.up (Up.out (a:=e)) (RowSp.nil _ _) (a8.upp) (a7.upp)).mono ?_);rintro bs ca ⟨b6,rfl,a4,aq,ao,bk⟩;have G9:=Bx.old z.up ao.below bi;have a3:=(Up.out (a:=e)).trans ao.below;have bm:=a4.k2;obtain⟨bj,bn,rfl, -⟩:=aq.form))
    all_goals (
     go_wp2_with fail;go_ret;exact⟨_,_,l,rfl,HP.out,aq,aC T a3⟩))
def jI (p:List UInt8×List UInt8):List Value:=[.string ⟨p.1.toArray⟩,.string ⟨p.2.toArray⟩]
def IvsAt (w:World) (v:Value) (l:List (List UInt8×List UInt8)):Prop:=∃A c,v= .slice A l.length c∧l.length<=c∧(l=[]∨∃b,A=some ⟨b,0,none⟩∧b<w.heap.size∧∀(i:Nat) (p:List UInt8×List UInt8),l[i]? =some p->w.cell? ⟨b,i*2,none⟩=some (.string ⟨p.1.toArray⟩)∧w.cell? ⟨b,i*2+1,none⟩=some (.string ⟨p.2.toArray⟩))
theorem IvsAt.below {w w':World} {v:Value} {l:List (List UInt8×List UInt8)} (h:IvsAt w v l) (a:Below w.heap.size w w'):IvsAt w' v l:=by
 obtain⟨A,c,hv,g,h⟩:=h;refine⟨A,c,hv,g,?_⟩;rcases h with h|⟨b,e,d,f⟩
 ·exact .inl h
 ·exact .inr ⟨b,e,aU d a.size,fun i p h=>⟨(a.cell (p:=⟨b,i*2,none⟩) d).trans (f i p h).1,(a.cell (p:=⟨b,i*2+1,none⟩) d).trans (f i p h).2⟩⟩
theorem IvsAt.form {w:World} {v:Value} {l:List (List UInt8×List UInt8)} (h:IvsAt w v l):∃A c,v= .slice A l.length c∧l.length<=c:=by
 obtain⟨A,c,hv,a,_⟩:=h;exact⟨A,c,hv,a⟩
theorem IvsAt.at_ {w:World} {A:Option Addr} {n c:Nat} {l:List (List UInt8×List UInt8)} (h:IvsAt w (.slice A n c) l) {i:Nat} {p:List UInt8×List UInt8} (hi:l[i]? =some p):∃b,A=some ⟨b,0,none⟩∧b<w.heap.size∧w.cell? ⟨b,i*2,none⟩=some (.string ⟨p.1.toArray⟩)∧w.cell? ⟨b,i*2+1,none⟩=some (.string ⟨p.2.toArray⟩):=by
 obtain⟨f,g,e,j,h⟩:=h;simp only[Value.slice.injEq] at e;obtain⟨rfl,rfl,rfl⟩:=e;rcases h with rfl|⟨b,e,d,a⟩
 ·simp at hi
 ·exact⟨b,e,d,(a i p hi).1,(a i p hi).2⟩
theorem GrowD.ivs {w:World} {g:Nat} {v:Value} {l:List (List UInt8×List UInt8)} (h:GrowD w g 24 2 v (l.map jI)):IvsAt w v l:=by
 obtain⟨A,c,rfl,d⟩:=h.form;rw[bK] at d;refine⟨A,c,by rw[bK],d,?_⟩;cases l with
 |nil=>exact .inl rfl
 |cons m l=>
  obtain⟨b,e, -,k, -⟩:=h.at_ (i:=0) (r:=jI m) rfl;refine .inr ⟨b,e,k,fun i p j=> ?_⟩;obtain⟨n,a, -, -,f⟩:=h.at_ (i:=i) (r:=jI p) (by rw[List.getElem?_map,j];rfl);rw[e] at a;simp only[Option.some.injEq,Addr.mk.injEq] at a;obtain⟨rfl,_⟩:=a;exact⟨f 0 _ rfl,f 1 _ rfl⟩
theorem IvsAt.built (w:World) (l:List (List UInt8×List UInt8)) (t:TypeId):IvsAt (w.alloc (.cells (l.map jI).flatten.toArray t)) (.slice (some ⟨w.heap.size,0,none⟩) l.length l.length) l:=by
 refine⟨_,_,rfl,aE,.inr ⟨w.heap.size,rfl,by simp,fun i p e=> ?_⟩⟩;have B:=Bx.new w (l.map jI).flatten t;have b:∀r∈l.map jI,r.length=2:=fun r a=>by
  obtain⟨q, -,rfl⟩:=List.mem_map.1 a;rfl
 have a:(l.map jI)[i]? =some (jI p):=by rw[List.getElem?_map,e];rfl
 have c:=kF b a (j:=0) (by decide);have d:=kF b a (j:=1) (by decide);exact⟨B.cell (i*2) c,B.cell (i*2+1) d⟩
theorem VT (a:List (List UInt8×List UInt8)) (l m:Value) (w:World) (g:IvsAt w l a) (h:IvsAt w m a) (F:a.length<=1073741824):
  Calls Tryz.prog 13 #[l,m] w fun e w'=>e= .returned (.bool true)∧Below w.heap.size w w':=by
 obtain⟨A,c,rfl,B⟩:=g.form;obtain⟨r,u,rfl,C⟩:=h.form;go_enter Tryz.func13,Tryz.ntmps13;go_wp2_with fail;go_loopg [5] a.length (fun k i wr=>∃j,Hid (j+k=a.length)∧i= .int .i64 j∧Below w.heap.size w wr)
 case atStart=>exact⟨0,by unfold Hid;omega,rfl,aH _ _⟩
 case round=>
  obtain⟨j,d,rfl,b⟩:=hrel;generalize wr=K at *;have D:(0:Int)<=(j:Int):=by omega
  cases gk with
  |zero=>
   have o:j=a.length:=d.out;subst o;go_wp2_with fail;go_ret;exact⟨rfl,b⟩
  |succ k=>
   have q:j<a.length:=by have:=d.out;omega
   have E:(j:Int)<(a.length:Int):=by omega
   obtain⟨p,f⟩:∃p,a[j]? =some p:=⟨_,aL q⟩;obtain⟨s,rfl,G,v,x⟩:=(g.below b).at_ f;obtain⟨t,rfl,H,y,z⟩:=(h.below b).at_ f;have n:=b.drew;generalize (⟨p.1.toArray⟩:ByteArray)=I at *;generalize (⟨p.2.toArray⟩:ByteArray)=J at *;clear f;go_wp2_with fail;go_region
   all_goals (
    go_wp2_with fail;go_roundg k
    case rel=>exact⟨j+1,by have:=d.out;unfold Hid;omega,by go_num,n⟩
    case measure=>omega)
theorem VU:(Tryz.prog.info? 24).map (fun i=>(i.zero,i.size,i.bytes))=some (some (.agg #[.string ⟨#[]⟩,.string ⟨#[]⟩]),2,32):=by kernel_rfl
theorem VV (n:Nat):∀y∈Builtin.zeroCells (Value.agg #[.string ⟨#[]⟩,.string ⟨#[]⟩]).cells n,NoInt y:=fun y b=>by
 unfold Builtin.zeroCells at b;obtain⟨j,_,rfl⟩:=Array.mem_map.1 b;have a:(Value.agg #[.string ⟨#[]⟩,.string ⟨#[]⟩]).cells= #[Value.string ⟨#[]⟩,.string ⟨#[]⟩]:=rfl;rw[a];have a:(#[Value.string ⟨#[]⟩,.string ⟨#[]⟩]:Array Value).size=2:=rfl;rw[a];rcases(show j%2=0∨j%2=1 by omega) with h|h<;>rw[h]
 ·exact NoInt.string _
 ·exact NoInt.string _
theorem RowSp.get {w:World} {B:Nat} {A:Option Addr} {n c:Nat} {l:List (Rat×Rat)} (h:RowSp w B (.slice A n c) l) {i:Nat} {p:Rat×Rat} (hi:l[i]? =some p):∃b v d r k x f s m y g t o z j u q,A=some ⟨b,0,none⟩∧b<w.heap.size∧
  (w.cell? ⟨b,i*8,none⟩=some (.bool v)∧w.cell? ⟨b,i*8+1,none⟩=some (.slice d r k)∧w.cell? ⟨b,i*8+2,none⟩=some (.bool x)∧w.cell? ⟨b,i*8+3,none⟩=some (.slice f s m)∧w.cell? ⟨b,i*8+4,none⟩=some (.bool y)∧w.cell? ⟨b,i*8+5,none⟩=some (.slice g t o)∧w.cell? ⟨b,i*8+6,none⟩=some (.bool z)∧w.cell? ⟨b,i*8+7,none⟩=some (.slice j u q))∧
  SpanAt w (.agg #[.bool v,.slice d r k,.bool x,.slice f s m,.bool y,.slice g t o,.bool z,.slice j u q]) p.1 p.2:=by
 obtain⟨I,D,E⟩:=h;obtain⟨v,d,r,k,x,f,s,m,y,g,t,o,z,j,u,q,e,G,H⟩:=E.2 i p hi;obtain⟨b,C, -,F,a⟩:=D.at_ e;exact⟨b,v,d,r,k,x,f,s,m,y,g,t,o,z,j,u,q,C,F,⟨a 0 _ rfl,a 1 _ rfl,a 2 _ rfl,a 3 _ rfl,a 4 _ rfl,a 5 _ rfl,a 6 _ rfl,a 7 _ rfl⟩,SpanAt.of G H⟩
theorem SpanAt.below {w w':World} {v:Value} {x y:Rat} (h:SpanAt w v x y) (a:Below w.heap.size w w'):SpanAt w' v x y:=by
 obtain⟨q,d,m,i,r,e,n,j,s,f,o,k,t,g,p,l,rfl,b,c⟩:=h;exact SpanAt.of (b.below a) (c.below a)
def oF (p:Rat×Rat):List UInt8×List UInt8:=(bD p.1,bD p.2)
theorem VW (ls:List (List UInt8)) (n K:Nat) (P:List (Rat×Rat)->Prop) (v:Value) (w:World) (f:Glob w) (hv:StrsAt w v ls) (hl:ls.length<=7) (hs:∀l∈ls,l.length<=6) (Y:vl ls=true->ls≠[]->Pw (gQ (aN ls)) n) (hn:n<=1000) (a5:35080695<=K) (al:K<=1073741824) (DA:Rat->Rat->Prop) (hA:rH K DA) (G:∀l,P l->l.length<=1048576∧∀p∈l,RL K p.1∧RL K p.2)
  (S:∀w s c,Prp (aN ls) w->uB w s c->∃l,ExK K DA (fun x=>cC 0 ((s :: c).map (fun a=>bJ a 0 x))) (fun x=>bJ s 0 x) (((-((2:Int)^n):Int)):Rat) ((((2:Int)^n:Int)):Rat) l∧P l):
  Calls Tryz.prog 11 #[v] w fun e w'=>∃v' l,e= .returned (.tuple #[v',.int .i64 (d8 ls)])∧(d8 ls=0->P l)∧(d8 ls≠0->l=[])∧IvsAt w' v' (l.map oF)∧Below w.heap.size w w':=by
 obtain⟨A,c,rfl,hc⟩:=hv.form;have y:=fun W f h=>uL ls (.slice A ls.length c) W f h hl hs;have am:∀q∈aN ls,RL 1 q:=mC (fun l hl=>aG (hs l hl) (by decide));have ay:(aN ls).length=ls.length:=bK _;have Q:=pK ls;unfold pJ at y;obtain⟨E,hE⟩:∃E,d8 ls=E:=⟨_,rfl⟩;rw[hE] at y Q⊢;clear hE;go_enter Tryz.func11,Tryz.ntmps11;go_wp2_with fail;refine(y _ f hv).mono ?_;rintro e1 w1 ⟨B,k1,C,br,rfl,⟨s2,L,k2,M,rfl⟩,U,d⟩;obtain⟨w2,o,ad,F⟩:=bB w1 [.bool s2,.slice L k2 M] 59;replace d:=aC d ad;rcases Q with ⟨rfl,ab,h0⟩|⟨rfl, -⟩|⟨rfl, -, -⟩;rotate_left
 ·skip;clear U y S G;go_wp2_with fail;(try rw[o]);(try clear o);go_ret2;exact⟨_,[],rfl,fun h=>absurd h (by decide),fun _=>rfl,⟨_,_,rfl,aE,.inl rfl⟩,d⟩
 ·skip;clear U y S G;go_wp2_with fail;(try rw[o]);(try clear o);go_ret2;exact⟨_,[],rfl,fun h=>absurd h (by decide),fun _=>rfl,⟨_,_,rfl,aE,.inl rfl⟩,d⟩
 replace Y:=Y ab h0;obtain⟨D, -, -,H,g, -⟩:=U rfl;replace g:=g.below ad;have aw:(bE (aN ls) D).length=ls.length:=by rw[kQ,ay]
 have T:bE (aN ls) D≠[]:=fun e=>h0 (bM (by rw[<-aw,e];rfl));have Z:=kR H.pos H.dvd (lJ ab).2.2;have I:=nZ _ D 1 _ am H.nl_;have ah:=qZ H (lJ ab).2.2;have ax:=lM ah;have ar:=yX ah Z T;have aj:=(xI I (by decide)).1;have a1:=fG I;have a2:(aQ (bE (aN ls) D)).length<=7:=by rw[cS];omega
 obtain⟨A8,c8,e8, -⟩:=g.form;simp only[Value.slice.injEq] at e8;obtain⟨rfl,rfl,rfl⟩:=e8;have az:=fun W f h=>G4 (bE (aN ls) D) (.slice B (bE (aN ls) D).length C) W f h Z T (by omega) I;have O:=fun W f h=>EL (bE (aN ls) D) (.slice B (bE (aN ls) D).length C) W f h T Z 9 I (by omega) (by decide) (by decide);rw[ar] at O aj
 have af:=fun s u u' W f h h' (m:Sqp 24057 (aQ (bE (aN ls) D)) s) (J:Sz s)=>V9 s (gQ (aN ls)) n K P u u' W f h h' m.ts m.ne J Y hn (bU aj (by decide)) a5 al DA hA (fun c hc=>by
  obtain⟨l,h1,h2⟩:=S _ s c ax ⟨⟨m.mono (by decide),hc⟩,m,J,a2,a1⟩;exact⟨l,h1,(G l h2).1,h2⟩)
 unfold eP at O;unfold zE at af;clear y U H aw T Z I ah ax ar aj S Y am ay h0 ab F ad a1 a2;generalize bE (aN ls) D=ns at *;generalize gQ (aN ls)=bq at *;go_wp2_with fail;(try rw[o]);(try clear o);refine(az _ (f.below d) g).mono ?_;rintro e3 w3 ⟨v3,s,rfl,N,m,J,an⟩;replace g:=g.below an;replace d:=aC d an;have av:=fun u' W f h h'=>af s v3 u' W f h h' m J;clear af az;go_wp2_with fail;refine(O _ (f.below d) g).mono ?_;rintro e4 w4 ⟨v4,rfl,h4,ao⟩;replace N:=N.below ao;replace d:=aC d ao;go_wp2_with fail;refine(av _ _ (f.below d) N h4).mono ?_;rintro e5 w5 ⟨v5,bg,l,rfl,ac,h5,a6⟩;obtain⟨bo,ba⟩:=G l ac;have a3:=aB ac;clear ac G;replace d:=aC d a6;obtain⟨A5,c5,rfl,bj⟩:=h5.form;clear av O m J N h4 g;go_wp2_with fail;go_loopg [7,25] l.length (fun k vf i wr=>∃j,Hid (j+k=l.length)∧i= .int .i64 j∧GrowD wr w5.heap.size 24 2 vf (((l.take j).map oF).map jI)∧Below w5.heap.size w5 wr)
 case atStart=>exact⟨0,by unfold Hid;omega,rfl,GrowD.nil,aH _ _⟩
 case round=>
  obtain⟨j,HJ,rfl,t,z⟩:=hrel;generalize wr=wy at *;have bk:(0:Int)<=(j:Int):=by omega
  have aq:=aC d z;obtain⟨Af,nf,bh,rfl⟩:=t.form3;cases gk with
  |zero=>
   have hj:j=l.length:=HJ.out;subst hj;rw[List.take_length] at t;have hI:=t.ivs;clear t;go_wp2_with fail;go_ret2;exact⟨_,rfl,l,a3.out,hI,aq⟩
  |succ k=>
   have a9:j<l.length:=by have:=HJ.out;omega
   have bm:(j:Int)<(l.length:Int):=by omega
   obtain⟨p,V⟩:∃p,l[j]? =some p:=⟨_,aL a9⟩;obtain⟨b,s1,B,k1,C,s2,L,k2,M,s3,A3,k3,c3,s4,A4,k4,c4,rfl,bi,Q,bc⟩:=(h5.below z).get V;have ag:=ba p (cH V);have a0:=fun W f h=>VF p.1 p.2 (.agg #[.bool s1,.slice B k1 C,.bool s2,.slice L k2 M,.bool s3,.slice A3 k3 c3,.bool s4,.slice A4 k4 c4]) W f h K ag.1 ag.2 al;have a4:Hid (((l.take (j+1)).map oF).map jI=((l.take j).map oF).map jI++[[.string ⟨(bD p.1).toArray⟩,.string ⟨(bD p.2).toArray⟩]]):=by
    unfold Hid;rw[List.take_add_one,V,Option.toList_some,List.map_append,List.map_append];rfl
   have a7:(((l.take j).map oF).map jI).length<=1073741824:=by rw[bK,bK,aZ];omega
   generalize ((l.take j).map oF).map jI=R at *;generalize (⟨(bD p.1).toArray⟩:ByteArray)=tx at *;generalize (⟨(bD p.2).toArray⟩:ByteArray)=ty at *;clear V ag;obtain⟨w6,e6,r,X⟩:=bB wy [.bool s1,.slice B k1 C,.bool s2,.slice L k2 M,.bool s3,.slice A3 k3 c3,.bool s4,.slice A4 k4 c4] 69;have cX:=X.k8;go_wp2_with fail;(try rw[e6]);(try clear e6);refine(a0 _ ((f.below aq).below r) (bc.below r)).mono ?_;rintro e7 w7 ⟨rfl,ae⟩;have ap:Below w7.heap.size w7 (w7.alloc (.cells #[.string tx,.string ty] 24)):=(aH _ _).alloc aE _;have au:=((t.below r).below ae).below ap;have ai:=((aC z r).trans (ae.mono (aG z.size r.size))).trans (ap.mono (aG z.size (aG r.size ae.size)));have XB:=Bx.new w7 [.string tx,.string ty] 24;have bb:∀u∈[Value.string tx,.string ty],NoInt u∧u.oneCell'=true:=fun u hu=>by
    simp at hu;rcases hu with rfl|rfl
    ·exact⟨NoInt.string _,rfl⟩
    ·exact⟨NoInt.string _,rfl⟩
   clear t a0 X cX Q;go_wp2_with (at_builtin;refine VK rfl rfl 24 2 32 _ Tryz.underlying28 VU rfl VV (by decide) (by decide) rfl au rfl XB rfl bb a7 ai.size ?_;intro v8 w8 ak bn a8 bp);have bf:=ai.trans (au.left a8 ai.size);rw[<-a4.out] at ak;go_roundg k
   case rel=>exact⟨j+1,by have:=HJ.out;unfold Hid;omega,by go_num,ak,bf⟩
   case measure=>omega
