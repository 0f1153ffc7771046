/- Laws. -/
import Derived.Test.YtgjeoghojliocaaGreatDoorE17
set_option linter.all false
set_option maxHeartbeats 8000000
set_option maxRecDepth 99999
namespace Go.Proofs.YtgjeoghojliocaaGreatDoor
open Go.RowKit Sos Tryz
abbrev R4(w:World)(b o:Nat)(c d e f:Value):Prop:=w.cell? ⟨b,o,none⟩=some c∧w.cell? ⟨b,o+1,none⟩=some d∧w.cell? ⟨b,o+2,none⟩=some e∧w.cell? ⟨b,o+3,none⟩=some f
def QRow(w:World)(rows:List (List Value))(qs:List Rat):Prop:=∀(i:Nat) (q:Rat),qs[i]? =some q->∃s A l c s' d e c',rows[i]? =some [Value.bool s,Value.slice A l c,Value.bool s',Value.slice d e c']∧NQ w (.agg #[.bool s,.slice A l c,.bool s',.slice d e c']) q
def QsAt(w:World)(v:Value)(qs:List Rat):Prop:=∃A c,v= .slice A qs.length c∧qs.length<=c∧(A=none∧qs=[]∨∃b rows,A=some ⟨b,0,none⟩∧Rw w b 4 rows 62∧qs.length<=rows.length∧QRow w rows qs)
def OwnQ(w:World)(b:Nat)(qs:List Rat):Prop:=∃rows,Rw w b 4 rows 62∧qs.length<=rows.length∧QRow w rows qs
def r6(g:Nat)(w W:World):Prop:=KM w W∧nD g w W
def KM.put{w:World}{p:Addr}{c:Value}(f:w.cell? p=some c)(e:NoInt c)(v:Value):KM w (w.setCell p v):=
 ⟨by simp,fun q k x d=>by
  rw[World.cell?_setCell_other _ _ _ _ ?_,d];rintro rfl;rw[f] at d;injection d with d;exact absurd d (e _ _)⟩
def sJ:(Tryz.prog.info? 62).map (fun i=>(i.zero,i.size,i.bytes))=some (some (.agg #[.bool false,.slice none 0 0,.bool false,.slice none 0 0]),4,64):=by kernel_rfl
section
variable {w w':World}{b:Nat}{qs:List Rat}{v:Value}{rows:List (List Value)}
def QRow.ke(h:QRow w rows qs)(g:KM w w'):QRow w' rows qs:=fun i q hi=>by
 obtain⟨s,A,l,c,s',d,j,c',e,f⟩:=h i q hi;exact⟨s,A,l,c,s',d,j,c',e,f.ke g⟩
def QRow.take(h:QRow w rows qs)(m:Nat):QRow w rows (qs.take m):=fun i q hi=>by
 rw[fC] at hi;split at hi
 ·exact h i q hi
 ·cases hi
def QsAt.be(h:QsAt w v qs)(d:Below w.heap.size w w'):QsAt w' v qs:=by
 obtain⟨A,c,hv,f,h⟩:=h;refine⟨A,c,hv,f,?_⟩;rcases h with h|⟨b,rows,e,j,i,g⟩
 ·exact .inl h
 ·exact .inr ⟨b,rows,e,j.be d,i,g.ke (KM.be d)⟩
def QsAt.drew(h:QsAt w v qs):QsAt w.drew v qs:=h.be (aG _ _).drew
def QsAt.step{A:Option Addr}{l c g:Nat}(h:QsAt w (.slice A l c) qs)(f:r6 g w w')(p:∀b,A=some ⟨b,0,none⟩->b≠g):QsAt w' (.slice A l c) qs:=by
 obtain⟨i,j,e,k,h⟩:=h;refine⟨i,j,e,k,?_⟩;simp only[Value.slice.injEq] at e;obtain⟨rfl,rfl,rfl⟩:=e;rcases h with h|⟨b,rows,e,d,n,m⟩
 ·exact .inl h
 ·exact .inr ⟨b,rows,e,⟨(f.2.2.1 b (p b e)).trans d.1,d.2⟩,n,m.ke f.1⟩
def QsAt.nil(w:World):QsAt w (.slice none 0 0) []:=⟨none,0,rfl,aE,.inl ⟨rfl,rfl⟩⟩
def QsAt.form(h:QsAt w v qs):∃A c,v= .slice A qs.length c∧qs.length<=c:=by
 obtain⟨A,c,hv,d,_⟩:=h;exact⟨A,c,hv,d⟩
def QsAt.cut{A:Option Addr}{c l:Nat}(h:QsAt w (.slice A l c) qs)(m:Nat)(g:m<=qs.length):QsAt w (.slice A m c) (qs.take m):=by
 obtain⟨j,k,e,n,h⟩:=h;simp only[Value.slice.injEq] at e;obtain⟨rfl,rfl,rfl⟩:=e;refine⟨A,c,by rw[bK,gF g],by rw[bK];omega,?_⟩;rcases h with ⟨h,d⟩|⟨b,rows,e,i,p,f⟩
 ·exact .inl ⟨h,by rw[d];simp⟩
 ·exact .inr ⟨b,rows,e,i,by rw[bK];omega,f.take m⟩
def OwnQ.lt(h:OwnQ w b qs):b<w.heap.size:=by
 obtain⟨rows,c,_⟩:=h;exact c.lt
def OwnQ.be(h:OwnQ w b qs)(c:Below w.heap.size w w'):OwnQ w' b qs:=by
 obtain⟨rows,f,e,d⟩:=h;exact⟨rows,f.be c,e,d.ke (KM.be c)⟩
def OwnQ.drew(h:OwnQ w b qs):OwnQ w.drew b qs:=h.be (aG _ _).drew
def OwnQ.step{g:Nat}(h:OwnQ w b qs)(d:r6 g w w')(i:b≠g):OwnQ w' b qs:=by
 obtain⟨rows,c,f,e⟩:=h;exact⟨rows,⟨(d.2.2.1 b i).trans c.1,c.2⟩,f,e.ke d.1⟩
def OwnQ.nums(h:OwnQ w b qs)(c:Nat)(d:qs.length<=c):QsAt w (.slice (some ⟨b,0,none⟩) qs.length c) qs:=by
 obtain⟨rows,g,f,e⟩:=h;exact⟨_,c,rfl,d,.inr ⟨b,rows,rfl,g,f,e⟩⟩
def OwnQ.free(h:OwnQ w b qs)(j:Nat):w.frozen? ⟨b,j,none⟩=false:=by
 obtain⟨rows,c,_⟩:=h;exact c.free j
def OwnQ.at_(h:OwnQ w b qs){i:Nat}{q:Rat}(hi:qs[i]? =some q):
  ∃s B m d s' c j e,R4 w b (i*4) (.bool s) (.slice B m d) (.bool s') (.slice c j e)∧NQ w (.agg #[.bool s,.slice B m d,.bool s',.slice c j e]) q:=by
 obtain⟨rows,g,n,l⟩:=h;obtain⟨s,B,m,d,s',c,j,e,f,k⟩:=l i q hi;exact⟨s,B,m,d,s',c,j,e,⟨g.cell 0 f rfl,g.cell 1 f rfl,g.cell 2 f rfl,g.cell 3 f rfl⟩,k⟩
def QsAt.at_{A:Option Addr}{c l:Nat}(h:QsAt w (.slice A l c) qs){i:Nat}{q:Rat}(hi:qs[i]? =some q):
  ∃b s B m d s' g n j,A=some ⟨b,0,none⟩∧b<w.heap.size∧R4 w b (i*4) (.bool s) (.slice B m d) (.bool s') (.slice g n j)∧NQ w (.agg #[.bool s,.slice B m d,.bool s',.slice g n j]) q:=by
 obtain⟨t,x,e,y,h⟩:=h;simp only[Value.slice.injEq] at e;obtain⟨rfl,rfl,rfl⟩:=e;rcases h with ⟨-,h⟩|⟨b,rows,e,f, -,r⟩
 ·rw[h] at hi;simp at hi
 ·obtain⟨s,B,m,d,s',g,n,j,k,p⟩:=r i q hi;exact⟨b,s,B,m,d,s',g,n,j,e,f.lt,⟨f.cell 0 k rfl,f.cell 1 k rfl,f.cell 2 k rfl,f.cell 3 k rfl⟩,p⟩
def OwnQ.stored(h:OwnQ w b qs){i:Nat}(hi:i<qs.length){s s':Bool}{A p:Option Addr}{l c r c':Nat}{q:Rat}(hn:NQ w (.agg #[.bool s,.slice A l c,.bool s',.slice p r c']) q):
  let W:=(((w.setCell ⟨b,i*4,none⟩ (.bool s)).setCell ⟨b,i*4+1,none⟩ (.slice A l c)).setCell ⟨b,i*4+2,none⟩ (.bool s')).setCell ⟨b,i*4+3,none⟩ (.slice p r c')
  OwnQ W b (qs.set i q)∧r6 b w W:=by
 obtain⟨rows,P,Z,O⟩:=h;obtain⟨s1,D,G,E,t,d,n,f,N,h2⟩:=O i qs[i] (aR hi);have C:i<rows.length:=by omega
 have R:=P.set 0 N (by omega) (.bool s);have K:(rows.set i ([Value.bool s1,.slice D G E,.bool t,.slice d n f].set 0 (.bool s)))[i]? =some [.bool s,.slice D G E,.bool t,.slice d n f]:=by rw[gP C];rfl
 have H:=R.set 1 K (by omega) (.slice A l c);rw[List.set_set] at H;have L:(rows.set i ([Value.bool s,.slice D G E,.bool t,.slice d n f].set 1 (.slice A l c)))[i]? =some [.bool s,.slice A l c,.bool t,.slice d n f]:=by rw[gP C];rfl
 have I:=H.set 2 L (by omega) (.bool s');rw[List.set_set] at I;have M:(rows.set i ([Value.bool s,.slice A l c,.bool t,.slice d n f].set 2 (.bool s')))[i]? =some [.bool s,.slice A l c,.bool s',.slice d n f]:=by rw[gP C];rfl
 have S:=I.set 3 M (by omega) (.slice p r c');rw[List.set_set] at S;have J:=P.cell 0 N rfl;have x:=R.cell 1 K rfl;have y:=H.cell 2 L rfl;have z:=I.cell 3 M rfl;have F:=(((KM.put J (NoInt.bool _) (.bool s)).trans (KM.put x (NoInt.slice _ _ _) (.slice A l c))).trans (KM.put y (NoInt.bool _) (.bool s'))).trans (KM.put z (NoInt.slice _ _ _) (.slice p r c'));refine⟨⟨_,S,by simpa using Z,fun j m k=> ?_⟩,F,(((Keep.put J (NoInt.bool _) _).trans (Keep.put x (NoInt.slice _ _ _) _)).trans (Keep.put y (NoInt.bool _) _)).trans (Keep.put z (NoInt.slice _ _ _) _),fun g B=> ?_,by simp,rfl,rfl,rfl⟩
 ·by_cases e:i=j
  ·subst e;rw[gP hi] at k;injection k with k;subst k;exact⟨s,A,l,c,s',p,r,c',by rw[gP C];rfl,hn.ke F⟩
  ·rw[lI e] at k;obtain⟨x,y,z,T,U,V,X,Y,k1,k2⟩:=O j m k;exact⟨x,y,z,T,U,V,X,Y,by rw[lI e];exact k1,k2.ke F⟩
 ·rw[Below.heap_setCell _ ⟨b,i*4+3,none⟩ _ g B,Below.heap_setCell _ ⟨b,i*4+2,none⟩ _ g B,Below.heap_setCell _ ⟨b,i*4+1,none⟩ _ g B,Below.heap_setCell _ ⟨b,i*4,none⟩ _ g B]
def OwnQ.made{n:Nat}(h:Rw w b 4 (List.replicate n [.bool false,.slice none 0 0,.bool false,.slice none 0 0]) 62):OwnQ w b (List.replicate n 0):=
 ⟨_,h,by simp,fun i m c=>⟨false,none,0,0,false,none,0,0,by
  have:=(List.getElem?_eq_some_iff.1 c).1;rw[dB] at this;rw[j6,if_pos this],by
  have:=j6 (n:=n) (a:=(0:Rat)) (i:=i);rw[c] at this;split at this
  ·injection this with this;subst this;exact NQ.zero w
  ·cases this⟩⟩
def Rw.src{k n:Nat}{t:TypeId}(i:Rw w b k rows t)(d:0<k)(hn:n<=rows.length):Src w (some ⟨b,0,none⟩) (rows.take n).flatten:=by
 have g:∀r∈rows.take n,r.length=k:=fun r h=>i.2 r (lH h);refine .inr ⟨b,0,rfl,fun j u l=> ?_⟩;have p:j<n*k:=by
  have:=(List.getElem?_eq_some_iff.1 l).1;rw[mX g,bK,gF hn] at this;exact this
 have m:j/k<n:=by rw[Nat.div_lt_iff_lt_mul d];exact p
 obtain⟨r,c⟩:∃r,(rows.take n)[j/k]? =some r:=⟨_,aR (by rw[bK];omega)⟩;have f:=mW g c (dI j d);have e:j/k*k+j%k=j:=by rw[dN];exact iD j k
 rw[e,l] at f;rw[fC,if_pos m] at c;have:=i.cell (j%k) c f.symm;rw[e] at this;rw[bA];exact this
def QsAt.srcs{A:Option Addr}{c l:Nat}(h:QsAt w (.slice A l c) qs):
  ∃rows:List (List Value),rows.length=qs.length∧l=qs.length∧(∀r∈rows,r.length=4)∧Src w A rows.flatten∧QRow w rows qs∧∀u∈rows.flatten,u.oneCell'=true:=by
 obtain⟨f,g,e,F,h⟩:=h;simp only[Value.slice.injEq] at e;obtain⟨rfl,rfl,rfl⟩:=e;rcases h with ⟨rfl,rfl⟩|⟨b,rows,rfl,n,C,B⟩
 ·exact⟨[],rfl,rfl,(fun _ h=>by cases h),.inl rfl,(fun i q h=>by simp at h),(fun _ h=>by cases h)⟩
 ·have j:QRow w (rows.take qs.length) qs:=fun i q m=>by
   obtain⟨s,A,l,c,x,f,t,g,d,y⟩:=B i q m;exact⟨s,A,l,c,x,f,t,g,by rw[fC,if_pos (List.getElem?_eq_some_iff.1 m).1];exact d,y⟩
  refine⟨rows.take qs.length,by rw[bK];omega,rfl,fun r h=>n.2 r (lH h),n.src (by decide) C,j,fun u E=> ?_⟩;obtain⟨r,D,p⟩:=List.mem_flatten.1 E;obtain⟨i,k⟩:=List.mem_iff_getElem?.1 D;have z:=(List.getElem?_eq_some_iff.1 k).1;rw[bK] at z;obtain⟨s,A,l,c,x,f,t,g,d,_⟩:=j i _ (aR (by omega));rw[k] at d;injection d with d;subst d;simp at p;rcases p with rfl|rfl|rfl|rfl<;>rfl
def EA{p n:Nat}(h:w.ownsRow p 62 4 v n rows.flatten)(J:∀r∈rows,r.length=4)(hn:rows.length=n)(z:qs.length=n)(hi:QRow w rows qs):
  QsAt w v qs∧(v= .slice none 0 0∨∃g d,v= .slice (some ⟨g,0,none⟩) n d∧p<=g∧OwnQ w g qs):=by
 rcases h.2 with ⟨rfl,O⟩|⟨g,d,E,rfl,H,I,R,U,K,L⟩
 ·obtain rfl:qs=[]:=bX (by omega);exact⟨QsAt.nil w,.inl rfl⟩
 ·obtain⟨B,P,q,e⟩:=BO 4 d E.toList (by simpa using K);have t:OwnQ w g qs:=by
   refine⟨B,⟨by unfold Bx;rw[I,q],e⟩,by omega,fun i m y=> ?_⟩;obtain⟨s,A,l,c,N,C,M,D,F,G⟩:=hi i m y;refine⟨s,A,l,c,N,C,M,D,?_,G⟩;have S:i<n:=by rw[<-z];exact(List.getElem?_eq_some_iff.1 y).1
   obtain⟨k,f⟩:∃k,B[i]? =some k:=⟨_,aR (by omega)⟩;rw[f];congr 1;have T:=e k (dG f);refine List.ext_getElem? (fun j=> ?_);by_cases x:j<4
   ·rw[<-mW e f x,<-mW J F x,q,<-L,fC,if_pos (by omega)]
   ·rw[fU (by omega),fU (by simp;omega)]
  have:=t.nums d (by omega);rw[z] at this;exact⟨this,.inr ⟨g,d,rfl,H,t⟩⟩
def MM(w:World):(w.alloc (.cells #[] 62)).ownsRow w.heap.size 62 4 (.slice (some ⟨w.heap.size,0,none⟩) 0 0) 0 []:=
 ⟨by simp,.inr ⟨w.heap.size,0,#[],rfl,aE,heap_alloc_new w _,aE,by decide,rfl,rfl⟩⟩
end
section
variable {w:World}{ops:Array Oper}{rest:List Oper}{o:Oper}{a:Act}{Q:Exit->Act->World->Prop}
def yT(y:o.guard=none){s x:Operand}(C:o.op= .call { callee:= .builtin .append,args:= #[s,x],argTypes:= #[52,52] })
  (F:a.eval s= .slice (some ⟨w.heap.size,0,none⟩) 0 0){A:Option Addr}{l c:Nat}{qs:List Rat}(H:a.eval x= .slice A l c)(E:QsAt w (.slice A l c) qs)(I:qs.length<=1073741824)
  (h:∀d w',QsAt w' d qs->(d= .slice none 0 0∨∃g p,d= .slice (some ⟨g,0,none⟩) qs.length p∧w.heap.size<=g∧OwnQ w' g qs)->Below w.heap.size w w'->wpList prog ops Q rest (a.put o.dst d) w'):
  wpList prog ops Q (o :: rest) a (w.alloc (.cells #[] 62)):=by
 have t:Below w.heap.size w (w.alloc (.cells #[] 62)):=(aG _ _).alloc aE _;obtain⟨rows,n,rfl,m,G,z,D⟩:=E.srcs;refine gM y C 62 _ 4 64 underlying52 sJ rfl (by decide) w.heap.size (.slice (some ⟨w.heap.size,0,none⟩) 0 0) 0 [] F (MM w) rows.flatten H (by rw[mX m,n]) (G.be t) D (by omega) (by omega) (by simp) ?_;intro d w' j f _;have i:Below w.heap.size w w':=⟨f.os,f.tape,f.output,aH (by simp) f.size,fun k B=>(f.block k (by simp;omega) (fun e=>by simp[Value.ownBlock] at e;omega)).trans (Below.heap_alloc w _ k B)⟩;rw[bA,iM] at j;obtain⟨q,r⟩:=EA j m n rfl (z.ke (KM.be i));exact h d w' q r i
end
section
variable {a b:World}[u:Up a b]
def QsAt.up{v:Value}{qs:List Rat}(h:QsAt a v qs):QsAt b v qs:=h.be u.out
def OwnQ.up{g:Nat}{qs:List Rat}(h:OwnQ a g qs):OwnQ b g qs:=h.be u.out
def R4.up{g o:Nat}{d e f i:Value}(h:R4 a g o d e f i)(c:g<a.heap.size):R4 b g o d e f i:=
 ⟨(u.out.cell (p:=⟨g,o,none⟩) c).trans h.1,(u.out.cell (p:=⟨g,o+1,none⟩) c).trans h.2.1,(u.out.cell (p:=⟨g,o+2,none⟩) c).trans h.2.2.1,(u.out.cell (p:=⟨g,o+3,none⟩) c).trans h.2.2.2⟩
end
def R4.old{w w':World}{B g o:Nat}{e f i j:Value}(h:R4 w g o e f i j)(c:Below B w w')(d:g<B):R4 w' g o e f i j:=
 ⟨(c.cell (p:=⟨g,o,none⟩) d).trans h.1,(c.cell (p:=⟨g,o+1,none⟩) d).trans h.2.1,(c.cell (p:=⟨g,o+2,none⟩) d).trans h.2.2.1,(c.cell (p:=⟨g,o+3,none⟩) d).trans h.2.2.2⟩
def yU(w:World)(v:Value):Prop:=∀g,v.ownBlock=some g->∀cur t f,w.heap[g]? =some (.cells cur t f)->∀y∈cur.toList,NoInt y
def GrowQ(w:World)(c:Nat)(v:Value)(qs:List Rat):Prop:=(∃rows,w.ownsRow c 62 4 v qs.length rows.flatten∧rows.length=qs.length∧(∀r∈rows,r.length=4)∧QRow w rows qs)∧yU w v
def GrowQ.nil(w:World){c:Nat}:GrowQ w c (.slice none 0 0) []:=⟨⟨[],World.ownsRow_nil _ _ _ _,rfl,(fun _ h=>by cases h),(fun i q h=>by simp at h)⟩,fun g h=>by simp[Value.ownBlock] at h⟩
def GrowQ.nums{w:World}{c:Nat}{v:Value}{qs:List Rat}(h:GrowQ w c v qs):QsAt w v qs:=by
 obtain⟨⟨rows,d,e,f,g⟩, -⟩:=h;exact(EA d f e rfl g).1
def GrowQ.be{w w':World}{l:Nat}{v:Value}{qs:List Rat}(h:GrowQ w l v qs)(k:Below w.heap.size w w'):GrowQ w' l v qs:=by
 obtain⟨⟨rows,j,n,p,q⟩,s⟩:=h;have x:∀g,v.ownBlock=some g->g<w.heap.size:=fun g e=>by
  rcases j.2 with ⟨rfl,_⟩|⟨i,m,d,rfl,_,c,_⟩
  ·simp[Value.ownBlock] at e
  ·simp[Value.ownBlock] at e;subst e;exact(Array.getElem?_eq_some_iff.1 c).1
 refine⟨⟨rows,⟨j.1,?_⟩,n,p,q.ke (KM.be k)⟩,fun g e d t f c=>s g e d t f ((k.block g (x g e)).symm.trans c)⟩;rcases j.2 with h|⟨i,m,d,rfl,r,c,h⟩
 ·exact .inl h
 ·exact .inr ⟨i,m,d,rfl,r,(k.block i (Array.getElem?_eq_some_iff.1 c).1).trans c,h⟩
def GrowQ.drew{w:World}{c:Nat}{v:Value}{qs:List Rat}(h:GrowQ w c v qs):GrowQ w.drew c v qs:=h.be (aG _ _).drew
def GrowQ.up{a b:World}[u:Up a b]{c:Nat}{v:Value}{qs:List Rat}(h:GrowQ a c v qs):GrowQ b c v qs:=h.be u.out
def MN(n:Nat):∀y∈Builtin.zeroCells #[Value.bool false,.slice none 0 0,.bool false,.slice none 0 0] n,NoInt y:=fun y c=>by
 unfold Builtin.zeroCells at c;obtain⟨j,_,rfl⟩:=Array.mem_map.1 c;have d:(#[Value.bool false,.slice none 0 0,.bool false,.slice none 0 0]:Array Value).size=4:=rfl;rw[d];rcases(show j%4=0∨j%4=1∨j%4=2∨j%4=3 by omega) with h|h|h|h<;>rw[h]
 ·exact NoInt.bool _
 ·exact NoInt.slice _ _ _
 ·exact NoInt.bool _
 ·exact NoInt.slice _ _ _
def MO(w:World)(U:TypeId){R:Nat}{v:Value}{qs:List Rat}(hG:GrowQ w R v qs){g c:Nat}
  {E F:Bool}{l n:Option Addr}{C D s z:Nat}(hB:Bx w g [.bool E,.slice l C s,.bool F,.slice n D z] 62){q:Rat}(hq:NQ w (.agg #[.bool E,.slice l C s,.bool F,.slice n D z]) q)(hl:qs.length<=1073741824)(hb:R<=w.heap.size):
  ∃V w',(Builtin.append_ #[52,52] U #[v,.slice (some ⟨g,0,none⟩) 1 c]).run prog w= .ok V w'∧GrowQ w' R V (qs++[q])∧Below R w w':=by
 obtain⟨⟨rows,M,h2,h3,h4⟩,hN⟩:=hG;obtain⟨i,X,ae,S,af⟩:=info_parts sJ;have Y:∀j u,[Value.bool E,.slice l C s,.bool F,.slice n D z][j]? =some u->w.cell? ((⟨g,0,none⟩:Addr).add j)=some u:=fun j u J=>by
  have:=hB.cell j J;unfold Addr.add;split
  ·rename_i W;subst W;exact this
  ·simpa using this
 have Z:∀u∈[Value.bool E,.slice l C s,.bool F,.slice n D z],NoInt u∧u.oneCell'=true:=fun u J=>by
  simp at J;rcases J with rfl|rfl|rfl|rfl
  ·exact⟨NoInt.bool _,rfl⟩
  ·exact⟨NoInt.slice _ _ _,rfl⟩
  ·exact⟨NoInt.bool _,rfl⟩
  ·exact⟨NoInt.slice _ _ _,rfl⟩
 obtain⟨V,w',H,ho,N,_,av⟩:=run_append_own_at (P:=prog) w R 52 U 62 i _ 4 64 underlying52 X ae S af rfl (by decide) v qs.length _ M ⟨g,0,none⟩ 1 c [.bool E,.slice l C s,.bool F,.slice n D z] rfl Y (fun u J=>(Z u J).2) (by unfold maxLen;omega) (by omega) hb
 have ai:KM w w':=⟨N.size,fun p k x T=>by
  obtain⟨b,o,sp⟩:=p;obtain rfl:sp=none:=World.cell?_spot T;by_cases e:v.ownBlock=some b
  ·rcases M.2 with ⟨rfl,_⟩|⟨B,K,A,rfl,_,O,_⟩
   ·simp[Value.ownBlock] at e
   ·have L:B=b:=by simpa [Value.ownBlock] using e
    subst L;rw[cell_of_row w B o A _ (0,0) O,<-Array.getElem?_toList] at T;exact absurd rfl (hN B e A _ _ O _ (dG T) k x)
  ·exact(World.cell?_of_block (N.block b (block_lt_of_cell (a:=⟨b,o,none⟩) T) (fun e'=>e e'.symm))).trans T⟩
 have aj:Below R w w':=⟨N.os,N.tape,N.output,N.size,fun k hk=>N.block k (by omega) (fun e=>by
  rcases M.2 with ⟨rfl,_⟩|⟨B,_,_,rfl,aw,_⟩
  ·simp[Value.ownBlock] at e
  ·simp[Value.ownBlock] at e;omega)⟩
 have ak:yU w' V:=by
  have ag:∀(ac:List Value) (K m:Nat),(∀y∈ac,NoInt y)->yU (w.drew.alloc (.cells (ac.toArray++[Value.bool E,.slice l C s,.bool F,.slice n D z].toArray++Builtin.zeroCells #[Value.bool false,.slice none 0 0,.bool false,.slice none 0 0] m) 62)) (.slice (some ⟨w.heap.size,0,none⟩) (qs.length+1) K):=fun ac K m hv B e A t f hc=>by
   simp[Value.ownBlock] at e;subst e;have:=heap_alloc_new w.drew (.cells (ac.toArray++[Value.bool E,.slice l C s,.bool F,.slice n D z].toArray++Builtin.zeroCells #[Value.bool false,.slice none 0 0,.bool false,.slice none 0 0] m) 62);have h5:=this.symm.trans hc;simp only[Option.some.injEq,Obj.cells.injEq] at h5;rw[<-h5.1];intro y d;rw[Array.toList_append,Array.toList_append] at d;rcases List.mem_append.1 d with d|d
   ·rcases List.mem_append.1 d with d|d
    ·exact hv y d
    ·exact(Z y d).1
   ·exact MN m y (Array.mem_toList_iff.1 d)
  rcases M.2 with ⟨rfl,W⟩|⟨B,K,A,rfl,au,O,ay,ax,hs,ht⟩
  ·have I:=run_append_nil (P:=prog) w 52 U 62 i _ underlying52 X ae ⟨g,0,none⟩ 1 c [.bool E,.slice l C s,.bool F,.slice n D z] (by rw[S];rfl) Y (by decide) (by decide) (by rw[af];decide);rw[H] at I;injection I with e1 L;subst e1 L;have an:qs.length=0:=by omega
   have:=ag [] (grownCap w 1 0 62) (grownCap w 1 0 62-1) (fun _ h=>by cases h);rw[an] at this;exact this
  ·have ad:∀y∈A.toList,NoInt y:=hN B rfl A _ _ O;by_cases ao:qs.length+1<=K
   ·have I:=run_append_room (P:=prog) w 52 U 62 i underlying52 X B qs.length K A O ⟨g,0,none⟩ 1 c [.bool E,.slice l C s,.bool F,.slice n D z] (by rw[S];rfl) Y (fun u J=>(Z u J).2) ao (by rw[S,hs];simp;omega);rw[H] at I;injection I with e1 L;subst e1 L;intro g3 e ar t f hc;simp[Value.ownBlock] at e;subst e;have h7:=(setRow_heap w B A _ 62 _ O).symm.trans hc;simp only[Option.some.injEq,Obj.cells.injEq] at h7;rw[<-h7.1];intro y d;have aq:y∈A.toList.take (qs.length*i.size)++[Value.bool E,.slice l C s,.bool F,.slice n D z]++A.toList.drop (qs.length*i.size+4):=d;rcases List.mem_append.1 aq with d|d
    ·rcases List.mem_append.1 d with d|d
     ·exact ad y (lH d)
     ·exact(Z y d).1
    ·exact ad y (List.mem_of_mem_drop d)
   ·have am:∀j y,(A.toList.take (qs.length*4))[j]? =some y->w.cell? ((⟨B,0,none⟩:Addr).add j)=some y:=fun j y G=>by
     have M:w.cell? ⟨B,j,none⟩=some y:=by
      rw[cell_of_row w B j A _ (0,0) O,<-Array.getElem?_toList];rw[fC] at G;split at G
      ·exact G
      ·cases G
     unfold Addr.add;split
     ·rename_i W;subst W;exact M
     ·simpa using M
    have I:=run_append_grow (P:=prog) w 52 U 62 i _ underlying52 X ae ⟨B,0,none⟩ qs.length K (A.toList.take (qs.length*4)) (by rw[S,bK];simp;omega) am ⟨g,0,none⟩ 1 c [.bool E,.slice l C s,.bool F,.slice n D z] (by rw[S];rfl) Y (by omega) (by omega) (growslice_fits (by omega) (by rw[af];omega));rw[H] at I;injection I with e1 L;subst e1 L;exact ag _ _ _ (fun y d=>ad y (lH d))
 refine⟨V,w',H,⟨⟨rows++[[.bool E,.slice l C s,.bool F,.slice n D z]],?_,by simp[h2],fun r H=> ?_,fun j x G=> ?_⟩,ak⟩,aj⟩
 ·rw[bE,List.flatten_append];simpa using ho
 ·rcases List.mem_append.1 H with H|H
  ·exact h3 r H
  ·rw[List.mem_singleton.1 H];rfl
 ·rcases dE j qs.length with ah|ah
  ·rw[gA ah] at G;obtain⟨a1,a2,a3,a4,a5,a6,a7,a8,x1,x2⟩:=h4 j x G;exact⟨a1,a2,a3,a4,a5,a6,a7,a8,by rw[gA (by omega)];exact x1,x2.ke ai⟩
  ·have al:=(List.getElem?_eq_some_iff.1 G).1;rw[bE,iJ] at al;obtain rfl:j=qs.length:=by omega
   rw[fK aE,Nat.sub_self] at G;have ap:x=q:=by simpa using G.symm
   subst ap;exact⟨E,l,C,s,F,n,D,z,by rw[fK (by omega),h2,Nat.sub_self];rfl,hq.ke ai⟩
def MP{w:World}{ops:Array Oper}{o:Oper}{a:Act}{K:Act->World->Prop}{Q:Exit->Act->World->Prop}{E:Prop}(B:o.guard=none){s x:Operand}
  (D:o.op= .call { callee:= .builtin .append,args:= #[s,x],argTypes:= #[52,52] }){d:Nat}{v:Value}{qs:List Rat}(H:a.eval s=v)(z:GrowQ w d v qs){g c:Nat}(J:a.eval x= .slice (some ⟨g,0,none⟩) 1 c)
  {n p:Bool}{f i:Option Addr}{l m j k:Nat}(y:Bx w g [.bool n,.slice f l j,.bool p,.slice i m k] 62){q:Rat}(F:NQ w (.agg #[.bool n,.slice f l j,.bool p,.slice i m k]) q)(C:qs.length<=1073741824)(A:d<=w.heap.size)
  (h:∀e w',GrowQ w' d e (qs++[q])->Below d w w'->K (a.put o.dst e) w'):if Region.wanted o (yielded ops a.tmps)=true then Oper.wp prog o a w K Q else E:=by
 have I:Region.wanted o (yielded ops a.tmps)=true:=by simp[Region.wanted,B]
 rw[if_pos I];obtain⟨e,w',G,r,t⟩:=MO w o.type z y F C A (c:=c);unfold Oper.wp execOp;simp only[D,resolve,invoke,builtin,Sem.run_bind,Sem.run_pure,Result.andThen_ok,List.map_toArray,fM,List.map_nil,H,J,G];exact h e w' r t
abbrev C5(w:World)(b:Nat)(v0 v1 v2 v3 v4:Value):Prop:=w.cell? ⟨b,0,none⟩=some v0∧w.cell? ⟨b,1,none⟩=some v1∧w.cell? ⟨b,2,none⟩=some v2∧w.cell? ⟨b,3,none⟩=some v3∧w.cell? ⟨b,4,none⟩=some v4
abbrev C6(w:World)(b:Nat)(v0 v1 v2 v3 v4 a:Value):Prop:=w.cell? ⟨b,0,none⟩=some v0∧w.cell? ⟨b,1,none⟩=some v1∧w.cell? ⟨b,2,none⟩=some v2∧w.cell? ⟨b,3,none⟩=some v3∧w.cell? ⟨b,4,none⟩=some v4∧w.cell? ⟨b,5,none⟩=some a
abbrev C8(w:World)(b:Nat)(v0 v1 v2 v3 v4 a c d:Value):Prop:=w.cell? ⟨b,0,none⟩=some v0∧w.cell? ⟨b,1,none⟩=some v1∧w.cell? ⟨b,2,none⟩=some v2∧w.cell? ⟨b,3,none⟩=some v3∧w.cell? ⟨b,4,none⟩=some v4∧w.cell? ⟨b,5,none⟩=some a∧w.cell? ⟨b,6,none⟩=some c∧w.cell? ⟨b,7,none⟩=some d
section
variable {w W:World}{b g o B:Nat}{t:TypeId}{v0 v1 v2 v3 v4 u:Value}{cs:List Value}
def Bx.k5(h:Bx w b [v0,v1,v2,v3,v4] t):C5 w b v0 v1 v2 v3 v4:=⟨h.cell 0 rfl,h.cell 1 rfl,h.cell 2 rfl,h.cell 3 rfl,h.cell 4 rfl⟩
def Bx.g5(h:Bx w b [v0,v1,v2,v3,v4] t):C5 w b v0 v1 v2 v3 v4∧Fz w b:=⟨h.k5,h.free⟩
def Bx.k6{v0 v1 v2 v3 v4 a:Value}(h:Bx w b [v0,v1,v2,v3,v4,a] t):C6 w b v0 v1 v2 v3 v4 a:=⟨h.cell 0 rfl,h.cell 1 rfl,h.cell 2 rfl,h.cell 3 rfl,h.cell 4 rfl,h.cell 5 rfl⟩
def Bx.g6{v0 v1 v2 v3 v4 a:Value}(h:Bx w b [v0,v1,v2,v3,v4,a] t):C6 w b v0 v1 v2 v3 v4 a∧Fz w b:=⟨h.k6,h.free⟩
def Bx.k8{v0 v1 v2 v3 v4 a c d:Value}(h:Bx w b [v0,v1,v2,v3,v4,a,c,d] t):C8 w b v0 v1 v2 v3 v4 a c d:=⟨h.cell 0 rfl,h.cell 1 rfl,h.cell 2 rfl,h.cell 3 rfl,h.cell 4 rfl,h.cell 5 rfl,h.cell 6 rfl,h.cell 7 rfl⟩
def Bx.g8{v0 v1 v2 v3 v4 a c d:Value}(h:Bx w b [v0,v1,v2,v3,v4,a,c,d] t):C8 w b v0 v1 v2 v3 v4 a c d∧Fz w b:=⟨h.k8,h.free⟩
def NatAt.puti{n:Nat}(h:NatAt w u n){p:Addr}{c:Int}(a:w.cell? p=some (.int .i64 c))(v:Value):NatAt (w.setCell p v) u n:=by
 obtain⟨A,f,hv,j,d,q⟩:=h;refine⟨A,f,hv,j,?_,q.mono (by simp)⟩;rcases d with d|⟨b,r,rfl,m,k⟩
 ·exact .inl d
 ·refine .inr ⟨b,r,rfl,by simpa using m,fun i l=> ?_⟩;have e:=k i l;rw[World.cell?_setCell_other _ _ _ _ ?_,e];rintro rfl;rw[e] at a;injection a with a;injection a with a;cases a
def Keep.puti{p:Addr}{c:Int}(a:w.cell? p=some (.int .i64 c))(v:Value):Keep w (w.setCell p v):=fun _ _ h=>h.puti a v
def Bx.put5(h:Bx W b cs t)(D:Below B w W)(c:B<=b)(v0 v1 v2 v3 v4:Value){e f i j:Value}{k:Int}(E:cs=[e,f,i,j,.int .i64 k])(hn:(cS (some e)&&(cS (some f)&&(cS (some i)&&cS (some j))))=true):
  ∃a,((((W.setCell ⟨b,0,none⟩ v0).setCell ⟨b,1,none⟩ v1).setCell ⟨b,2,none⟩ v2).setCell ⟨b,3,none⟩ v3).setCell ⟨b,4,none⟩ v4=a∧Bx a b [v0,v1,v2,v3,v4] t∧Below B w a∧Keep W a∧∀{g:Nat} {cs:List Value} {t:TypeId},Bx W g cs t->b≠g->Bx a g cs t:=by
 subst E;simp only[Bool.and_eq_true] at hn;obtain⟨J,rfl,z,m,F,s⟩:=h.put1 D c 0 v0 hn.1;obtain⟨K,rfl,A,n,G,v⟩:=z.put1 m c 1 v1 hn.2.1;obtain⟨L,rfl,C,q,H,x⟩:=A.put1 n c 2 v2 hn.2.2.1;obtain⟨M,rfl,l,r,I,y⟩:=C.put1 q c 3 v3 hn.2.2.2;exact⟨_,rfl,l.set 4 v4,r.setCell (p:=⟨b,4,none⟩) c v4,(((F.trans G).trans H).trans I).trans (Keep.puti (l.cell 4 rfl) v4),fun k d=>(y (x (v (s k d) d) d) d).far 4 v4 d⟩
end
def EndAt(w:World)(v:Value)(i:Int)(x:Rat):Prop:=∃s A k c s' a d c',v= .agg #[.bool s,.slice A k c,.bool s',.slice a d c',.int .i64 i]∧RatAt w (.agg #[.bool s,.slice A k c,.bool s',.slice a d c']) x
def EndAt.be{w W:World}{v:Value}{i:Int}{x:Rat}(h:EndAt w v i x)(f:Below w.heap.size w W):EndAt W v i x:=by
 obtain⟨s,A,k,c,l,a,j,d,e,h⟩:=h;exact⟨s,A,k,c,l,a,j,d,e,h.be f⟩
def EndAt.up{a b:World}[u:Up a b]{v:Value}{i:Int}{x:Rat}(h:EndAt a v i x):EndAt b v i x:=h.be u.out
def EndAt.form{w:World}{v:Value}{i:Int}{x:Rat}(h:EndAt w v i x):∃s A k c s' a d c',v= .agg #[.bool s,.slice A k c,.bool s',.slice a d c',.int .i64 i]:=by
 obtain⟨s,A,k,c,s',a,d,c',e,h⟩:=h;exact⟨s,A,k,c,s',a,d,c',e⟩
def EndAt.rat{w:World}{s:Bool}{A:Option Addr}{k c:Nat}{s':Bool}{a:Option Addr}{d c':Nat}{i:Int}{x:Rat}(h:EndAt w (.agg #[.bool s,.slice A k c,.bool s',.slice a d c',.int .i64 i]) i x):RatAt w (.agg #[.bool s,.slice A k c,.bool s',.slice a d c']) x:=by
 obtain⟨s,A,k,c,s',a,d,c',e,h⟩:=h;simp only[Value.agg.injEq,Array.mk.injEq,List.cons.injEq,Value.bool.injEq,Value.slice.injEq] at e;obtain⟨rfl,⟨rfl,rfl,rfl⟩,rfl,⟨rfl,rfl,rfl⟩, -⟩:=e;exact h
def EndAt.of{w:World}{s:Bool}{A:Option Addr}{k c:Nat}{s':Bool}{a:Option Addr}{d c':Nat}{i:Int}{x:Rat}(h:RatAt w (.agg #[.bool s,.slice A k c,.bool s',.slice a d c']) x):EndAt w (.agg #[.bool s,.slice A k c,.bool s',.slice a d c',.int .i64 i]) i x:=⟨_,_,_,_,_,_,_,_,rfl,h⟩
def nG(a b:World)[u:Up (a.alloc Z0) b]:Bx b a.heap.size [.bool false,.slice none 0 0] 40∧(C2 b a.heap.size (.bool false) (.slice none 0 0)∧Fz b a.heap.size)∧(∀o:Obj,C2 (b.alloc o) a.heap.size (.bool false) (.slice none 0 0)∧Fz (b.alloc o) a.heap.size)∧a.heap.size≠b.heap.size∧b.heap.size≠a.heap.size:=by
 have D:Bx b a.heap.size [.bool false,.slice none 0 0] 40:=(Bx.newAt a [.bool false,.slice none 0 0] 40 a.heap.size rfl).be u.out;exact⟨D,dd D⟩
def pH(a b:World)[u:Up ((a.alloc Z0).alloc Z0) b]:Bx b (a.heap.size+1) [.bool false,.slice none 0 0] 40∧(C2 b (a.heap.size+1) (.bool false) (.slice none 0 0)∧Fz b (a.heap.size+1))∧(∀o:Obj,C2 (b.alloc o) (a.heap.size+1) (.bool false) (.slice none 0 0)∧Fz (b.alloc o) (a.heap.size+1))∧a.heap.size+1≠b.heap.size∧b.heap.size≠a.heap.size+1:=by
 have D:Bx b (a.heap.size+1) [.bool false,.slice none 0 0] 40:=(Bx.newAt (a.alloc Z0) [.bool false,.slice none 0 0] 40 (a.heap.size+1) (World.size_alloc _ _)).be u.out;exact⟨D,dd D⟩
def RatAt.int{w:World}{s s':Bool}{u a:Value}{n:Int}(b:IntAt w (.agg #[.bool s,u]) n)(c:IntAt w (.agg #[.bool s',a]) 0):RatAt w (.agg #[.bool s,u,.bool s',a]) (n:Rat):=
 RatAt.of b c rfl (fV.2 rfl)
def tO:nl (Int.natAbs 0)<=17592186044416:=by rw[show Int.natAbs 0=0 from rfl,dO];exact dC _
def UV(n:Int):bS (n:Rat)=0:=fV.2 rfl
def BZ(n:Int)(f:Value)(w:World)(hn:IntAt w f n):
  Calls prog 27 #[f] w (iF w (n:Rat)):=by
 obtain⟨d,a,c,b,rfl⟩:=hn.form;have h:Bx ((w.alloc (.cells #[.bool d,.slice a c b] 40)).alloc (.cells #[.bool false,.slice none 0 0,.bool false,.slice none 0 0] 47)) (w.heap.size) [.bool d,.slice a c b] 40:=(Bx.newAt w [.bool d,.slice a c b] 40 (w.heap.size) (by simp)).alloc (.cells #[.bool false,.slice none 0 0,.bool false,.slice none 0 0] 47);have R:Bx ((w.alloc (.cells #[.bool d,.slice a c b] 40)).alloc (.cells #[.bool false,.slice none 0 0,.bool false,.slice none 0 0] 47)) (w.heap.size+1) [.bool false,.slice none 0 0,.bool false,.slice none 0 0] 47:=Bx.newAt (w.alloc (.cells #[.bool d,.slice a c b] 40)) [.bool false,.slice none 0 0,.bool false,.slice none 0 0] 47 (w.heap.size+1) (by simp);have g:Below w.heap.size w ((w.alloc (.cells #[.bool d,.slice a c b] 40)).alloc (.cells #[.bool false,.slice none 0 0,.bool false,.slice none 0 0] 47)):=((aG _ _).alloc (by simp) _).alloc (by simp<;>omega) _;go_enter func27,ntmps27;go_wp2_with fail;have i:=hn.be g;have e:=((aG w.heap.size w).alloc aE (.cells #[.bool d,.slice a c b] 40)).alloc (by simp) (.cells #[.bool d,.slice a c b,.bool false,.slice none 0 0] 47);exact aM (v:= .agg #[.bool d,.slice a c b,.bool false,.slice none 0 0]) (by simp[results,results27,go_sem]) rfl ⟨_,rfl,RatAt.int (hn.be e) (IntAt.zero _),e⟩
def UU(x:Rat)(v:Value)(w:World)(hv:RatAt w v x):Calls prog 114 #[v] w (dW w x.num):=by
 obtain⟨d,a,c,b,i,f,h,g,rfl⟩:=hv.form;have e:=((aG w.heap.size w).alloc aE (.cells #[.bool d,.slice a c b,.bool i,.slice f h g] 47)).alloc (by simp) (.cells #[.bool d,.slice a c b] 40);go_enter func114,ntmps114;go_wp2_with fail;exact aM (v:= .agg #[.bool d,.slice a c b]) (by simp[results,results114,go_sem]) rfl ⟨_,rfl,hv.num.be e,e⟩
def tN(x:Rat)(v:Value)(w:World)(hv:RatAt w v x)(D:nl x.den<=17592186044416):Calls prog 74 #[v] w (dW w (x.den:Int)):=by
 obtain⟨E,y,C,B,s,j,q,l,rfl⟩:=hv.form;have p:=aH (mY x) D;obtain⟨W,u,a,X,R⟩:=eL w [.bool E,.slice y C B,.bool s,.slice j q l] 47 [.bool false,.slice none 0 0] 40;have h:=aa X.g4 R.g2;go_enter func74,ntmps74;go_wp2_with fail;(try rw[u]);clear u;have b:=(hv.be a).den;refine(g9 (bS x) _ _ b p).mono ?_;rintro G J ⟨rfl,i⟩;replace X:=X.be i;replace R:=R.be i;replace h:=aa X.k4 R.g2;replace g:=Keep.be i;replace b:=b.ke g;replace a:=aC a i;by_cases e:x.den=1
 ·have f:decide (bS x=0)=true:=by rw[iQ,fV];exact e
  have z:Hid ((x.den:Int)=1):=by unfold Hid;omega
  rw[f];clear f e p;go_wp2_with fail;refine(lL 1 _ (by decide) (by decide)).mono ?_;rintro H F ⟨I,rfl,c,o⟩;obtain⟨t,k,r,m,rfl⟩:=c.form;replace X:=X.be o;replace R:=R.be o;replace h:=aa X.k4 R.g2;replace a:=aC a o;go_wp2_with fail;replace c:IntAt F (.agg #[.bool t,.slice k r m]) (x.den:Int):=by rw[z.out];exact c
  obtain⟨A,d,R,a,g,n⟩:=R.put2 a (by omega) (.bool t) (.slice k r m) rfl rfl;replace X:=n X (by omega);replace c:=c.ke g;rw[d];clear d;replace h:=aa X.k4 R.k2;exact aM (v:= .agg #[.bool t,.slice k r m]) (by simp[results,results74,go_sem,R.k2]) rfl ⟨_,rfl,c,a⟩
 ·have f:decide (bS x=0)=false:=by rw[jA,fV];exact e
  rw[f];rw[mI e] at b;clear f e p;go_wp2_with fail;obtain⟨A,d,R,a,g,n⟩:=R.put2 a (by omega) (.bool s) (.slice j q l) rfl rfl;replace X:=n X (by omega);replace b:=b.ke g;rw[d];clear d;replace h:=aa X.k4 R.k2;exact aM (v:= .agg #[.bool s,.slice j q l]) (by simp[results,results74,go_sem,R.k2]) rfl ⟨_,rfl,b,a⟩
def RatAt.denN{w:World}{s s':Bool}{u a:Value}{q:Rat}(h:RatAt w (.agg #[.bool s,u,.bool s',a]) q)(b:q.den≠1):IntAt w (.agg #[.bool s',a]) (q.den:Int):=by
 have:=h.den;rwa [mI b] at this
def J7(x y:Rat)(vx vy:Value)(w:World)(u:RatAt w vx x)(B:RatAt w vy y)(z:x.den=1)(D:y.den=1)(K:Nat)(bx:RL K x)(bY:RL K y)(hK:10*K+40<=aJ):
  Calls prog 43 #[vx,vy] w (iF w (x+y)):=by
 obtain⟨s,A,k,c,V,E,S,I,rfl⟩:=u.form;obtain⟨t,C,l,e,t',G,U,N,rfl⟩:=B.form;unfold aJ at hK;have⟨ac,ad⟩:=bx;have⟨ae,af⟩:=bY;obtain⟨o,p⟩:=BT (y:=y) z;rw[D] at o p;have H:Hid ((x+y).num=x.num+y.num∧bS (x+y)=0):=⟨by rw[o];simp,fV.2 p⟩;have L:bS x=0:=fV.2 z;have M:bS y=0:=fV.2 D;clear o p;obtain⟨W,O,a,X,Y,R⟩:=gE w [.bool s,.slice A k c,.bool V,.slice E S I] 47 [.bool t,.slice C l e,.bool t',.slice G U N] 47 [.bool false,.slice none 0 0,.bool false,.slice none 0 0] 47;have n:=aa X.g4 (aa Y.g4 R.g4);go_enter func43,ntmps43;go_wp2_with fail;(try rw[O]);clear O;have i:IntAt W (.agg #[.bool s,.slice A k c]) x.num:=(u.be a).num;have h:IntAt W (.agg #[.bool V,.slice E S I]) 0:=by have:=(u.be a).den;rwa [L] at this
 have m:IntAt W (.agg #[.bool t,.slice C l e]) y.num:=(B.be a).num;have j:IntAt W (.agg #[.bool t',.slice G U N]) 0:=by have:=(B.be a).den;rwa [M] at this
 clear L M z D;generalize x.num=xn at *;generalize y.num=yn at *;refine(g9 0 _ _ h tO).mono ?_;rintro o w1 ⟨rfl,d⟩;replace X:=X.be d;replace Y:=Y.be d;replace R:=R.be d;replace n:=aa X.k4 (aa Y.k4 R.g4);replace b:=Keep.be d;replace i:=i.ke b;replace h:=h.ke b;replace m:=m.ke b;replace j:=j.ke b;replace a:=aC a d;have g:decide ((0:Int)=0)=true:=rfl;rw[g];clear g;go_wp2_with fail;refine(g9 0 _ _ j tO).mono ?_;rintro p w2 ⟨rfl,f⟩;replace X:=X.be f;replace Y:=Y.be f;replace R:=R.be f;replace n:=aa X.k4 (aa Y.k4 R.g4);replace b:=Keep.be f;replace i:=i.ke b;replace h:=h.ke b;replace m:=m.ke b;replace j:=j.ke b;replace a:=aC a f;have g:decide ((0:Int)=0)=true:=rfl;rw[g];clear g;go_wp2_with fail;refine(rJ xn yn _ _ _ i m (by omega) (by omega)).mono ?_;rintro e5 w5 ⟨v5,rfl,q,r⟩;obtain⟨Z,F,T,J,rfl⟩:=q.form;replace X:=X.be r;replace Y:=Y.be r;replace R:=R.be r;replace n:=aa X.k4 (aa Y.k4 R.g4);replace a:=aC a r;go_wp2_with fail;obtain⟨W6,P,R,a,b,Q⟩:=R.put4 a (by omega) (.bool Z) (.slice F T J) (.bool false) (.slice none 0 0) rfl rfl;replace X:=Q X (by omega);replace Y:=Q Y (by omega);replace q:=q.ke b;rw[P];clear P;replace n:=aa X.k4 (aa Y.k4 R.k4);exact aM (v:= .agg #[.bool Z,.slice F T J,.bool false,.slice none 0 0]) (by simp[results,results43,go_sem,R.k4]) rfl ⟨_,rfl,RatAt.of q (IntAt.zero _) H.out.1 H.out.2,a⟩
def UZ(x y:Rat)(vx vy:Value)(w:World)(L:RatAt w vx x)(N:RatAt w vy y)(M:x.den=1)(O:y.den≠1)(K:Nat)(Z:RL K x)(V:RL K y)(hK:10*K+40<=aJ):
  Calls prog 43 #[vx,vy] w (iF w (x+y)):=by
 obtain⟨s,A,k,c,Q,H,P,I,rfl⟩:=L.form;obtain⟨t,C,l,e,D,m,B,n,rfl⟩:=N.form;unfold aJ at hK;have⟨af,ag⟩:=Z;have⟨ak,ac⟩:=V;obtain⟨J,E⟩:=BT (y:=y) M;have U:Hid ((x+y).num=x.num*y.den+y.num∧bS (x+y)=y.den):=⟨J,by rw[mI (by rw[E];exact O),E]⟩;have dx:bS x=0:=fV.2 M;clear J E;obtain⟨W,eW,b,X,Y,R⟩:=gE w [.bool s,.slice A k c,.bool Q,.slice H P I] 47 [.bool t,.slice C l e,.bool D,.slice m B n] 47 [.bool false,.slice none 0 0,.bool false,.slice none 0 0] 47;have i:=aa X.g4 (aa Y.g4 R.g4);go_enter func43,ntmps43;go_wp2_with fail;(try rw[eW]);clear eW;have f:IntAt W (.agg #[.bool s,.slice A k c]) x.num:=(L.be b).num;have h:IntAt W (.agg #[.bool Q,.slice H P I]) 0:=by have:=(L.be b).den;rwa [dx] at this
 have g:IntAt W (.agg #[.bool t,.slice C l e]) y.num:=(N.be b).num;have d:IntAt W (.agg #[.bool D,.slice m B n]) (y.den:Int):=(N.be b).denN O;have ae:decide ((y.den:Int)=0)=false:=by have:=y.den_nz;simpa using this
 have ah:nl (y.den:Int).natAbs<=K:=ac;clear dx M O ac V Z ag;generalize x.num=S at *;generalize y.num=yn at *;generalize (y.den:Int)=G at *;have al:=gT S G K K af ah;refine(g9 0 _ _ h tO).mono ?_;rintro J w1 ⟨rfl,o⟩;replace X:=X.be o;replace Y:=Y.be o;replace R:=R.be o;replace i:=aa X.k4 (aa Y.k4 R.g4);replace a:=Keep.be o;replace f:=f.ke a;replace h:=h.ke a;replace g:=g.ke a;replace d:=d.ke a;replace b:=aC b o;have z:decide ((0:Int)=0)=true:=rfl;rw[z];clear z;go_wp2_with fail;refine(g9 G _ _ d (by omega)).mono ?_;rintro E w2 ⟨rfl,p⟩;replace X:=X.be p;replace Y:=Y.be p;replace R:=R.be p;replace i:=aa X.k4 (aa Y.k4 R.g4);replace a:=Keep.be p;replace f:=f.ke a;replace h:=h.ke a;replace g:=g.ke a;replace d:=d.ke a;replace b:=aC b p;rw[ae];clear ae;go_wp2_with fail;refine(g9 0 _ _ h tO).mono ?_;rintro e3 w3 ⟨rfl,q⟩;replace X:=X.be q;replace Y:=Y.be q;replace R:=R.be q;replace i:=aa X.k4 (aa Y.k4 R.g4);replace a:=Keep.be q;replace f:=f.ke a;replace h:=h.ke a;replace g:=g.ke a;replace d:=d.ke a;replace b:=aC b q;have z:decide ((0:Int)=0)=true:=rfl;rw[z];clear z;go_wp2_with fail;replace f:=f.drew;replace g:=g.drew;replace d:=d.drew;replace X:=X.drew;replace Y:=Y.drew;replace R:=R.drew;replace b:=b.drew;replace i:=aa X.k4 (aa Y.k4 R.g4);have ai:w.heap.size+1+1≠w.heap.size:=by omega
 have aj:w.heap.size+1+1≠w.heap.size+1:=by omega
 go_region_held3 (fun w'=>C4 w' w.heap.size (.bool s) (.slice A k c) (.bool Q) (.slice H P I)∧C4 w' (w.heap.size+1) (.bool t) (.slice C l e) (.bool D) (.slice m B n))
  (first|(with_reducible exact⟨X.k4,Y.k4⟩)|(refine⟨?_,?_⟩<;>(repeat (first|with_reducible exact X.k4|with_reducible exact Y.k4|with_reducible refine kK ai ?_|with_reducible refine kK aj ?_))))
  (first
   |(go_at_call 73;refine(jB S G _ _ _ f d (by omega)).mono ?_;rintro e4 w4 ⟨v4,rfl,F,r⟩;obtain⟨s4,A4,k4,c4,rfl⟩:=F.form;replace X:=X.be r;replace Y:=Y.be r;replace R:=R.be r;replace i:=aa X.k4 (aa Y.k4 R.g4);replace a:=Keep.be r;replace f:=f.ke a;replace g:=g.ke a;replace d:=d.ke a;(try replace j:=j.ke a);replace b:=aC b r)
   |(go_at_call 90;refine(rJ (S*G) yn _ _ _ F g (by omega) (by omega)).mono ?_;rintro e5 w5 ⟨v5,rfl,j,u⟩;obtain⟨s5,T,k5,c5,rfl⟩:=j.form;replace X:=X.be u;replace Y:=Y.be u;replace R:=R.be u;replace i:=aa X.k4 (aa Y.k4 R.g4);replace a:=Keep.be u;replace f:=f.ke a;replace g:=g.ke a;replace d:=d.ke a;(try replace F:=F.ke a);replace b:=aC b u))
 all_goals (
  go_wp2_with fail;obtain⟨W6,ad,R,b,a,ff⟩:=R.put4 b (by omega) (.bool s5) (.slice T k5 c5) (.bool D) (.slice m B n) rfl rfl;replace X:=ff X (by omega);replace Y:=ff Y (by omega);replace j:=j.ke a;replace d:=d.ke a;rw[ad];clear ad;replace i:=aa X.k4 (aa Y.k4 R.k4);exact aM (v:= .agg #[.bool s5,.slice T k5 c5,.bool D,.slice m B n]) (by simp[results,results43,go_sem,R.k4]) rfl ⟨_,rfl,RatAt.of j d U.out.1 U.out.2,b⟩;)
def J8(x y:Rat)(vx vy:Value)(w:World)(J:RatAt w vx x)(M:RatAt w vy y)(L:x.den≠1)(N:y.den=1)(K:Nat)(Z:RL K x)(V:RL K y)(hK:10*K+40<=aJ):
  Calls prog 43 #[vx,vy] w (iF w (x+y)):=by
 obtain⟨s,A,k,c,B,m,z,n,rfl⟩:=J.form;obtain⟨t,C,l,e,P,G,O,H,rfl⟩:=M.form;unfold aJ at hK;have⟨al,ac⟩:=Z;have⟨ag,ah⟩:=V;obtain⟨I,E⟩:=UD (x:=x) N;have U:Hid ((x+y).num=y.num*x.den+x.num∧bS (x+y)=x.den):=⟨I,by rw[mI (by rw[E];exact L),E]⟩;have dy:bS y=0:=fV.2 N;clear I E;obtain⟨W,eW,b,X,Y,R⟩:=gE w [.bool s,.slice A k c,.bool B,.slice m z n] 47 [.bool t,.slice C l e,.bool P,.slice G O H] 47 [.bool false,.slice none 0 0,.bool false,.slice none 0 0] 47;have h:=aa X.g4 (aa Y.g4 R.g4);go_enter func43,ntmps43;go_wp2_with fail;(try rw[eW]);clear eW;have f:IntAt W (.agg #[.bool s,.slice A k c]) x.num:=(J.be b).num;have i:IntAt W (.agg #[.bool P,.slice G O H]) 0:=by have:=(M.be b).den;rwa [dy] at this
 have g:IntAt W (.agg #[.bool t,.slice C l e]) y.num:=(M.be b).num;have d:IntAt W (.agg #[.bool B,.slice m z n]) (x.den:Int):=(J.be b).denN L;have af:decide ((x.den:Int)=0)=false:=by have:=x.den_nz;simpa using this
 have ai:nl (x.den:Int).natAbs<=K:=ac;clear dy L N ah V Z ac;generalize x.num=xn at *;generalize y.num=Q at *;generalize (x.den:Int)=D at *;have T:=aB af;clear af;have am:=gT Q D K K ag ai;refine(g9 D _ _ d (by omega)).mono ?_;rintro I w1 ⟨rfl,o⟩;replace X:=X.be o;replace Y:=Y.be o;replace R:=R.be o;replace h:=aa X.k4 (aa Y.k4 R.g4);replace a:=Keep.be o;replace f:=f.ke a;replace d:=d.ke a;replace g:=g.ke a;replace i:=i.ke a;replace b:=aC b o;rw[T.out];go_wp2_with fail;refine(g9 D _ _ d (by omega)).mono ?_;rintro E w2 ⟨rfl,p⟩;replace X:=X.be p;replace Y:=Y.be p;replace R:=R.be p;replace h:=aa X.k4 (aa Y.k4 R.g4);replace a:=Keep.be p;replace f:=f.ke a;replace d:=d.ke a;replace g:=g.ke a;replace i:=i.ke a;replace b:=aC b p;rw[T.out];go_wp2_with fail;refine(g9 0 _ _ i tO).mono ?_;rintro e3 w3 ⟨rfl,q⟩;replace X:=X.be q;replace Y:=Y.be q;replace R:=R.be q;replace h:=aa X.k4 (aa Y.k4 R.g4);replace a:=Keep.be q;replace f:=f.ke a;replace d:=d.ke a;replace g:=g.ke a;replace i:=i.ke a;replace b:=aC b q;have ae:decide ((0:Int)=0)=true:=rfl;rw[ae];clear ae;go_wp2_with fail;replace f:=f.drew;replace g:=g.drew;replace d:=d.drew;replace X:=X.drew;replace Y:=Y.drew;replace R:=R.drew;replace b:=b.drew;replace h:=aa X.k4 (aa Y.k4 R.g4);have aj:w.heap.size+1+1≠w.heap.size:=by omega
 have ak:w.heap.size+1+1≠w.heap.size+1:=by omega
 go_region_held3 (fun w'=>C4 w' w.heap.size (.bool s) (.slice A k c) (.bool B) (.slice m z n)∧C4 w' (w.heap.size+1) (.bool t) (.slice C l e) (.bool P) (.slice G O H))
  (first|(with_reducible exact⟨X.k4,Y.k4⟩)|(refine⟨?_,?_⟩<;>(repeat (first|with_reducible exact X.k4|with_reducible exact Y.k4|with_reducible refine kK aj ?_|with_reducible refine kK ak ?_))))
  (first
   |(go_at_call 73;refine(jB Q D _ _ _ g d (by omega)).mono ?_;rintro e4 w4 ⟨v4,rfl,F,r⟩;obtain⟨s4,A4,k4,c4,rfl⟩:=F.form;replace X:=X.be r;replace Y:=Y.be r;replace R:=R.be r;replace h:=aa X.k4 (aa Y.k4 R.g4);replace a:=Keep.be r;replace f:=f.ke a;replace g:=g.ke a;replace d:=d.ke a;(try replace j:=j.ke a);replace b:=aC b r)
   |(go_at_call 90;refine(rJ (Q*D) xn _ _ _ F f (by omega) (by omega)).mono ?_;rintro e5 w5 ⟨v5,rfl,j,u⟩;obtain⟨s5,S,k5,c5,rfl⟩:=j.form;replace X:=X.be u;replace Y:=Y.be u;replace R:=R.be u;replace h:=aa X.k4 (aa Y.k4 R.g4);replace a:=Keep.be u;replace f:=f.ke a;replace g:=g.ke a;replace d:=d.ke a;(try replace F:=F.ke a);replace b:=aC b u))
 all_goals (
  go_wp2_with fail;obtain⟨W6,ad,R,b,a,ff⟩:=R.put4 b (by omega) (.bool s5) (.slice S k5 c5) (.bool B) (.slice m z n) rfl rfl;replace X:=ff X (by omega);replace Y:=ff Y (by omega);replace j:=j.ke a;replace d:=d.ke a;rw[ad];clear ad;replace h:=aa X.k4 (aa Y.k4 R.k4);exact aM (v:= .agg #[.bool s5,.slice S k5 c5,.bool B,.slice m z n]) (by simp[results,results43,go_sem,R.k4]) rfl ⟨_,rfl,RatAt.of j d U.out.1 U.out.2,b⟩;)
section
variable {w w' w1 w2:World}{g g':Nat}{m n n':Int}{s:Bool}{A:Option Addr}{l c:Nat}
def ua{o:Obj}(h:Below w.heap.size w w'):Below w.heap.size w (w'.alloc o):=h.alloc h.size o
def ud(h:Below w.heap.size w w'):Below w.heap.size w w'.drew:=h.drew
def ut(h:Below w.heap.size w w1)(k:Below w1.heap.size w1 w2):Below w.heap.size w w2:=aC h k
def us{o:Nat}{v:Value}(h:Below w.heap.size w w')(a:w.heap.size<=g):Below w.heap.size w (w'.setCell ⟨g,o,none⟩ v):=h.setCell (p:=⟨g,o,none⟩) a v
def J9(h:IntAt w (.agg #[.bool s,.slice A l c]) n)(a:w.heap.size=g):IntBx (w.alloc (.cells #[.bool s,.slice A l c] 40)) g n:=
 ⟨_,_,_,_,Bx.newAt w [.bool s,.slice A l c] 40 g a,h.ke (Keep.alloc _ _)⟩
def xC(h:IntAt w (.agg #[.bool s,.slice A l c]) n):IntBx (w.alloc (.cells #[.bool s,.slice A l c] 40)) w.heap.size n:=J9 h rfl
def V3{o:Obj}(h:IntAt (w.alloc o) (.agg #[.bool s,.slice A l c]) n):IntBx ((w.alloc o).alloc (.cells #[.bool s,.slice A l c] 40)) (w.heap.size+1) n:=J9 h (World.size_alloc _ _)
def xD{o:Obj}(h:IntBx w g n):IntBx (w.alloc o) g n:=h.be ((aG _ _).alloc aE _)
def xE(h:IntBx w g m)(hn:IntAt w (.agg #[.bool s,.slice A l c]) n):IntBx ((w.setCell ⟨g,0,none⟩ (.bool s)).setCell ⟨g,1,none⟩ (.slice A l c)) g n:=(h.stored hn).1
def C0(a:IntBx w g' m)(hn:IntAt w (.agg #[.bool s,.slice A l c]) n')(b:g≠g')(h:IntBx w g n):IntBx ((w.setCell ⟨g',0,none⟩ (.bool s)).setCell ⟨g',1,none⟩ (.slice A l c)) g n:=h.step (a.stored hn).2 b
def zb(D:Bx w g [.bool false,.slice none 0 0] 40):IntBx w g 0:=⟨_,_,_,_,D,IntAt.zero _⟩
def V4{a:World}(h:IntAt w (.agg #[.bool s,.slice A l c]) n)(b:Below a.heap.size a w):IntBx (w.alloc (.cells #[.bool s,.slice A l c] 40)) w.heap.size n∧Below a.heap.size a (w.alloc (.cells #[.bool s,.slice A l c] 40)):=⟨xC h,ua b⟩
def V6{a:World}(I:IntBx w g m)(h:IntAt w (.agg #[.bool s,.slice A l c]) n)(d:Below a.heap.size a w)(b:a.heap.size<=g):
  IntBx ((w.setCell ⟨g,0,none⟩ (.bool s)).setCell ⟨g,1,none⟩ (.slice A l c)) g n∧Below a.heap.size a ((w.setCell ⟨g,0,none⟩ (.bool s)).setCell ⟨g,1,none⟩ (.slice A l c)):=⟨xE I h,us (us d b) b⟩
def V7{v:Value}(a:IntBx w g' m)(hn:IntAt w (.agg #[.bool s,.slice A l c]) n')(h:IntAt w v n):IntAt ((w.setCell ⟨g',0,none⟩ (.bool s)).setCell ⟨g',1,none⟩ (.slice A l c)) v n:=h.ke (a.stored hn).2.1
def tP{d:World}{r:Int}{s':Bool}{f:Option Addr}{i c':Nat}(I:IntBx w g m)(J:IntBx w g' r)(h:IntAt w (.agg #[.bool s,.slice A l c]) n)(k:IntAt w (.agg #[.bool s',.slice f i c']) n')(p:g≠g')(q:Below d.heap.size d w)(j:d.heap.size<=g)(o:d.heap.size<=g'):
  IntBx ((((w.setCell ⟨g,0,none⟩ (.bool s)).setCell ⟨g,1,none⟩ (.slice A l c)).setCell ⟨g',0,none⟩ (.bool s')).setCell ⟨g',1,none⟩ (.slice f i c')) g n∧
  IntBx ((((w.setCell ⟨g,0,none⟩ (.bool s)).setCell ⟨g,1,none⟩ (.slice A l c)).setCell ⟨g',0,none⟩ (.bool s')).setCell ⟨g',1,none⟩ (.slice f i c')) g' n'∧
  Below d.heap.size d ((((w.setCell ⟨g,0,none⟩ (.bool s)).setCell ⟨g,1,none⟩ (.slice A l c)).setCell ⟨g',0,none⟩ (.bool s')).setCell ⟨g',1,none⟩ (.slice f i c')):=by
 have a:=xE I h;have b:=C0 I h (fun e=>p e.symm) J;have c:=V7 I h k;exact⟨C0 b c p a,xE b c,us (us (us (us q j) j) o) o⟩
def tR{b:World}{s':Bool}{a:Option Addr}{d c':Nat}(h:IntAt w (.agg #[.bool s,.slice A l c]) n)(k:IntAt w (.agg #[.bool s',.slice a d c']) n')(e:Below b.heap.size b w):
  IntBx ((w.alloc (.cells #[.bool s,.slice A l c] 40)).alloc (.cells #[.bool s',.slice a d c'] 40)) w.heap.size n∧
  IntBx ((w.alloc (.cells #[.bool s,.slice A l c] 40)).alloc (.cells #[.bool s',.slice a d c'] 40)) (w.heap.size+1) n'∧
  Below b.heap.size b ((w.alloc (.cells #[.bool s,.slice A l c] 40)).alloc (.cells #[.bool s',.slice a d c'] 40)):=
 ⟨xD (xC h),V3 (k.ke (Keep.alloc _ _)),ua (ua e)⟩
def xF{e:World}{s':Bool}{d:Option Addr}{f c':Nat}(h:IntAt w (.agg #[.bool s,.slice A l c]) n)(k:IntAt w (.agg #[.bool s',.slice d f c']) n')(i:Below e.heap.size e w):
  IntBx ((w.alloc (.cells #[.bool s',.slice d f c'] 40)).alloc (.cells #[.bool s,.slice A l c] 40)) (w.heap.size+1) n∧
  IntBx ((w.alloc (.cells #[.bool s',.slice d f c'] 40)).alloc (.cells #[.bool s,.slice A l c] 40)) w.heap.size n'∧
  Below e.heap.size e ((w.alloc (.cells #[.bool s',.slice d f c'] 40)).alloc (.cells #[.bool s,.slice A l c] 40)):=by
 obtain⟨a,b,c⟩:=tR k h i;exact⟨b,a,c⟩
def xG{a:World}{s':Bool}{b:Option Addr}{d c':Nat}(h:IntAt w (.agg #[.bool s,.slice A l c]) n)(k:IntAt w (.agg #[.bool s',.slice b d c']) n')(J:IntBx w g' m)(f:Below a.heap.size a w)(e:a.heap.size<=g'):
  IntBx (((w.alloc (.cells #[.bool s,.slice A l c] 40)).setCell ⟨g',0,none⟩ (.bool s')).setCell ⟨g',1,none⟩ (.slice b d c')) w.heap.size n∧
  IntBx (((w.alloc (.cells #[.bool s,.slice A l c] 40)).setCell ⟨g',0,none⟩ (.bool s')).setCell ⟨g',1,none⟩ (.slice b d c')) g' n'∧
  Below a.heap.size a (((w.alloc (.cells #[.bool s,.slice A l c] 40)).setCell ⟨g',0,none⟩ (.bool s')).setCell ⟨g',1,none⟩ (.slice b d c')):=
 ⟨C0 (xD J) (k.ke (Keep.alloc _ _)) (by have:=J.lt;omega) (xC h),xE (xD J) (k.ke (Keep.alloc _ _)),us (us (ua f) e) e⟩
def xH{a:World}{s':Bool}{b:Option Addr}{d c':Nat}(I:IntBx w g m)(h:IntAt w (.agg #[.bool s,.slice A l c]) n)(k:IntAt w (.agg #[.bool s',.slice b d c']) n')(e:Below a.heap.size a w)(f:a.heap.size<=g):
  IntBx (((((w.alloc (.cells #[.bool false,.slice none 0 0] 40)).setCell ⟨g,0,none⟩ (.bool s)).setCell ⟨g,1,none⟩ (.slice A l c)).setCell ⟨w.heap.size,0,none⟩ (.bool s')).setCell ⟨w.heap.size,1,none⟩ (.slice b d c')) g n∧
  IntBx (((((w.alloc (.cells #[.bool false,.slice none 0 0] 40)).setCell ⟨g,0,none⟩ (.bool s)).setCell ⟨g,1,none⟩ (.slice A l c)).setCell ⟨w.heap.size,0,none⟩ (.bool s')).setCell ⟨w.heap.size,1,none⟩ (.slice b d c')) w.heap.size n'∧
  Below a.heap.size a (((((w.alloc (.cells #[.bool false,.slice none 0 0] 40)).setCell ⟨g,0,none⟩ (.bool s)).setCell ⟨g,1,none⟩ (.slice A l c)).setCell ⟨w.heap.size,0,none⟩ (.bool s')).setCell ⟨w.heap.size,1,none⟩ (.slice b d c')):=
 tP (xD I) (xC (IntAt.zero _)) (h.ke (Keep.alloc _ _)) (k.ke (Keep.alloc _ _)) (by have:=I.lt;omega) (ua e) f e.size
end
