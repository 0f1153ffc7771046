/- Laws. -/
import Derived.Test.YtapgbkldiinabaaGreatDoorN23
set_option linter.all false
set_option maxHeartbeats 8000000
set_option maxRecDepth 99999
namespace Go.Proofs.YtapgbkldiinabaaGreatDoor
open Go.RowKit Sos Tryz
abbrev R4(w:World)(b o:Nat)(c d e f:Value):Prop:=w.cell? ⟨b,o,none⟩=some c∧w.cell? ⟨b,o+1,none⟩=some d∧w.cell? ⟨b,o+2,none⟩=some e∧w.cell? ⟨b,o+3,none⟩=some f
def QRow(w:World)(rows:List (List Value))(qs:List Rat):Prop:=∀(i:Nat) (q:Rat),qs[i]? =some q->∃s A l c f d e c',rows[i]? =some [Value.bool s,Value.slice A l c,Value.bool f,Value.slice d e c']∧NQ w (.agg #[.bool s,.slice A l c,.bool f,.slice d e c']) q
def QsAt(w:World)(v:Value)(qs:List Rat):Prop:=∃A c,v= .slice A qs.length c∧qs.length<=c∧(A=none∧qs=[]∨∃b rows,A=some ⟨b,0,none⟩∧Rw w b 4 rows 95∧qs.length<=rows.length∧QRow w rows qs)
def OwnQ(w:World)(b:Nat)(qs:List Rat):Prop:=∃rows,Rw w b 4 rows 95∧qs.length<=rows.length∧QRow w rows qs
def r6(g:Nat)(w W:World):Prop:=KM w W∧I6 g w W
def KM.put{w:World}{p:Addr}{c:Value}(f:w.cell? p=some c)(e:NoInt c)(v:Value):KM w (w.setCell p v):=
 ⟨by simp,fun q k x d=>by
  rw[World.cell?_setCell_other _ _ _ _ ?_,d];rintro rfl;rw[f] at d;injection d with d;exact absurd d (e _ _)⟩
def sJ:(Tryz.prog.info? 95).map (fun i=>(i.zero,i.size,i.bytes))=some (some (.agg #[.bool false,.slice none 0 0,.bool false,.slice none 0 0]),4,64):=by kernel_rfl
section
variable {w w':World}{b:Nat}{qs:List Rat}{v:Value}{rows:List (List Value)}
def QRow.ke(h:QRow w rows qs)(g:KM w w'):QRow w' rows qs:=fun i q hi=>by
 obtain⟨s,A,l,c,k,d,j,c',e,f⟩:=h i q hi;exact⟨s,A,l,c,k,d,j,c',e,f.ke g⟩
def QRow.take(h:QRow w rows qs)(m:Nat):QRow w rows (qs.take m):=fun i q hi=>by
 rw[fC] at hi;split at hi
 ·exact h i q hi
 ·cases hi
def QsAt.be(h:QsAt w v qs)(d:Below w.heap.size w w'):QsAt w' v qs:=by
 obtain⟨A,c,hv,f,h⟩:=h;refine⟨A,c,hv,f,?_⟩;rcases h with h|⟨b,rows,e,j,i,g⟩
 ·exact .inl h
 ·exact .inr ⟨b,rows,e,j.be d,i,g.ke (KM.be d)⟩
def QsAt.drew(h:QsAt w v qs):QsAt w.drew v qs:=h.be (aG _ _).drew
def QsAt.step{A:Option Addr}{l c g:Nat}(h:QsAt w (.slice A l c) qs)(f:r6 g w w')(p:∀b,A=some ⟨b,0,none⟩->b≠g):QsAt w' (.slice A l c) qs:=by
 obtain⟨i,j,e,k,h⟩:=h;refine⟨i,j,e,k,?_⟩;simp only[Value.slice.injEq] at e;obtain⟨rfl,rfl,rfl⟩:=e;rcases h with h|⟨b,rows,e,d,n,m⟩
 ·exact .inl h
 ·exact .inr ⟨b,rows,e,⟨(f.2.2.1 b (p b e)).trans d.1,d.2⟩,n,m.ke f.1⟩
def QsAt.nil(w:World):QsAt w (.slice none 0 0) []:=⟨none,0,rfl,aE,.inl ⟨rfl,rfl⟩⟩
def QsAt.form(h:QsAt w v qs):∃A c,v= .slice A qs.length c∧qs.length<=c:=by
 obtain⟨A,c,hv,d,_⟩:=h;exact⟨A,c,hv,d⟩
def QsAt.cut{A:Option Addr}{c l:Nat}(h:QsAt w (.slice A l c) qs)(m:Nat)(g:m<=qs.length):QsAt w (.slice A m c) (qs.take m):=by
 obtain⟨j,k,e,n,h⟩:=h;simp only[Value.slice.injEq] at e;obtain⟨rfl,rfl,rfl⟩:=e;refine⟨A,c,by rw[bK,gF g],by rw[bK];omega,?_⟩;rcases h with ⟨h,d⟩|⟨b,rows,e,i,p,f⟩
 ·exact .inl ⟨h,by rw[d];simp⟩
 ·exact .inr ⟨b,rows,e,i,by rw[bK];omega,f.take m⟩
def OwnQ.lt(h:OwnQ w b qs):b<w.heap.size:=by
 obtain⟨rows,c,_⟩:=h;exact c.lt
def OwnQ.be(h:OwnQ w b qs)(c:Below w.heap.size w w'):OwnQ w' b qs:=by
 obtain⟨rows,f,e,d⟩:=h;exact⟨rows,f.be c,e,d.ke (KM.be c)⟩
def OwnQ.drew(h:OwnQ w b qs):OwnQ w.drew b qs:=h.be (aG _ _).drew
def OwnQ.step{g:Nat}(h:OwnQ w b qs)(d:r6 g w w')(i:b≠g):OwnQ w' b qs:=by
 obtain⟨rows,c,f,e⟩:=h;exact⟨rows,⟨(d.2.2.1 b i).trans c.1,c.2⟩,f,e.ke d.1⟩
def OwnQ.nums(h:OwnQ w b qs)(c:Nat)(d:qs.length<=c):QsAt w (.slice (some ⟨b,0,none⟩) qs.length c) qs:=by
 obtain⟨rows,g,f,e⟩:=h;exact⟨_,c,rfl,d,.inr ⟨b,rows,rfl,g,f,e⟩⟩
def OwnQ.free(h:OwnQ w b qs)(j:Nat):w.frozen? ⟨b,j,none⟩=false:=by
 obtain⟨rows,c,_⟩:=h;exact c.free j
def OwnQ.at_(h:OwnQ w b qs){i:Nat}{q:Rat}(hi:qs[i]? =some q):
  ∃s B m d k c j e,R4 w b (i*4) (.bool s) (.slice B m d) (.bool k) (.slice c j e)∧NQ w (.agg #[.bool s,.slice B m d,.bool k,.slice c j e]) q:=by
 obtain⟨rows,g,p,n⟩:=h;obtain⟨s,B,m,d,k,c,j,e,f,l⟩:=n i q hi;exact⟨s,B,m,d,k,c,j,e,⟨g.cell 0 f rfl,g.cell 1 f rfl,g.cell 2 f rfl,g.cell 3 f rfl⟩,l⟩
def QsAt.at_{A:Option Addr}{c l:Nat}(h:QsAt w (.slice A l c) qs){i:Nat}{q:Rat}(hi:qs[i]? =some q):
  ∃b s B m d p g n j,A=some ⟨b,0,none⟩∧b<w.heap.size∧R4 w b (i*4) (.bool s) (.slice B m d) (.bool p) (.slice g n j)∧NQ w (.agg #[.bool s,.slice B m d,.bool p,.slice g n j]) q:=by
 obtain⟨x,y,e,z,h⟩:=h;simp only[Value.slice.injEq] at e;obtain⟨rfl,rfl,rfl⟩:=e;rcases h with ⟨-,h⟩|⟨b,rows,e,f, -,t⟩
 ·rw[h] at hi;simp at hi
 ·obtain⟨s,B,m,d,p,g,n,j,k,r⟩:=t i q hi;exact⟨b,s,B,m,d,p,g,n,j,e,f.lt,⟨f.cell 0 k rfl,f.cell 1 k rfl,f.cell 2 k rfl,f.cell 3 k rfl⟩,r⟩
def OwnQ.stored(h:OwnQ w b qs){i:Nat}(hi:i<qs.length){s d:Bool}{A r:Option Addr}{l c t c':Nat}{q:Rat}(hn:NQ w (.agg #[.bool s,.slice A l c,.bool d,.slice r t c']) q):
  let W:=(((w.setCell ⟨b,i*4,none⟩ (.bool s)).setCell ⟨b,i*4+1,none⟩ (.slice A l c)).setCell ⟨b,i*4+2,none⟩ (.bool d)).setCell ⟨b,i*4+3,none⟩ (.slice r t c')
  OwnQ W b (qs.set i q)∧r6 b w W:=by
 obtain⟨rows,R,hl,P⟩:=h;obtain⟨s1,E,H,F,x,f,p,k,O,h2⟩:=P i qs[i] (aR hi);have D:i<rows.length:=by omega
 have S:=R.set 0 O (by omega) (.bool s);have L:(rows.set i ([Value.bool s1,.slice E H F,.bool x,.slice f p k].set 0 (.bool s)))[i]? =some [.bool s,.slice E H F,.bool x,.slice f p k]:=by rw[gP D];rfl
 have I:=S.set 1 L (by omega) (.slice A l c);rw[List.set_set] at I;have M:(rows.set i ([Value.bool s,.slice E H F,.bool x,.slice f p k].set 1 (.slice A l c)))[i]? =some [.bool s,.slice A l c,.bool x,.slice f p k]:=by rw[gP D];rfl
 have J:=I.set 2 M (by omega) (.bool d);rw[List.set_set] at J;have N:(rows.set i ([Value.bool s,.slice A l c,.bool x,.slice f p k].set 2 (.bool d)))[i]? =some [.bool s,.slice A l c,.bool d,.slice f p k]:=by rw[gP D];rfl
 have T:=J.set 3 N (by omega) (.slice r t c');rw[List.set_set] at T;have K:=R.cell 0 O rfl;have y:=S.cell 1 L rfl;have z:=I.cell 2 M rfl;have B:=J.cell 3 N rfl;have G:=(((KM.put K (NoInt.bool _) (.bool s)).trans (KM.put y (NoInt.slice _ _ _) (.slice A l c))).trans (KM.put z (NoInt.bool _) (.bool d))).trans (KM.put B (NoInt.slice _ _ _) (.slice r t c'));refine⟨⟨_,T,by simpa using hl,fun j m n=> ?_⟩,G,(((Keep.put K (NoInt.bool _) _).trans (Keep.put y (NoInt.slice _ _ _) _)).trans (Keep.put z (NoInt.bool _) _)).trans (Keep.put B (NoInt.slice _ _ _) _),fun g C=> ?_,by simp,rfl,rfl,rfl⟩
 ·by_cases e:i=j
  ·subst e;rw[gP hi] at n;injection n with n;subst n;exact⟨s,A,l,c,d,r,t,c',by rw[gP D];rfl,hn.ke G⟩
  ·rw[C5 e] at n;obtain⟨y,z,B,U,V,X,Y,Z,k1,k2⟩:=P j m n;exact⟨y,z,B,U,V,X,Y,Z,by rw[C5 e];exact k1,k2.ke G⟩
 ·rw[Below.heap_setCell _ ⟨b,i*4+3,none⟩ _ g C,Below.heap_setCell _ ⟨b,i*4+2,none⟩ _ g C,Below.heap_setCell _ ⟨b,i*4+1,none⟩ _ g C,Below.heap_setCell _ ⟨b,i*4,none⟩ _ g C]
def OwnQ.made{n:Nat}(h:Rw w b 4 (List.replicate n [.bool false,.slice none 0 0,.bool false,.slice none 0 0]) 95):OwnQ w b (List.replicate n 0):=
 ⟨_,h,by simp,fun i m c=>⟨false,none,0,0,false,none,0,0,by
  have:=(List.getElem?_eq_some_iff.1 c).1;rw[dB] at this;rw[j6,if_pos this],by
  have:=j6 (n:=n) (a:=(0:Rat)) (i:=i);rw[c] at this;split at this
  ·injection this with this;subst this;exact NQ.zero w
  ·cases this⟩⟩
def Rw.src{k n:Nat}{t:TypeId}(i:Rw w b k rows t)(d:0<k)(hn:n<=rows.length):Src w (some ⟨b,0,none⟩) (rows.take n).flatten:=by
 have g:∀r∈rows.take n,r.length=k:=fun r h=>i.2 r (lH h);refine .inr ⟨b,0,rfl,fun j u l=> ?_⟩;have p:j<n*k:=by
  have:=(List.getElem?_eq_some_iff.1 l).1;rw[mX g,bK,gF hn] at this;exact this
 have m:j/k<n:=by rw[Nat.div_lt_iff_lt_mul d];exact p
 obtain⟨r,c⟩:∃r,(rows.take n)[j/k]? =some r:=⟨_,aR (by rw[bK];omega)⟩;have f:=mW g c (dI j d);have e:j/k*k+j%k=j:=by rw[dN];exact iD j k
 rw[e,l] at f;rw[fC,if_pos m] at c;have:=i.cell (j%k) c f.symm;rw[e] at this;rw[bA];exact this
def QsAt.srcs{A:Option Addr}{c l:Nat}(h:QsAt w (.slice A l c) qs):
  ∃rows:List (List Value),rows.length=qs.length∧l=qs.length∧(∀r∈rows,r.length=4)∧Src w A rows.flatten∧QRow w rows qs∧∀u∈rows.flatten,u.oneCell'=true:=by
 obtain⟨f,g,e,F,h⟩:=h;simp only[Value.slice.injEq] at e;obtain⟨rfl,rfl,rfl⟩:=e;rcases h with ⟨rfl,rfl⟩|⟨b,rows,rfl,n,C,B⟩
 ·exact⟨[],rfl,rfl,(fun _ h=>by cases h),.inl rfl,(fun i q h=>by simp at h),(fun _ h=>by cases h)⟩
 ·have j:QRow w (rows.take qs.length) qs:=fun i q m=>by
   obtain⟨s,A,l,c,x,f,t,g,d,y⟩:=B i q m;exact⟨s,A,l,c,x,f,t,g,by rw[fC,if_pos (List.getElem?_eq_some_iff.1 m).1];exact d,y⟩
  refine⟨rows.take qs.length,by rw[bK];omega,rfl,fun r h=>n.2 r (lH h),n.src (by decide) C,j,fun u E=> ?_⟩;obtain⟨r,D,p⟩:=List.mem_flatten.1 E;obtain⟨i,k⟩:=List.mem_iff_getElem?.1 D;have z:=(List.getElem?_eq_some_iff.1 k).1;rw[bK] at z;obtain⟨s,A,l,c,x,f,t,g,d,_⟩:=j i _ (aR (by omega));rw[k] at d;injection d with d;subst d;simp at p;rcases p with rfl|rfl|rfl|rfl<;>rfl
def EA{p n:Nat}(h:w.ownsRow p 95 4 v n rows.flatten)(J:∀r∈rows,r.length=4)(hn:rows.length=n)(z:qs.length=n)(hi:QRow w rows qs):
  QsAt w v qs∧(v= .slice none 0 0∨∃g d,v= .slice (some ⟨g,0,none⟩) n d∧p<=g∧OwnQ w g qs):=by
 rcases h.2 with ⟨rfl,O⟩|⟨g,d,E,rfl,H,I,R,U,K,L⟩
 ·obtain rfl:qs=[]:=cG (by omega);exact⟨QsAt.nil w,.inl rfl⟩
 ·obtain⟨B,P,q,e⟩:=BO 4 d E.toList (by simpa using K);have t:OwnQ w g qs:=by
   refine⟨B,⟨by unfold Bx;rw[I,q],e⟩,by omega,fun i m y=> ?_⟩;obtain⟨s,A,l,c,N,C,M,D,F,G⟩:=hi i m y;refine⟨s,A,l,c,N,C,M,D,?_,G⟩;have S:i<n:=by rw[<-z];exact(List.getElem?_eq_some_iff.1 y).1
   obtain⟨k,f⟩:∃k,B[i]? =some k:=⟨_,aR (by omega)⟩;rw[f];congr 1;have T:=e k (dG f);refine List.ext_getElem? (fun j=> ?_);by_cases x:j<4
   ·rw[<-mW e f x,<-mW J F x,q,<-L,fC,if_pos (by omega)]
   ·rw[fU (by omega),fU (by simp;omega)]
  have:=t.nums d (by omega);rw[z] at this;exact⟨this,.inr ⟨g,d,rfl,H,t⟩⟩
def MM(w:World):(w.alloc (.cells #[] 95)).ownsRow w.heap.size 95 4 (.slice (some ⟨w.heap.size,0,none⟩) 0 0) 0 []:=
 ⟨by simp,.inr ⟨w.heap.size,0,#[],rfl,aE,heap_alloc_new w _,aE,by decide,rfl,rfl⟩⟩
end
section
variable {w:World}{ops:Array Oper}{rest:List Oper}{o:Oper}{a:Act}{Q:Exit->Act->World->Prop}
def yT(y:o.guard=none){s x:Operand}(C:o.op= .call { callee:= .builtin .append,args:= #[s,x],argTypes:= #[54,54] })
  (F:a.eval s= .slice (some ⟨w.heap.size,0,none⟩) 0 0){A:Option Addr}{l c:Nat}{qs:List Rat}(H:a.eval x= .slice A l c)(E:QsAt w (.slice A l c) qs)(I:qs.length<=1073741824)
  (h:∀d w',QsAt w' d qs->(d= .slice none 0 0∨∃g p,d= .slice (some ⟨g,0,none⟩) qs.length p∧w.heap.size<=g∧OwnQ w' g qs)->Below w.heap.size w w'->wpList prog ops Q rest (a.put o.dst d) w'):
  wpList prog ops Q (o :: rest) a (w.alloc (.cells #[] 95)):=by
 have t:Below w.heap.size w (w.alloc (.cells #[] 95)):=(aG _ _).alloc aE _;obtain⟨rows,n,rfl,m,G,z,D⟩:=E.srcs;refine gM y C 95 _ 4 64 underlying54 sJ rfl (by decide) w.heap.size (.slice (some ⟨w.heap.size,0,none⟩) 0 0) 0 [] F (MM w) rows.flatten H (by rw[mX m,n]) (G.be t) D (by omega) (by omega) (by simp) ?_;intro d w' j f _;have i:Below w.heap.size w w':=⟨f.os,f.tape,f.output,aH (by simp) f.size,fun k B=>(f.block k (by simp;omega) (fun e=>by simp[Value.ownBlock] at e;omega)).trans (Below.heap_alloc w _ k B)⟩;rw[bA,iM] at j;obtain⟨q,r⟩:=EA j m n rfl (z.ke (KM.be i));exact h d w' q r i
end
section
variable {a b:World}[u:Up a b]
def QsAt.up{v:Value}{qs:List Rat}(h:QsAt a v qs):QsAt b v qs:=h.be u.out
def OwnQ.up{g:Nat}{qs:List Rat}(h:OwnQ a g qs):OwnQ b g qs:=h.be u.out
def R4.up{g o:Nat}{d e f i:Value}(h:R4 a g o d e f i)(c:g<a.heap.size):R4 b g o d e f i:=
 ⟨(u.out.cell (p:=⟨g,o,none⟩) c).trans h.1,(u.out.cell (p:=⟨g,o+1,none⟩) c).trans h.2.1,(u.out.cell (p:=⟨g,o+2,none⟩) c).trans h.2.2.1,(u.out.cell (p:=⟨g,o+3,none⟩) c).trans h.2.2.2⟩
end
def R4.old{w w':World}{B g o:Nat}{e f i j:Value}(h:R4 w g o e f i j)(c:Below B w w')(d:g<B):R4 w' g o e f i j:=
 ⟨(c.cell (p:=⟨g,o,none⟩) d).trans h.1,(c.cell (p:=⟨g,o+1,none⟩) d).trans h.2.1,(c.cell (p:=⟨g,o+2,none⟩) d).trans h.2.2.1,(c.cell (p:=⟨g,o+3,none⟩) d).trans h.2.2.2⟩
def yU(w:World)(v:Value):Prop:=∀g,v.ownBlock=some g->∀cur t f,w.heap[g]? =some (.cells cur t f)->∀y∈cur.toList,NoInt y
def GrowQ(w:World)(c:Nat)(v:Value)(qs:List Rat):Prop:=(∃rows,w.ownsRow c 95 4 v qs.length rows.flatten∧rows.length=qs.length∧(∀r∈rows,r.length=4)∧QRow w rows qs)∧yU w v
def GrowQ.nil(w:World){c:Nat}:GrowQ w c (.slice none 0 0) []:=⟨⟨[],World.ownsRow_nil _ _ _ _,rfl,(fun _ h=>by cases h),(fun i q h=>by simp at h)⟩,fun g h=>by simp[Value.ownBlock] at h⟩
def GrowQ.nums{w:World}{c:Nat}{v:Value}{qs:List Rat}(h:GrowQ w c v qs):QsAt w v qs:=by
 obtain⟨⟨rows,d,e,f,g⟩, -⟩:=h;exact(EA d f e rfl g).1
def GrowQ.be{w w':World}{l:Nat}{v:Value}{qs:List Rat}(h:GrowQ w l v qs)(k:Below w.heap.size w w'):GrowQ w' l v qs:=by
 obtain⟨⟨rows,j,n,p,q⟩,s⟩:=h;have x:∀g,v.ownBlock=some g->g<w.heap.size:=fun g e=>by
  rcases j.2 with ⟨rfl,_⟩|⟨i,m,d,rfl,_,c,_⟩
  ·simp[Value.ownBlock] at e
  ·simp[Value.ownBlock] at e;subst e;exact(Array.getElem?_eq_some_iff.1 c).1
 refine⟨⟨rows,⟨j.1,?_⟩,n,p,q.ke (KM.be k)⟩,fun g e d t f c=>s g e d t f ((k.block g (x g e)).symm.trans c)⟩;rcases j.2 with h|⟨i,m,d,rfl,r,c,h⟩
 ·exact .inl h
 ·exact .inr ⟨i,m,d,rfl,r,(k.block i (Array.getElem?_eq_some_iff.1 c).1).trans c,h⟩
def GrowQ.drew{w:World}{c:Nat}{v:Value}{qs:List Rat}(h:GrowQ w c v qs):GrowQ w.drew c v qs:=h.be (aG _ _).drew
def GrowQ.up{a b:World}[u:Up a b]{c:Nat}{v:Value}{qs:List Rat}(h:GrowQ a c v qs):GrowQ b c v qs:=h.be u.out
def MN(n:Nat):∀y∈Builtin.zeroCells #[Value.bool false,.slice none 0 0,.bool false,.slice none 0 0] n,NoInt y:=fun y c=>by
 unfold Builtin.zeroCells at c;obtain⟨j,_,rfl⟩:=Array.mem_map.1 c;have d:(#[Value.bool false,.slice none 0 0,.bool false,.slice none 0 0]:Array Value).size=4:=rfl;rw[d];rcases(show j%4=0∨j%4=1∨j%4=2∨j%4=3 by omega) with h|h|h|h<;>rw[h]
 ·exact NoInt.bool _
 ·exact NoInt.slice _ _ _
 ·exact NoInt.bool _
 ·exact NoInt.slice _ _ _
def MO(w:World)(R:TypeId){M:Nat}{v:Value}{qs:List Rat}(hG:GrowQ w M v qs){g c:Nat}
  {s0 s1:Bool}{l n:Option Addr}{B C c0 s:Nat}(hB:Bx w g [.bool s0,.slice l B c0,.bool s1,.slice n C s] 95){q:Rat}(hq:NQ w (.agg #[.bool s0,.slice l B c0,.bool s1,.slice n C s]) q)(hl:qs.length<=1073741824)(hb:M<=w.heap.size):
  ∃S w',(Builtin.append_ #[54,54] R #[v,.slice (some ⟨g,0,none⟩) 1 c]).run prog w= .ok S w'∧GrowQ w' M S (qs++[q])∧Below M w w':=by
 obtain⟨⟨rows,J,h2,h3,h4⟩,hN⟩:=hG;obtain⟨i,U,ac,N,ad⟩:=info_parts sJ;have V:∀j u,[Value.bool s0,.slice l B c0,.bool s1,.slice n C s][j]? =some u->w.cell? ((⟨g,0,none⟩:Addr).add j)=some u:=fun j u G=>by
  have:=hB.cell j G;unfold Addr.add;split
  ·rename_i T;subst T;exact this
  ·simpa using this
 have W:∀u∈[Value.bool s0,.slice l B c0,.bool s1,.slice n C s],NoInt u∧u.oneCell'=true:=fun u G=>by
  simp at G;rcases G with rfl|rfl|rfl|rfl
  ·exact⟨NoInt.bool _,rfl⟩
  ·exact⟨NoInt.slice _ _ _,rfl⟩
  ·exact⟨NoInt.bool _,rfl⟩
  ·exact⟨NoInt.slice _ _ _,rfl⟩
 obtain⟨S,w',E,ho,K,_,ar⟩:=run_append_own_at (P:=prog) w M 54 R 95 i _ 4 64 underlying54 U ac N ad rfl (by decide) v qs.length _ J ⟨g,0,none⟩ 1 c [.bool s0,.slice l B c0,.bool s1,.slice n C s] rfl V (fun u G=>(W u G).2) (by unfold maxLen;omega) (by omega) hb
 have ag:KM w w':=⟨K.size,fun p k x O=>by
  obtain⟨b,o,sp⟩:=p;obtain rfl:sp=none:=World.cell?_spot O;by_cases e:v.ownBlock=some b
  ·rcases J.2 with ⟨rfl,_⟩|⟨A,H,z,rfl,_,L,_⟩
   ·simp[Value.ownBlock] at e
   ·have I:A=b:=by simpa [Value.ownBlock] using e
    subst I;rw[cell_of_row w A o z _ (0,0) L,<-Array.getElem?_toList] at O;exact absurd rfl (hN A e z _ _ L _ (dG O) k x)
  ·exact(World.cell?_of_block (K.block b (block_lt_of_cell (a:=⟨b,o,none⟩) O) (fun e'=>e e'.symm))).trans O⟩
 have ah:Below M w w':=⟨K.os,K.tape,K.output,K.size,fun k hk=>K.block k (by omega) (fun e=>by
  rcases J.2 with ⟨rfl,_⟩|⟨A,_,_,rfl,au,_⟩
  ·simp[Value.ownBlock] at e
  ·simp[Value.ownBlock] at e;omega)⟩
 have ai:yU w' S:=by
  have ae:∀(X:List Value) (H m:Nat),(∀y∈X,NoInt y)->yU (w.drew.alloc (.cells (X.toArray++[Value.bool s0,.slice l B c0,.bool s1,.slice n C s].toArray++Builtin.zeroCells #[Value.bool false,.slice none 0 0,.bool false,.slice none 0 0] m) 95)) (.slice (some ⟨w.heap.size,0,none⟩) (qs.length+1) H):=fun X H m hv A e z t f Y=>by
   simp[Value.ownBlock] at e;subst e;have:=heap_alloc_new w.drew (.cells (X.toArray++[Value.bool s0,.slice l B c0,.bool s1,.slice n C s].toArray++Builtin.zeroCells #[Value.bool false,.slice none 0 0,.bool false,.slice none 0 0] m) 95);have h5:=this.symm.trans Y;simp only[Option.some.injEq,Obj.cells.injEq] at h5;rw[<-h5.1];intro y d;rw[Array.toList_append,Array.toList_append] at d;rcases List.mem_append.1 d with d|d
   ·rcases List.mem_append.1 d with d|d
    ·exact hv y d
    ·exact(W y d).1
   ·exact MN m y (Array.mem_toList_iff.1 d)
  rcases J.2 with ⟨rfl,T⟩|⟨A,H,z,rfl,aq,L,aw,av,hs,ht⟩
  ·have F:=run_append_nil (P:=prog) w 54 R 95 i _ underlying54 U ac ⟨g,0,none⟩ 1 c [.bool s0,.slice l B c0,.bool s1,.slice n C s] (by rw[N];rfl) V (by decide) (by decide) (by rw[ad];decide);rw[E] at F;injection F with e1 I;subst e1 I;have al:qs.length=0:=by omega
   have:=ae [] (grownCap w 1 0 95) (grownCap w 1 0 95-1) (fun _ h=>by cases h);rw[al] at this;exact this
  ·have Z:∀y∈z.toList,NoInt y:=hN A rfl z _ _ L;by_cases am:qs.length+1<=H
   ·have F:=run_append_room (P:=prog) w 54 R 95 i underlying54 U A qs.length H z L ⟨g,0,none⟩ 1 c [.bool s0,.slice l B c0,.bool s1,.slice n C s] (by rw[N];rfl) V (fun u G=>(W u G).2) am (by rw[N,hs];simp;omega);rw[E] at F;injection F with e1 I;subst e1 I;intro g3 e ap t f Y;simp[Value.ownBlock] at e;subst e;have h7:=(setRow_heap w A z _ 95 _ L).symm.trans Y;simp only[Option.some.injEq,Obj.cells.injEq] at h7;rw[<-h7.1];intro y d;have ao:y∈z.toList.take (qs.length*i.size)++[Value.bool s0,.slice l B c0,.bool s1,.slice n C s]++z.toList.drop (qs.length*i.size+4):=d;rcases List.mem_append.1 ao with d|d
    ·rcases List.mem_append.1 d with d|d
     ·exact Z y (lH d)
     ·exact(W y d).1
    ·exact Z y (List.mem_of_mem_drop d)
   ·have ak:∀j y,(z.toList.take (qs.length*4))[j]? =some y->w.cell? ((⟨A,0,none⟩:Addr).add j)=some y:=fun j y D=>by
     have J:w.cell? ⟨A,j,none⟩=some y:=by
      rw[cell_of_row w A j z _ (0,0) L,<-Array.getElem?_toList];rw[fC] at D;split at D
      ·exact D
      ·cases D
     unfold Addr.add;split
     ·rename_i T;subst T;exact J
     ·simpa using J
    have F:=run_append_grow (P:=prog) w 54 R 95 i _ underlying54 U ac ⟨A,0,none⟩ qs.length H (z.toList.take (qs.length*4)) (by rw[N,bK];simp;omega) ak ⟨g,0,none⟩ 1 c [.bool s0,.slice l B c0,.bool s1,.slice n C s] (by rw[N];rfl) V (by omega) (by omega) (growslice_fits (by omega) (by rw[ad];omega));rw[E] at F;injection F with e1 I;subst e1 I;exact ae _ _ _ (fun y d=>Z y (lH d))
 refine⟨S,w',E,⟨⟨rows++[[.bool s0,.slice l B c0,.bool s1,.slice n C s]],?_,by simp[h2],fun r E=> ?_,fun j x D=> ?_⟩,ai⟩,ah⟩
 ·rw[cY,List.flatten_append];simpa using ho
 ·rcases List.mem_append.1 E with E|E
  ·exact h3 r E
  ·rw[List.mem_singleton.1 E];rfl
 ·rcases dE j qs.length with af|af
  ·rw[gA af] at D;obtain⟨a1,a2,a3,a4,a5,a6,a7,a8,x1,x2⟩:=h4 j x D;exact⟨a1,a2,a3,a4,a5,a6,a7,a8,by rw[gA (by omega)];exact x1,x2.ke ag⟩
  ·have aj:=(List.getElem?_eq_some_iff.1 D).1;rw[cY,iJ] at aj;obtain rfl:j=qs.length:=by omega
   rw[fK aE,Nat.sub_self] at D;have an:x=q:=by simpa using D.symm
   subst an;exact⟨s0,l,B,c0,s1,n,C,s,by rw[fK (by omega),h2,Nat.sub_self];rfl,hq.ke ag⟩
def MP{w:World}{ops:Array Oper}{o:Oper}{a:Act}{K:Act->World->Prop}{Q:Exit->Act->World->Prop}{E:Prop}(y:o.guard=none){s x:Operand}
  (A:o.op= .call { callee:= .builtin .append,args:= #[s,x],argTypes:= #[54,54] }){d:Nat}{v:Value}{qs:List Rat}(D:a.eval s=v)(r:GrowQ w d v qs){g c:Nat}(G:a.eval x= .slice (some ⟨g,0,none⟩) 1 c)
  {s0 s1:Bool}{f i:Option Addr}{k l c0 j:Nat}(p:Bx w g [.bool s0,.slice f k c0,.bool s1,.slice i l j] 95){q:Rat}(B:NQ w (.agg #[.bool s0,.slice f k c0,.bool s1,.slice i l j]) q)(z:qs.length<=1073741824)(t:d<=w.heap.size)
  (h:∀e w',GrowQ w' d e (qs++[q])->Below d w w'->K (a.put o.dst e) w'):if Region.wanted o (yielded ops a.tmps)=true then Oper.wp prog o a w K Q else E:=by
 have F:Region.wanted o (yielded ops a.tmps)=true:=by simp[Region.wanted,y]
 rw[if_pos F];obtain⟨e,w',C,m,n⟩:=MO w o.type r p B z t (c:=c);unfold Oper.wp execOp;simp only[A,resolve,invoke,builtin,Sem.run_bind,Sem.run_pure,Result.andThen_ok,List.map_toArray,fM,List.map_nil,D,G,C];exact h e w' m n
def VT(a:List (List UInt8))(v:Value)(w:World)(hv:StrsAt w v a)(hl:a.length<=1073741824)(ad:∀l∈a,l.length<=1073741824):
  Calls prog 61 #[v] w fun e w'=>∃Q,e= .returned (.tuple #[Q,.bool (a.all rd)])∧(a.all rd=true->∃g,Q= .slice (some ⟨g,0,none⟩) a.length a.length∧w.heap.size<=g∧OwnQ w' g (aU a))∧Below w.heap.size w w':=by
 obtain⟨A,c,rfl,hc⟩:=hv.form;have P:(aU a).length=a.length:=cH _;have s:=aB P;clear P;go_enter func61,ntmps61;go_wp2_with (at_make;refine jT rfl rfl 95 _ 4 64 underlying54 sJ rfl (by decide) a.length rfl rfl rfl rfl (by omega) (by omega) ?_;intro w1 ag M D);have y:=OwnQ.made M;clear M ag;go_loopg [5] a.length (fun k i wr=>∃j,Hid (j+k=a.length)∧i= .int .i64 j∧OwnQ wr w.heap.size ((aU a).take j++List.replicate k 0)∧Hid ((a.take j).all rd=true)∧Below w.heap.size w wr)
 case atStart=>exact⟨0,by unfold Hid;omega,rfl,by simpa using y,by unfold Hid;simp,D⟩
 case round=>
  clear y D;obtain⟨j,f,rfl,R,o,d⟩:=hrel;generalize wr=wx at *;have ak:(0:Int)<=(j:Int):=by omega
  cases gk with
  |zero=>
   have I:j=a.length:=f.out;have C:a.all rd=true:=by
    have:=o.out;rw[I,List.take_length] at this;exact this
   subst I;rw[List.replicate_zero,fH,cZ (by rw[s.out];exact aE)] at R;have U:=aB C;clear C o;go_wp2;go_ret2;rw[U.out];exact⟨_,rfl,fun _=>⟨w.heap.size,rfl,aE,R⟩,d⟩
  |succ k=>
   obtain⟨t,m⟩:∃t,a[j]? =some t:=⟨_,aR (by have:=f.out;omega)⟩;obtain⟨b,an,rfl,aj,g0⟩:=(hv.be d).at_ m;have af:=ad t (dG m);have al:(j:Int)<(a.length:Int):=by have:=f.out;omega
   have O:(aU a)[j]? =some ((eY t).getD 0):=by unfold aU;rw[iK,m];rfl
   have F:=rI (ys:=aU a) (z:=(0:Rat)) (j:=j) (k:=k+1) (by rw[s.out];exact f.out);have G:=rH (z:=(0:Rat)) (k:=k) O;have H:j<((aU a).take j++List.replicate (k+1) 0).length:=by rw[F,s.out];have:=f.out;omega
   have N:(a.take (j+1)).all rd=rd t:=by rw[BA,m,Option.toList_some,List.all_append,o.out];simp
   have J:rd t=false->a.all rd=false:=fun h=>by
    rw[List.all_eq_false];exact⟨t,dG m,by rw[h];simp⟩
   have V:=aB G;have q:=aB N;have p:=aB J;clear O F G N J m;go_wp2_with fail;refine(CE t _ af).mono ?_;rintro e2 w2 ⟨v2,q2,rfl,n,x,E⟩;obtain⟨s2,S,k2,Z,s3,T,k3,c3,rfl⟩:=n.form;replace R:=R.be E;replace d:=aC d E;cases hrd:rd t with
   |false=>
    have W:=aB (p.out hrd);clear p q hrd x;go_wp2;go_ret2;rw[W.out];exact⟨_,rfl,(fun h=>by cases h),d.alloc d.size _⟩
   |true=>
    have X:Hid (q2=(eY t).getD 0):=by
     obtain⟨r,L⟩:=Option.isSome_iff_exists.1 hrd;unfold Hid;rw[L];exact x r L
    rw[hrd] at q;clear p hrd x;obtain⟨W3,B,u,Y⟩:=bI w2 [.bool s2,.slice S k2 Z,.bool s3,.slice T k3 c3] 95;replace R:=R.be u;replace n:=n.be u;replace d:=aC d u;obtain⟨s',B',l',d',ao,ah,am,ai,q0, -⟩:=R.at_ (aR H);have f0:=R.free;have cX:=Y.k4;rw[X.out] at n;generalize (eY t).getD 0=q3 at *;go_wp2_with fail;(try rw[B]);clear B;go_wp2_with fail;obtain⟨K,ae⟩:=R.stored H n;rw[V.out] at K;have ac:=jD d ae.2 aE;go_roundg k
    case rel=>exact⟨j+1,by have:=f.out;unfold Hid;omega,by go_num,K,q,ac⟩
    case measure=>omega
def bx8(a:List Rat)(v:Value)(w:World)(hv:QsAt w v a)(K:Nat)(H:∀q∈a,RL K q)(I:K<=549755813888)(hl:a.length<=1073741824):
  Calls prog 28 #[v] w fun e w'=>∃F,e= .returned F∧StrsAt w' F (a.map cW)∧Below w.heap.size w w':=by
 obtain⟨A,c,rfl,Y⟩:=hv.form;have E:(a.map cW).length=a.length:=cH _;have h:=aB E;clear E;go_enter func28,ntmps28;go_wp2_with (at_make;refine jT rfl rfl 9 _ 1 16 underlying22 aq8 rfl (by decide) a.length rfl rfl rfl rfl (by omega) (by omega) ?_;intro w1 P y o);have n:=OwnS.made y;clear y P;go_loopg [4] a.length (fun k i wr=>∃j,Hid (j+k=a.length)∧i= .int .i64 j∧OwnS wr w.heap.size ((a.map cW).take j++List.replicate k [])∧Below w.heap.size w wr)
 case atStart=>exact⟨0,by unfold Hid;omega,rfl,by simpa using n,o⟩
 case round=>
  clear n o;obtain⟨j,f,rfl,R,g⟩:=hrel;generalize wr=wx at *;have Z:(0:Int)<=(j:Int):=by omega
  cases gk with
  |zero=>
   have N:j=a.length:=f.out;subst N;rw[List.replicate_zero,fH,cZ (by rw[h.out];exact aE)] at R;have C:=R.strs a.length (by rw[h.out];exact aE);rw[h.out] at C;go_wp2;go_ret;exact⟨_,rfl,C,g⟩
  |succ k=>
   obtain⟨q,l⟩:∃q,a[j]? =some q:=⟨_,aR (by have:=f.out;omega)⟩;obtain⟨b,s,B,m,d,s',S,m',T,rfl,X,W,M⟩:=(hv.be g).at_ l;have J:=H q (dG l);have ac:(j:Int)<(a.length:Int):=by have:=f.out;omega
   have D:(a.map cW)[j]? =some (cW q):=by rw[iK,l];rfl
   have r:=rI (ys:=a.map cW) (z:=([]:List UInt8)) (j:=j) (k:=k+1) (by rw[h.out];exact f.out);have t:=rH (z:=([]:List UInt8)) (k:=k) D;have u:j<((a.map cW).take j++List.replicate (k+1) []).length:=by rw[r,h.out];have:=f.out;omega
   have G:=aB t;clear D r t l;go_wp2_with fail;refine(CF q _ _ M K J I).mono ?_;rintro U w2 ⟨rfl,p⟩;replace R:=R.be p;replace g:=aC g p;have q0:=R.at_ (aR u);have V:=R.free j;generalize cW q=Q at *;go_wp2_with fail;obtain⟨x,O⟩:=R.stored u Q;rw[G.out] at x;have L:=jD g O aE;go_roundg k
   case rel=>exact⟨j+1,by have:=f.out;unfold Hid;omega,by go_num,x,L⟩
   case measure=>omega
def G8(w:World)(L:List (List UInt8))(c:Int)(e:Ending)(w':World):Prop:=∃a,e= .returned (.tuple #[a,.int .i64 c])∧StrsAt w' a L∧Below w.heap.size w w'
def C8(w:World)(b:List Rat)(e:Ending)(w':World):Prop:=∃a,e= .returned a∧QsAt w' a b∧Below w.heap.size w w'
def oP(a:List (List UInt8)):List Rat:=if vl a=true then aU a else []
def qP(w:World)(a:List (List UInt8))(e:Ending)(w':World):Prop:=∃b,e= .returned (.tuple #[b,.bool (vl a)])∧QsAt w' b (oP a)∧Below w.heap.size w w'
def tW{a:List (List UInt8)}(h:vl a=true):oP a=aU a:=if_pos h
def xO{a:List (List UInt8)}(h:vl a=false):oP a=[]:=if_neg (by rw[h];simp)
def JG(q:Rat):(q.num.sign==0)=decide (q=0):=by
 rw[Bool.eq_iff_iff,iQ,beq_iff_eq,Int.sign_eq_zero_iff_zero];exact⟨fun h=>Rat.num_eq_zero.1 h,fun h=>by rw[h];rfl⟩
def VQ(a:List (List UInt8))(v:Value)(w:World)(hv:StrsAt w v a)(C:a.length<=1073741824)(D:∀l∈a,l.length<=1073741824)(y:∀q∈aU a,RL 1099511627776 q):
  Calls prog 32 #[v] w (qP w a):=by
 obtain⟨A,c,rfl,N⟩:=hv.form;go_enter func32,ntmps32;go_wp2_with fail;refine(VT a _ _ hv C D).mono ?_;rintro K G ⟨V,rfl,o,e⟩;cases ha:a.all rd with
 |false=>
  have b:Hid (vl a=false):=by unfold Hid vl;rw[jA,ha];simp
  clear ha o;go_wp2;go_ret2;unfold qP;rw[b.out,xO b.out];exact⟨_,rfl,QsAt.nil _,e⟩
 |true=>
  obtain⟨g,rfl,O,R⟩:=o ha;have h:=VS a;have f:=R.nums a.length (by omega);rw[h] at f;clear o;by_cases p:a.length<=65
  ·have E:¬(65:Int)<(a.length:Int):=by omega
   by_cases i:a.length=0
   ·have b:Hid (vl a=true):=by
     have:a=[]:=cG i;unfold Hid;rw[this];rfl
    have F:decide (0<a.length)=false:=by rw[i];rfl
    clear ha i h R;go_wp2;go_ret2;unfold qP;rw[b.out,tW b.out];exact⟨_,rfl,f,e⟩
   ·obtain⟨m,j⟩:∃m,a.length=m+1:=⟨a.length-1,by omega⟩;have F:decide (0<a.length)=true:=by rw[j];simp
    have Q:(a.length:Int)-1=(m:Int):=by omega
    have S:(m:Int)<(a.length:Int):=by omega
    obtain⟨q,n⟩:∃q,(aU a)[m]? =some q:=⟨_,aR (by omega)⟩;obtain⟨s,B,k,d,T,H,P,J,M,z⟩:=R.at_ n;have t:(aU a).getLast?=some q:=by rw[List.getLast?_eq_getElem?,h,j];exact n
    have u:=oC q _ G z (y q (dG n)).1;have x:=JG q;have b:Hid (vl a= !decide (q=0)):=by
     unfold Hid vl;rw[Bool.eq_iff_iff,iQ,ha,t];simp[p]
    have I:=aB j;generalize q.num.sign=U at *;clear ha i h R n t j;go_wp2_with fail;refine u.mono ?_;rintro L W ⟨rfl,r⟩;clear u;replace e:=aC e r;replace f:=f.be r;cases hd:decide (q=0) with
    |true=>
     rw[hd] at x b;clear hd;go_wp2;go_ret2;unfold qP;rw[b.out,xO b.out];exact⟨_,rfl,QsAt.nil _,e⟩
    |false=>
     rw[hd] at x b;clear hd;go_wp2;go_ret2;unfold qP;rw[tW b.out,b.out];exact⟨_,rfl,f,e⟩
  ·have E:(65:Int)<(a.length:Int):=by omega
   have b:Hid (vl a=false):=VR p;clear ha p h R;go_wp2;go_ret2;unfold qP;rw[b.out,xO b.out];exact⟨_,rfl,QsAt.nil _,e⟩
def tZ(a:List Rat)(v:Value)(w:World)(hv:QsAt w v a)(E:∀q∈a,nl q.num.natAbs<=1099511627776)(T:a.length<=1073741824):
  Calls prog 95 #[v] w (C8 w (aW aV a)):=by
 obtain⟨A,c,rfl,S⟩:=hv.form;go_enter func95,ntmps95;go_wp2_with fail;go_loopg [3] a.length (fun k i wr=>∃m,Hid (m=k)∧i= .int .i64 m∧m<=a.length∧Hid (aW aV (a.take m)=aW aV a)∧Below w.heap.size w wr)
 case atStart=>exact⟨a.length,rfl,rfl,aE,by unfold Hid;rw[List.take_length],aG _ _⟩
 case round=>
  obtain⟨m,t,rfl,H,g,e⟩:=hrel;generalize wr=M at *;have U:(0:Int)<=(m:Int):=by omega
  cases gk with
  |zero=>
   obtain rfl:m=0:=t.out;have j:Hid (a.take 0=aW aV a):=by have:=g.out;exact this
   have f:=e;have hcut:=(hv.be e).cut 0 (by omega);have r0:(0:Int)<=(0:Int):=by decide
   clear g;go_wp2_with (at_builtin;refine yT rfl rfl rfl rfl hcut (by simp) ?_;intro K L n _ o);go_ret;exact⟨_,rfl,by rw[<-j.out];exact n,aC f o⟩
  |succ k=>
   have I:m=k+1:=t.out;subst I;obtain⟨q,h⟩:∃q,a[k]? =some q:=⟨_,aR (by omega)⟩;obtain⟨b,s,B,l,d,s',N,Z,O,rfl,R,Q,F⟩:=(hv.be e).at_ h;have J:=oC q _ M F (E q (dG h));have C:=JG q;have y:=zV aV a h;have z:=zW aV a h;have r:=aB y;have u:=aB z;have hcut:=(hv.be e).cut (k+1) H;clear y z;have V:((k:Int)+1)<=(a.length:Int):=by omega
   have W:k+1<=c:=by omega
   have X:k<=c:=by omega
   have Y:(0:Int)<=(k:Int):=by omega
   generalize q.num.sign=sg at *;go_wp2_with fail;refine J.mono ?_;rintro P w1 ⟨rfl,x⟩;have f:=aC e x;replace hcut:=hcut.be x;cases hd:decide (q=0) with
   |true=>
    have p:aV q=true:=hd;rw[hd] at C;clear hd;go_wp2;go_roundg k
    case rel=>exact⟨k,rfl,by simp,by omega,by unfold Hid;rw[<-r.out p];exact g.out,f⟩
    case measure=>omega
   |false=>
    have p:aV q=false:=hd;rw[hd] at C;have D:a.take (k+1)=aW aV a:=by rw[<-g.out];exact(u.out p).symm
    have j:=aB D;have G:(a.take (k+1)).length<=1073741824:=by rw[bK];omega
    clear hd D u r g;go_wp2_with (at_builtin;refine yT rfl rfl rfl rfl hcut G ?_;intro K L n _ o);go_ret;exact⟨_,rfl,by rw[<-j.out];exact n,aC f o⟩
end Go.Proofs.YtapgbkldiinabaaGreatDoor
namespace Go.Proofs.YtapgbkldiinabaaGreatDoor
open Sos Lib
def WN(m n:Nat):nl (m+n)<=max (nl m) (nl n)+1:=by
 have a:=cV m;have b:=cV n;refine cJ ?_;have c:BN^nl m<=BN^max (nl m) (nl n):=cO (by decide) (Nat.le_max_left _ _);have d:BN^nl n<=BN^max (nl m) (nl n):=cO (by decide) (Nat.le_max_right _ _);rw[dH];have e:2*BN^max (nl m) (nl n)<=BN^max (nl m) (nl n)*BN:=by rw[dN];exact eV _ (by decide)
 omega
def pM{n d:Int}{K:Nat}(hn:nl n.natAbs<=K)(b:nl d.natAbs<=K)(a:1<=K):RL K ((n:Rat)/d):=CA n d K hn b a
def xR{K:Nat}{q:Rat}(h:RL K q):1<=K:=by
 have b:=h.2;rcases iB K with a|a
 ·subst a;have:=cV q.den;rw[show nl q.den=0 by omega] at this;have:=q.den_pos;simp at *;omega
 ·exact a
def o6{x y:Rat}{a b:Nat}(c:RL a x)(d:RL b y):RL (a+b) (x*y):=by
 rw[<-yV];refine pM ?_ ?_ (by have:=xR c;omega)
 ·rw[fL];exact aH (fI _ _) (Nat.add_le_add c.1 d.1)
 ·rw[fL];exact aH (fI _ _) (Nat.add_le_add c.2 d.2)
def CI{x y:Rat}{a b:Nat}(c:RL a x)(d:RL b y):RL (a+b+1) (x+y):=by
 rw[<-EB];refine pM ?_ ?_ (by omega)
 ·refine aH (cK (Int.natAbs_add_le _ _)) (aH (WN _ _) ?_);have g:=fI x.num.natAbs y.den;have h:=fI y.num.natAbs x.den;have e:(x.num*y.den).natAbs=x.num.natAbs*y.den:=by rw[fL,dD]
  have f:(y.num*x.den).natAbs=y.num.natAbs*x.den:=by rw[fL,dD]
  rw[e,f];have:=c.1;have:=c.2;have:=d.1;have:=d.2;omega
 ·rw[fL];exact aH (fI _ _) (by have:=c.2;have:=d.2;simp only[dD];omega)
def JM{x y:Rat}{a b:Nat}(c:RL a x)(d:RL b y):RL (a+b+1) (x-y):=by
 rw[Rat.sub_eq_add_neg];exact CI c (C7 d)
def xS{x y:Rat}{a b:Nat}(c:RL a x)(e:RL b y):RL (a+b) (x/y):=by
 by_cases d:y=0
 ·rw[d,Rat.div_def,Rat.inv_zero,gX];exact iG (by have:=xR c;omega)
 ·rw[<-ED x y d];refine pM ?_ ?_ (by have:=xR c;omega)
  ·rw[fL];exact aH (fI _ _) (Nat.add_le_add c.1 e.2)
  ·rw[fL];exact aH (fI _ _) (Nat.add_le_add c.2 e.1)
def az3{n:Nat}(h:n<18446744073709551616):RL 1 ((n:Nat):Rat):=⟨cJ (by unfold BN;simpa using h),by show nl 1<=1;exact cJ (by decide)⟩
def lV{l:List Rat}{K:Nat}(h:∀q∈l,RL K q)(b:RL K 0)(i:Nat):RL K (cf l i):=by
 by_cases a:i<l.length
 ·rw[fZ a];exact h _ (List.getElem_mem a)
 ·rw[bV (by omega)];exact b
def aI(p:List Rat)(x:Rat):Rat:=p.foldr (fun a s=>s*x+a) 0
def fE(d:List Int)(a b:Int):Int:=(d.foldr (fun c v=>(v.1*a+c*v.2,v.2*b)) ((0:Int),(1:Int))).1
def iZ(d:List Int)(a b:Int):Int:=(d.foldr (fun c v=>(v.1*a+c*v.2,v.2*b)) ((0:Int),(1:Int))).2
def WQ(d:List Int)(a b:Int):iZ d a b=b^d.length:=by
 induction d with
 |nil=>simp[iZ]
 |cons c d e=>show iZ d a b*b=_;rw[e,eG,gR]
def WR(d:List Int)(a b:Int)(j:b≠0):(fE d a b:Rat)*b=iZ d a b*aI (d.map (fun n:Int=>(n:Rat))) (a/b):=by
 have k:(b:Rat)≠0:=by exact_mod_cast j
 induction d with
 |nil=>show((0:Int):Rat)*b=((1:Int):Rat)*0;simp
 |cons c d l=>
  have e:fE (c :: d) a b=fE d a b*a+c*iZ d a b:=rfl;have f:iZ (c :: d) a b=iZ d a b*b:=rfl;have g:aI ((c :: d).map (fun n:Int=>(n:Rat))) (a/b)=aI (d.map (fun n:Int=>(n:Rat))) (a/b)*(a/b)+c:=rfl;rw[e,f,g];push_cast;generalize (fE d a b:Rat)=v at *;generalize (iZ d a b:Rat)=p at *;generalize aI (d.map (fun n:Int=>(n:Rat))) (a/b)=s at *;have h:(v*a+c*p)*b=(v*b)*a+c*p*b:=by grind
  rw[h,l];have i:(a:Rat)=(a/b)*b:=by rw[gW k]
  generalize (a:Rat)/b=t at *;rw[i];grind
end Go.Proofs.YtapgbkldiinabaaGreatDoor
namespace Go.Proofs.YtapgbkldiinabaaGreatDoor
open Go.RowKit Sos
def CY(a:List Rat)(k i:Nat):cf (a++List.replicate k 0) i=cf a i:=by
 by_cases h:i<a.length
 ·rw[fZ (l:=a) h,rD (a:=a[i])];rw[gA h,aR h]
 ·rw[bV (l:=a) (by omega)];by_cases b:i<a.length+k
  ·refine rD ?_;rw[fK (by omega),j6,if_pos (by omega)]
  ·exact bV (by rw[cY,dB];omega)
end Go.Proofs.YtapgbkldiinabaaGreatDoor
namespace Go.Proofs.YtapgbkldiinabaaGreatDoor
open Sos
def gN(l:List Rat)(g:Nat->Rat)(i k:Nat):List Rat:=(List.range l.length).map (fun j=>if i<=j∧j<i+k then g j else cf l j)
def oR{a b:List Rat}(e:a.length=b.length)(h:∀j,cf a j=cf b j):a=b:=List.ext_getElem e (fun j c d=>by have:=h j;rwa [fZ c,fZ d] at this)
def CV{l:List Rat}{i:Nat}{x:Rat}(h:i<l.length)(j:Nat):cf (l.set i x) j=if j=i then x else cf l j:=by
 by_cases e:j=i
 ·subst e;rw[if_pos rfl];exact rD (by rw[gP h])
 ·rw[if_neg e];unfold cf;rw[czL,czL,C5 (fun h=>e h.symm)]
section
variable {l:List Rat}{g:Nat->Rat}{i k:Nat}
def o8:(gN l g i k).length=l.length:=by unfold gN;rw[cH,List.length_range]
def sC(j:Nat):cf (gN l g i k) j=if i<=j∧j<i+k∧j<l.length then g j else cf l j:=by
 unfold gN;rw[qA];by_cases h:j<l.length
 ·rw[if_pos h];by_cases a:i<=j∧j<i+k
  ·rw[if_pos a,if_pos ⟨a.1,a.2,h⟩]
  ·rw[if_neg a,if_neg (fun b=>a ⟨b.1,b.2.1⟩)]
 ·rw[if_neg h,if_neg (fun b=>h b.2.2),bV (by omega)]
def JV:gN l g i 0=l:=oR o8 (fun j=>by rw[sC,if_neg (by omega)])
def XO(h:i+k<l.length):(gN l g i k)[i+k]? =some (cf l (i+k)):=by
 have a:i+k<(gN l g i k).length:=by rw[o8];exact h
 rw[aR a,<-fZ a,sC,if_neg (by omega)]
def XP(h:i+k<l.length):(gN l g i k).set (i+k) (g (i+k))=gN l g i (k+1):=
 oR (by rw[eM,o8,o8]) (fun j=>by
  rw[CV (by rw[o8];exact h),sC,sC];by_cases e:j=i+k
  ·rw[if_pos e,if_pos (by omega),e]
  ·rw[if_neg e];by_cases a:i<=j∧j<i+k∧j<l.length
   ·rw[if_pos a,if_pos (by omega)]
   ·rw[if_neg a,if_neg (by omega)])
def JW{K:Nat}(d:∀q∈l,RL K q)(c:∀j,RL K (g j))(b:1<=K):∀q∈gN l g i k,RL K q:=fun q a=>by
 unfold gN at a;obtain⟨j,_,rfl⟩:=List.mem_map.1 a;split
 ·exact c j
 ·exact lV d (iG b) j
end
def CW{l:List Rat}{K L:Nat}(h:∀q∈l,RL K q)(a:K<=L):∀q∈l,RL L q:=fun q b=>bU (h q b) a
def JX(n:Nat):∀q∈List.replicate n (0:Rat),RL 1 q:=fun q a=>by rw[(List.mem_replicate.1 a).2];exact iG (mC 1)
def XQ{a:List Rat}{K:Nat}(h:∀q∈a,RL K q)(c:1<=K)(n:Nat):∀q∈a++List.replicate n 0,RL K q:=fun q b=>by
 rcases List.mem_append.1 b with b|b
 ·exact h q b
 ·exact bU (JX n q b) c
def oA(a:List Rat)(c:Rat)(b:List Rat):List Rat:=(List.range (max a.length b.length)).map (fun i=>cf a i+c*cf b i)
def bqH(a:List Rat)(c:Rat)(b:List Rat):(oA a c b).length=max a.length b.length:=by unfold oA;rw[cH,List.length_range]
def xW(a:List Rat)(c:Rat)(b:List Rat)(i:Nat):cf (oA a c b) i=cf a i+c*cf b i:=by
 unfold oA;rw[qA];split
 ·rfl
 ·rw[bV (l:=a) (by omega),bV (l:=b) (by omega),gX,Rat.add_zero]
def XR(a:List Rat)(c:Rat)(b:List Rat):aW aV (gN (a++List.replicate (max a.length b.length-a.length) 0) (fun j=>cf a j+c*cf b j) 0 b.length)=aW aV (oA a c b):=
 oZ (jS _) (jS _) (fun j=>by
  rw[iS,iS,xW,sC,CY,cY,dB];split
  ·rfl
  ·rename_i h;by_cases d:j<b.length
   ·exact absurd ⟨dC _,by omega,by omega⟩ h
   ·rw[bV (l:=b) (by omega),gX,Rat.add_zero])
def XS{a b:List Rat}{c:Rat}{K L:Nat}(e:∀q∈a,RL K q)(f:∀q∈b,RL K q)(h:RL L c)(d:1<=K)(j:Nat):RL (2*K+L+1) (cf a j+c*cf b j):=
 bU (CI (lV e (iG d) j) (o6 h (lV f (iG d) j))) (by omega)
def bqI{O a b:List Rat}{i:Nat}(d:∀j,cf O j=conv (fun k=>if k<i then cf a k else 0) (cf b) j)(f:i+b.length<=O.length)(j:Nat):
  cf (gN O (fun j=>cf O j+cf a i*cf b (j-i)) i b.length) j=conv (fun k=>if k<i+1 then cf a k else 0) (cf b) j:=by
 have e:conv (fun k=>if k<i+1 then cf a k else 0) (cf b) j=conv (fun k=>if k<i then cf a k else 0) (cf b) j+conv (fun k=>if k=i then cf a i else 0) (cf b) j:=by
  rw[<-qD];refine gL (fun k=> ?_) (fun _=>rfl) j;by_cases h:k<i
  ·rw[if_pos h,if_pos (by omega),if_neg (by omega),Rat.add_zero]
  ·by_cases c:k=i
   ·rw[if_neg h,if_pos (by omega),if_pos c,c,Rat.zero_add]
   ·rw[if_neg h,if_neg (by omega),if_neg c,Rat.add_zero]
 rw[e,qE,<-d,sC];by_cases h:i<=j∧j<i+b.length∧j<O.length
 ·rw[if_pos h,if_pos h.1]
 ·rw[if_neg h];by_cases c:i<=j
  ·rw[if_pos c,bV (l:=b) (by omega),gX,Rat.add_zero]
  ·rw[if_neg c,Rat.add_zero]
def bqJ{O a b:List Rat}(c:∀j,cf O j=conv (fun k=>if k<a.length then cf a k else 0) (cf b) j):aW aV O=aW aV (eF a b):=
 oZ (jS _) (jS _) (fun j=>by
  rw[iS,iS,aqH,c];refine gL (fun k=> ?_) (fun _=>rfl) j;split
  ·rfl
  ·rw[bV (by omega)])
structure DivQ(A B Q R:List Rat):Prop where
 id_:∀i,conv (cf Q) (cf B) i+cf R i=cf A i
 q_trim:aN Q
 r_trim:aN R
 r_lt:R.length<B.length
structure DivJ(A B Q R:List Rat)(i:Nat):Prop where
 id_:∀j,conv (cf Q) (cf B) j+cf R j=cf A j
 q0:∀j,j<i->cf Q j=0
 r0:∀j,i+B.length<=j+1->cf R j=0
def DivJ.start(A B:List Rat)(h:B.length<=A.length):DivJ A B (List.replicate (A.length-B.length+1) 0) A (A.length-B.length+1):=
 have a:∀j,cf (List.replicate (A.length-B.length+1) (0:Rat)) j=0:=fun j=>by
  have:=CY [] (A.length-B.length+1) j;rw[iM,eR] at this;exact this
 ⟨fun j=>by rw[lK a,Rat.zero_add],fun j _=>a j,fun j b=>bV (by omega)⟩
def DivJ.step{A B Q R:List Rat}{i:Nat}(h:DivJ A B Q R (i+1))(m:cf B (B.length-1)≠0)(hn:1<=B.length)(c:i<Q.length)(p:i+B.length<=R.length){f:Rat}(n:f=cf R (i+B.length-1)/cf B (B.length-1)):
  DivJ A B (Q.set i f) (gN R (fun j=>cf R j-f*cf B (j-i)) i B.length) i:=by
 have d:∀j,cf (gN R (fun j=>cf R j-f*cf B (j-i)) i B.length) j=cf R j-(if i<=j then f*cf B (j-i) else 0):=fun j=>by
  rw[sC];by_cases a:i<=j∧j<i+B.length∧j<R.length
  ·rw[if_pos a,if_pos a.1]
  ·rw[if_neg a];by_cases b:i<=j
   ·rw[if_pos b,bV (l:=B) (by omega)];grind
   ·rw[if_neg b];grind
 refine⟨fun j=> ?_,fun j o=> ?_,fun j o=> ?_⟩
 ·have e:conv (cf (Q.set i f)) (cf B) j=conv (cf Q) (cf B) j+conv (fun k=>if k=i then f else 0) (cf B) j:=by
   rw[<-qD];refine gL (fun k=> ?_) (fun _=>rfl) j;rw[CV c];by_cases e:k=i
   ·rw[if_pos e,if_pos e,h.q0 k (by omega),Rat.zero_add]
   ·rw[if_neg e,if_neg e,Rat.add_zero]
  rw[e,qE,d,<-h.id_ j];grind
 ·rw[CV c,if_neg (by omega)];exact h.q0 j (by omega)
 ·rw[d,if_pos (by omega)];by_cases e:j=i+B.length-1
  ·subst e;rw[show i+B.length-1-i=B.length-1 by omega,n,gW m];grind
  ·rw[h.r0 j (by omega),bV (l:=B) (by omega)];grind
def XT{l:List Rat}{n:Nat}(h:∀j,n<=j->cf l j=0):(aW aV l).length<=n:=by
 rcases dE n (aW aV l).length with a|a
 ·exfalso;have d:aW aV l≠[]:=by intro e;rw[e] at a;simp at a
  have b:=List.getLast?_eq_some_getLast d;have c:=vJ b;rw[iS,h _ (by omega)] at c;exact jS l _ b c.symm
 ·exact a
def DivJ.done{A B Q R:List Rat}(h:DivJ A B Q R 0)(hn:1<=B.length):DivQ A B (aW aV Q) (aW aV R):=
 ⟨fun j=>by rw[gL (iS Q) (fun _=>rfl) j,iS];exact h.id_ j,jS _,jS _,by
  have:=XT (l:=R) (n:=B.length-1) (fun j a=>h.r0 j (by omega));omega⟩
def DivQ.short{A B:List Rat}(h:A.length<B.length):DivQ A B [] (aW aV A):=
 ⟨fun j=>by rw[lK (fun k=>eR k),iS,Rat.zero_add],fun a b=>by simp at b,jS _,jI (oY _ _) h⟩
def XU{d:Nat->Rat}{ys:List Rat}{L:Nat}(f:cf ys (ys.length-1)≠0)(hn:1<=ys.length)(b:∀i,L<=i->d i=0)(h:∀i,ys.length<=i+1->conv d (cf ys) i=0):∀i,d i=0:=by
 induction L with
 |zero=>exact fun i=>b i (dC _)
 |succ L s=>
  refine s (fun i t=> ?_);by_cases o:L+1<=i
  ·exact b i o
  ·have e:i=L:=by omega
   subst e;have c:=p5 (p:=d) (q:=cf ys) (m:=i) (n:=ys.length-1) (fun j r=>b j (by omega)) (fun j r=>bV (by omega));rw[h _ (by omega)] at c;rcases Rat.mul_eq_zero.1 c.symm with a|a
   ·exact a
   ·exact absurd a f
def DivQ.unique{A B Q R Q' b:List Rat}(h:DivQ A B Q R)(a:DivQ A B Q' b)(f:cf B (B.length-1)≠0)(hn:1<=B.length):Q=Q'∧R=b:=by
 have c:∀i,conv (fun k=>cf Q k+(-1)*cf Q' k) (cf B) i=cf b i-cf R i:=fun i=>by
  rw[qD,t6];have m:=h.id_ i;have n:=a.id_ i;grind
 have e:=XU (d:=fun k=>cf Q k+(-1)*cf Q' k) (L:=Q.length+Q'.length) f hn (fun i j=>by show cf Q i+(-1)*cf Q' i=0;rw[bV (by omega),bV (by omega)];grind) (fun i j=>by rw[c,bV (by have:=a.r_lt;omega),bV (by have:=h.r_lt;omega)];grind);refine⟨oZ h.q_trim a.q_trim (fun i=> ?_),oZ h.r_trim a.r_trim (fun i=> ?_)⟩
 ·have:=e i;grind
 ·have:=c i;rw[lK e] at this;grind
def kM(K:Nat):Nat->Nat
 |0=>K
 |n+1=>2*kM K n+2*K+1
def JY(K n:Nat):kM K n+(2*K+1)=2^n*(3*K+1):=by
 induction n with
 |zero=>simp[kM];omega
 |succ n a=>
  rw[kM,dH,dN (2^n) 2,iW,<-a];omega
def uF(K:Nat){m n:Nat}(h:m<=n):kM K m<=kM K n:=by
 induction h with
 |refl=>exact aE
 |step _ a=>rw[kM];omega
def CX(K n:Nat):K<=kM K n:=uF K (dC n)
end Go.Proofs.YtapgbkldiinabaaGreatDoor
namespace Go.Proofs.YtapgbkldiinabaaGreatDoor
open Go.RowKit Sos Tryz
def KM.setRow{w:World}{g:Nat}{cur cs:Array Value}{e:TypeId}(h:w.heap[g]? =some (.cells cur e (0,0)))(hn:∀u∈cur.toList,NoInt u):KM w (w.setRow g cs):=
 ⟨by simp[World.setRow],fun p k x d=>by
  obtain⟨b,o,i⟩:=p;obtain rfl:i=none:=World.cell?_spot d;by_cases f:b=g
  ·subst f;rw[cell_of_row w b o cur e (0,0) h,<-Array.getElem?_toList] at d;exact absurd rfl (hn _ (dG d) k x)
  ·exact(World.cell?_of_block (setRow_other w g b cs f)).trans d⟩
def ZK:(Tryz.prog.info? 95).map (·.size)=some 4:=by kernel_rfl
abbrev zR:List Value:=[.bool false,.slice none 0 0,.bool false,.slice none 0 0]
def ZL(M:Nat):∀u∈(List.replicate M zR).flatten,NoInt u:=fun u e=>by
 obtain⟨r,d,b⟩:=List.mem_flatten.1 e;rw[(List.mem_replicate.1 d).2] at b;simp only[List.mem_cons,List.not_mem_nil,or_false] at b;rcases b with rfl|rfl|rfl|rfl<;>first|exact NoInt.bool _|exact NoInt.slice _ _ _
def OwnQ.copied{w:World}{g M:Nat}{rows:List (List Value)}{d:List Rat}(k:Rw w g 4 (List.replicate M zR) 95)(m:∀r∈rows,r.length=4)(f:rows.length=d.length)(z:d.length<=M)(hi:QRow w rows d):
  let W:=w.setRow g (rows.flatten++(List.replicate M zR).flatten.drop rows.flatten.length).toArray
  OwnQ W g (d++List.replicate (M-d.length) 0)∧r6 g w W:=by
 have e:w.heap[g]? =some (.cells (List.replicate M zR).flatten.toArray 95 (0,0)):=k.1;have t:∀u∈(List.replicate M zR).flatten.toArray.toList,NoInt u:=ZL M;have p:KM w (w.setRow g (rows.flatten++(List.replicate M zR).flatten.drop rows.flatten.length).toArray):=KM.setRow e t;have C:rows.flatten++(List.replicate M zR).flatten.drop rows.flatten.length=(rows++List.replicate (M-d.length) zR).flatten:=by
  rw[mX m,f,K3 _ 4 _ _ rfl z,List.flatten_append]
 refine⟨⟨rows++List.replicate (M-d.length) zR,⟨?_,fun r k=> ?_⟩,by simp[f],fun i n hn=> ?_⟩,p,fun x n D=>cyA e t D,fun b B=>setRow_other w g b _ B,by simp[World.setRow],rfl,rfl,rfl⟩
 ·unfold Bx;rw[<-C];exact setRow_heap w g _ _ _ _ e
 ·rcases List.mem_append.1 k with h|h
  ·exact m r h
  ·rw[(List.mem_replicate.1 h).2];rfl
 ·rcases dE i d.length with h|h
  ·rw[gA h] at hn;obtain⟨s,A,l,c,s',A',l',c',v,y⟩:=hi i n hn;exact⟨s,A,l,c,s',A',l',c',by rw[gA (by omega)];exact v,y.ke p⟩
  ·rw[fK h] at hn;have j:=(List.getElem?_eq_some_iff.1 hn).1;rw[dB] at j;rw[j6,if_pos j] at hn;injection hn with hn;subst hn;exact⟨false,none,0,0,false,none,0,0,by rw[fK (by omega),f,j6,if_pos j],NQ.zero _⟩
section
variable {w:World}{ops:Array Oper}{rest:List Oper}{o:Oper}{a:Act}{Q:Exit->Act->World->Prop}
def ZM(x:o.guard=none){d s:Operand}(z:o.op= .call { callee:= .builtin .copy,args:= #[d,s],argTypes:= #[54,54] }){g M c':Nat}(u:a.eval d= .slice (some ⟨g,0,none⟩) M c')(e:Rw w g 4 (List.replicate M zR) 95)
  {A:Option Addr}{l c:Nat}{b:List Rat}(E:a.eval s= .slice A l c)(C:QsAt w (.slice A l c) b)(i:b.length<=M)
  (h:∀w',OwnQ w' g (b++List.replicate (M-b.length) 0)->r6 g w w'->wpList prog ops Q rest (a.put o.dst (goInt l)) w'):wpList prog ops Q (o :: rest) a w:=by
 obtain⟨f,m,rfl,j,D,y,B⟩:=C.srcs;have n:f.flatten.length=b.length*4:=by rw[mX j,m]
 have v:f.flatten.length<=(List.replicate M zR).flatten.toArray.size:=by
  rw[n,List.size_toArray,mX (k:=4) (fun r e=>by rw[(List.mem_replicate.1 e).2];rfl),dB];omega
 obtain⟨p,t⟩:=OwnQ.copied e j m i y;exact Y0 x z 95 4 g M c' A b.length c _ 95 f.flatten underlying54 ZK (by decide) u E e.1 n i D v B (h _ p t)
end
def KY{l:List Rat}{g:Nat->Rat}{i k m:Nat}(b:i+k=m)(h:m<l.length):(gN l g i k)[m]? =some (cf l m)∧m<(gN l g i k).length∧(gN l g i k).set m (g m)=gN l g i (k+1):=by
 subst b;exact⟨XO h,by rw[o8];exact h,XP h⟩
def QsAt.cell{w:World}{A:Option Addr}{c:Nat}{e:List Rat}(h:QsAt w (.slice A e.length c) e){i:Nat}(hi:i<e.length):
  ∃b s B m d s' f k j,A=some ⟨b,0,none⟩∧b<w.heap.size∧R4 w b (i*4) (.bool s) (.slice B m d) (.bool s') (.slice f k j)∧NQ w (.agg #[.bool s,.slice B m d,.bool s',.slice f k j]) (cf e i):=
 h.at_ (by rw[aR hi,<-fZ hi])
def QVar(w:World)(b:Nat)(q:Rat):Prop:=∃s A l c s' A' l' c',Bx w b [.bool s,.slice A l c,.bool s',.slice A' l' c'] 95∧NQ w (.agg #[.bool s,.slice A l c,.bool s',.slice A' l' c']) q
section
variable {W0 w:World}{g:Nat}{q:Rat}{s s':Bool}{A A':Option Addr}{l c l' c':Nat}
def QVar.be{w':World}(h:QVar w g q)(b:Below w.heap.size w w'):QVar w' g q:=by
 obtain⟨s,A,l,c,s',A',l',c',d,e⟩:=h;exact⟨s,A,l,c,s',A',l',c',d.be b,e.be b⟩
def QVar.step{w':World}{b:Nat}(h:QVar w g q)(d:r6 b w w')(i:g≠b):QVar w' g q:=by
 obtain⟨s,A,l,c,s',A',l',c',e,f⟩:=h;exact⟨s,A,l,c,s',A',l',c',(d.2.2.1 g i).trans e,f.ke d.1⟩
def QVar.up{b:World}[u:Up w b](h:QVar w g q):QVar b g q:=h.be u.out
def KZ(h:NQ w (.agg #[.bool s,.slice A l c,.bool s',.slice A' l' c']) q)(b:Below W0.heap.size W0 w):QVar (w.alloc (.cells #[.bool s,.slice A l c,.bool s',.slice A' l' c'] 95)) w.heap.size q∧Below W0.heap.size W0 (w.alloc (.cells #[.bool s,.slice A l c,.bool s',.slice A' l' c'] 95)):=
 ⟨⟨_,_,_,_,_,_,_,_,Bx.new _ _ _,h.be ((aG _ _).alloc aE _)⟩,b.alloc b.size _⟩
def L0(D:Bx w g zR 95)(h:NQ w (.agg #[.bool s,.slice A l c,.bool s',.slice A' l' c']) q)(d:Below W0.heap.size W0 w)(j:W0.heap.size<=g):
  QVar ((((w.setCell ⟨g,0,none⟩ (.bool s)).setCell ⟨g,1,none⟩ (.slice A l c)).setCell ⟨g,2,none⟩ (.bool s')).setCell ⟨g,3,none⟩ (.slice A' l' c')) g q∧Below W0.heap.size W0 ((((w.setCell ⟨g,0,none⟩ (.bool s)).setCell ⟨g,1,none⟩ (.slice A l c)).setCell ⟨g,2,none⟩ (.bool s')).setCell ⟨g,3,none⟩ (.slice A' l' c')):=by
 obtain⟨k,e,b,f,i, -⟩:=D.mut4 d j (.bool s) (.slice A l c) (.bool s') (.slice A' l' c') rfl rfl;rw[e];exact⟨⟨_,_,_,_,_,_,_,_,b,h.ke i⟩,f⟩
end
