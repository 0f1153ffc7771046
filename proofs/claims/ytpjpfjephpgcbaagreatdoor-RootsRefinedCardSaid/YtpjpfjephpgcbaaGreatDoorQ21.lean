/- Laws. -/
import Derived.Test.YtpjpfjephpgcbaaGreatDoorQ20
set_option linter.all false
set_option maxHeartbeats 8000000
set_option maxRecDepth 99999
namespace Go.Proofs.YtpjpfjephpgcbaaGreatDoor
open Go.RowKit Sos Tryz
variable{b w w':World}{A f p:Option Addr}{R c d g i k l n o:Nat}{q:Rat}{qs:List Rat}{e v:Value}{a:List (List UInt8)}
abbrev R4(w:World)(b o:Nat)(c d e f:Value):Prop:=w.cell? ⟨b,o,none⟩=some c∧w.cell? ⟨b,o+1,none⟩=some d∧w.cell? ⟨b,o+2,none⟩=some e∧w.cell? ⟨b,o+3,none⟩=some f
def QRow(w:World)(rows:List (List Value))(qs:List Rat):Prop:=∀(i:Nat) (q:Rat),qs[i]? =some q->∃s A l c s' d e c',rows[i]? =some [Value.bool s,Value.slice A l c,Value.bool s',Value.slice d e c']∧NQ w (.agg #[.bool s,.slice A l c,.bool s',.slice d e c']) q
def QsAt(w:World)(v:Value)(qs:List Rat):Prop:=∃A c,v= .slice A qs.length c∧qs.length<=c∧(A=none∧qs=[]∨∃b rows,A=some ⟨b,0,none⟩∧Rw w b 4 rows 42∧qs.length<=rows.length∧QRow w rows qs)
def OwnQ(w:World)(b:Nat)(qs:List Rat):Prop:=∃rows,Rw w b 4 rows 42∧qs.length<=rows.length∧QRow w rows qs
def r6(g:Nat)(w W:World):Prop:=KM w W∧nD g w W
def KM.put{p:Addr}{c:Value}(f:w.cell? p=some c)(e:NoInt c)(v:Value):KM w (w.setCell p v):=
 ⟨by simp,fun q k x d=>by
  rw[World.cell?_setCell_other _ _ _ _ ?_,d];rintro rfl;rw[f] at d;injection d with d;exact absurd d (e _ _)⟩
def sJ:(Tryz.prog.info? 42).map (fun i=>(i.zero,i.size,i.bytes))=some (some (.agg #[.bool false,.slice none 0 0,.bool false,.slice none 0 0]),4,64):=by kernel_rfl
section
variable {w w':World}{b:Nat}{qs:List Rat}{v:Value}{rows:List (List Value)}
def QRow.ke(h:QRow w rows qs)(g:KM w w'):QRow w' rows qs:=fun i q hi=>by
 obtain⟨s,A,l,c,s',d,j,c',e,f⟩:=h i q hi;exact⟨s,A,l,c,s',d,j,c',e,f.ke g⟩
def QRow.take(h:QRow w rows qs)(m:Nat):QRow w rows (qs.take m):=fun i q hi=>by
 rw[fC] at hi;split at hi
 ·exact h i q hi
 ·cases hi
def QsAt.be(h:QsAt w v qs)(d:Below w.1.size w w'):QsAt w' v qs:=by
 obtain⟨A,c,hv,f,h⟩:=h;refine⟨A,c,hv,f,?_⟩;rcases h with h|⟨b,rows,e,j,i,g⟩
 ·exact .inl h
 ·exact .inr ⟨b,rows,e,j.be d,i,g.ke (KM.be d)⟩
def QsAt.drew(h:QsAt w v qs):QsAt w.drew v qs:=h.be (aG _ _).drew
def QsAt.step(h:QsAt w (.slice A l c) qs)(f:r6 g w w')(p:∀b,A=some ⟨b,0,none⟩->b≠g):QsAt w' (.slice A l c) qs:=by
 obtain⟨i,j,e,k,h⟩:=h;refine⟨i,j,e,k,?_⟩;simp only[Value.slice.injEq] at e;obtain⟨rfl,rfl,rfl⟩:=e;rcases h with h|⟨b,rows,e,d,n,m⟩
 ·exact .inl h
 ·exact .inr ⟨b,rows,e,⟨(f.2.2.1 b (p b e)).trans d.1,d.2⟩,n,m.ke f.1⟩
def QsAt.nil(w:World):QsAt w (.slice none 0 0) []:=⟨none,0,rfl,aE,.inl ⟨rfl,rfl⟩⟩
def QsAt.form(h:QsAt w v qs):∃A c,v= .slice A qs.length c∧qs.length<=c:=by
 obtain⟨A,c,hv,d,_⟩:=h;exact⟨A,c,hv,d⟩
def QsAt.cut(h:QsAt w (.slice A l c) qs)(m:Nat)(g:m<=qs.length):QsAt w (.slice A m c) (qs.take m):=by
 obtain⟨j,k,e,n,h⟩:=h;simp only[Value.slice.injEq] at e;obtain⟨rfl,rfl,rfl⟩:=e;refine⟨A,c,by rw[bK,gF g],by rw[bK];omega,?_⟩;rcases h with ⟨h,d⟩|⟨b,rows,e,i,p,f⟩
 ·exact .inl ⟨h,by rw[d];simp⟩
 ·exact .inr ⟨b,rows,e,i,by rw[bK];omega,f.take m⟩
def OwnQ.lt(h:OwnQ w b qs):b<w.1.size:=by
 obtain⟨rows,c,_⟩:=h;exact c.lt
def OwnQ.be(h:OwnQ w b qs)(c:Below w.1.size w w'):OwnQ w' b qs:=by
 obtain⟨rows,f,e,d⟩:=h;exact⟨rows,f.be c,e,d.ke (KM.be c)⟩
def OwnQ.drew(h:OwnQ w b qs):OwnQ w.drew b qs:=h.be (aG _ _).drew
def OwnQ.step(h:OwnQ w b qs)(d:r6 g w w')(i:b≠g):OwnQ w' b qs:=by
 obtain⟨rows,c,f,e⟩:=h;exact⟨rows,⟨(d.2.2.1 b i).trans c.1,c.2⟩,f,e.ke d.1⟩
def OwnQ.nums(h:OwnQ w b qs)(c:Nat)(d:qs.length<=c):QsAt w (.slice (some ⟨b,0,none⟩) qs.length c) qs:=by
 obtain⟨rows,g,f,e⟩:=h;exact⟨_,c,rfl,d,.inr ⟨b,rows,rfl,g,f,e⟩⟩
def OwnQ.free(h:OwnQ w b qs)(j:Nat):w.frozen? ⟨b,j,none⟩=false:=by
 obtain⟨rows,c,_⟩:=h;exact c.free j
def OwnQ.at_(h:OwnQ w b qs)(hi:qs[i]? =some q):
  ∃s B m d s' c j e,R4 w b (i*4) (.bool s) (.slice B m d) (.bool s') (.slice c j e)∧NQ w (.agg #[.bool s,.slice B m d,.bool s',.slice c j e]) q:=by
 obtain⟨rows,g,n,l⟩:=h;obtain⟨s,B,m,d,s',c,j,e,f,k⟩:=l i q hi;exact⟨s,B,m,d,s',c,j,e,⟨g.cell 0 f rfl,g.cell 1 f rfl,g.cell 2 f rfl,g.cell 3 f rfl⟩,k⟩
def QsAt.at_(h:QsAt w (.slice A l c) qs)(hi:qs[i]? =some q):
  ∃b s B m d s' g n j,A=some ⟨b,0,none⟩∧b<w.1.size∧R4 w b (i*4) (.bool s) (.slice B m d) (.bool s') (.slice g n j)∧NQ w (.agg #[.bool s,.slice B m d,.bool s',.slice g n j]) q:=by
 obtain⟨t,x,e,y,h⟩:=h;simp only[Value.slice.injEq] at e;obtain⟨rfl,rfl,rfl⟩:=e;rcases h with ⟨-,h⟩|⟨b,rows,e,f, -,r⟩
 ·rw[h] at hi;simp at hi
 ·obtain⟨s,B,m,d,s',g,n,j,k,p⟩:=r i q hi;exact⟨b,s,B,m,d,s',g,n,j,e,f.lt,⟨f.cell 0 k rfl,f.cell 1 k rfl,f.cell 2 k rfl,f.cell 3 k rfl⟩,p⟩
def OwnQ.stored(h:OwnQ w b qs)(hi:i<qs.length){s s':Bool}{r c':Nat}(hn:NQ w (.agg #[.bool s,.slice A l c,.bool s',.slice p r c']) q):
  let W:=(((w.setCell ⟨b,i*4,none⟩ (.bool s)).setCell ⟨b,i*4+1,none⟩ (.slice A l c)).setCell ⟨b,i*4+2,none⟩ (.bool s')).setCell ⟨b,i*4+3,none⟩ (.slice p r c')
  OwnQ W b (qs.set i q)∧r6 b w W:=by
 obtain⟨rows,P,Z,O⟩:=h;obtain⟨s1,D,G,E,t,d,n,f,N,h2⟩:=O i qs[i] (aR hi);have C:i<rows.length:=by omega
 have R:=P.set 0 N (by omega) (.bool s);have K:(rows.set i ([Value.bool s1,.slice D G E,.bool t,.slice d n f].set 0 (.bool s)))[i]? =some [.bool s,.slice D G E,.bool t,.slice d n f]:=by rw[gP C];rfl
 have H:=R.set 1 K (by omega) (.slice A l c);rw[bxM] at H;have L:(rows.set i ([Value.bool s,.slice D G E,.bool t,.slice d n f].set 1 (.slice A l c)))[i]? =some [.bool s,.slice A l c,.bool t,.slice d n f]:=by rw[gP C];rfl
 have I:=H.set 2 L (by omega) (.bool s');rw[bxM] at I;have M:(rows.set i ([Value.bool s,.slice A l c,.bool t,.slice d n f].set 2 (.bool s')))[i]? =some [.bool s,.slice A l c,.bool s',.slice d n f]:=by rw[gP C];rfl
 have S:=I.set 3 M (by omega) (.slice p r c');rw[bxM] at S;have J:=P.cell 0 N rfl;have x:=R.cell 1 K rfl;have y:=H.cell 2 L rfl;have z:=I.cell 3 M rfl;have F:=(((KM.put J (NoInt.bool _) (.bool s)).trans (KM.put x (NoInt.slice _ _ _) (.slice A l c))).trans (KM.put y (NoInt.bool _) (.bool s'))).trans (KM.put z (NoInt.slice _ _ _) (.slice p r c'));refine⟨⟨_,S,by simpa using Z,fun j m k=> ?_⟩,F,(((Keep.put J (NoInt.bool _) _).trans (Keep.put x (NoInt.slice _ _ _) _)).trans (Keep.put y (NoInt.bool _) _)).trans (Keep.put z (NoInt.slice _ _ _) _),fun g B=> ?_,by simp,rfl,rfl,rfl⟩
 ·by_cases e:i=j
  ·subst e;rw[gP hi] at k;injection k with k;subst k;exact⟨s,A,l,c,s',p,r,c',by rw[gP C];rfl,hn.ke F⟩
  ·rw[lI e] at k;obtain⟨x,y,z,T,U,V,X,Y,k1,k2⟩:=O j m k;exact⟨x,y,z,T,U,V,X,Y,by rw[lI e];exact k1,k2.ke F⟩
 ·rw[Below.heap_setCell _ ⟨b,i*4+3,none⟩ _ g B,Below.heap_setCell _ ⟨b,i*4+2,none⟩ _ g B,Below.heap_setCell _ ⟨b,i*4+1,none⟩ _ g B,Below.heap_setCell _ ⟨b,i*4,none⟩ _ g B]
def OwnQ.made(h:Rw w b 4 (List.replicate n [.bool false,.slice none 0 0,.bool false,.slice none 0 0]) 42):OwnQ w b (List.replicate n 0):=
 ⟨_,h,by simp,fun i m c=>⟨false,none,0,0,false,none,0,0,by
  have:=(List.getElem?_eq_some_iff.1 c).1;rw[dB] at this;rw[j6,if_pos this],by
  have:=j6 (n:=n) (a:=(0:Rat)) (i:=i);rw[c] at this;split at this
  ·injection this with this;subst this;exact NQ.zero w
  ·cases this⟩⟩
def Rw.src{t:TypeId}(i:Rw w b k rows t)(d:0<k)(hn:n<=rows.length):Src w (some ⟨b,0,none⟩) (rows.take n).flatten:=by
 have g:∀r∈rows.take n,r.length=k:=fun r h=>i.2 r (lH h);refine .inr ⟨b,0,rfl,fun j u l=> ?_⟩;have p:j<n*k:=by
  have:=(List.getElem?_eq_some_iff.1 l).1;rw[mX g,bK,gF hn] at this;exact this
 have m:j/k<n:=by rw[Nat.div_lt_iff_lt_mul d];exact p
 obtain⟨r,c⟩:∃r,(rows.take n)[j/k]? =some r:=⟨_,aR (by rw[bK];omega)⟩;have f:=mW g c (dI j d);have e:j/k*k+j%k=j:=by rw[dN];exact iD j k
 rw[e,l] at f;rw[fC,if_pos m] at c;have:=i.cell (j%k) c f.symm;rw[e] at this;rw[bA];exact this
def QsAt.srcs(h:QsAt w (.slice A l c) qs):
  ∃rows:List (List Value),rows.length=qs.length∧l=qs.length∧(∀r∈rows,r.length=4)∧Src w A rows.flatten∧QRow w rows qs∧∀u∈rows.flatten,u.oneCell'=true:=by
 obtain⟨f,g,e,F,h⟩:=h;simp only[Value.slice.injEq] at e;obtain⟨rfl,rfl,rfl⟩:=e;rcases h with ⟨rfl,rfl⟩|⟨b,rows,rfl,n,C,B⟩
 ·exact⟨[],rfl,rfl,(fun _ h=>by cases h),.inl rfl,(fun i q h=>by simp at h),(fun _ h=>by cases h)⟩
 ·have j:QRow w (rows.take qs.length) qs:=fun i q m=>by
   obtain⟨s,A,l,c,x,f,t,g,d,y⟩:=B i q m;exact⟨s,A,l,c,x,f,t,g,by rw[fC,if_pos (List.getElem?_eq_some_iff.1 m).1];exact d,y⟩
  refine⟨rows.take qs.length,by rw[bK];omega,rfl,fun r h=>n.2 r (lH h),n.src (by decide) C,j,fun u E=> ?_⟩;obtain⟨r,D,p⟩:=List.mem_flatten.1 E;obtain⟨i,k⟩:=List.mem_iff_getElem?.1 D;have z:=(List.getElem?_eq_some_iff.1 k).1;rw[bK] at z;obtain⟨s,A,l,c,x,f,t,g,d,_⟩:=j i _ (aR (by omega));rw[k] at d;injection d with d;subst d;simp at p;rcases p with rfl|rfl|rfl|rfl<;>rfl
def EA{p:Nat}(h:w.ownsRow p 42 4 v n rows.flatten)(J:∀r∈rows,r.length=4)(hn:rows.length=n)(z:qs.length=n)(hi:QRow w rows qs):
  QsAt w v qs∧(v= .slice none 0 0∨∃g d,v= .slice (some ⟨g,0,none⟩) n d∧p<=g∧OwnQ w g qs):=by
 rcases h.2 with ⟨rfl,O⟩|⟨g,d,E,rfl,H,I,R,U,K,L⟩
 ·obtain rfl:qs=[]:=bX (by omega);exact⟨QsAt.nil w,.inl rfl⟩
 ·obtain⟨B,P,q,e⟩:=BO 4 d E.toList (by simpa using K);have t:OwnQ w g qs:=by
   refine⟨B,⟨by unfold Bx;rw[I,q],e⟩,by omega,fun i m y=> ?_⟩;obtain⟨s,A,l,c,N,C,M,D,F,G⟩:=hi i m y;refine⟨s,A,l,c,N,C,M,D,?_,G⟩;have S:i<n:=by rw[<-z];exact(List.getElem?_eq_some_iff.1 y).1
   obtain⟨k,f⟩:∃k,B[i]? =some k:=⟨_,aR (by omega)⟩;rw[f];congr 1;have T:=e k (dG f);refine aq6 (fun j=> ?_);by_cases x:j<4
   ·rw[<-mW e f x,<-mW J F x,q,<-L,fC,if_pos (by omega)]
   ·rw[fU (by omega),fU (by simp;omega)]
  have:=t.nums d (by omega);rw[z] at this;exact⟨this,.inr ⟨g,d,rfl,H,t⟩⟩
def MM(w:World):(w.alloc (.cells #[] 42)).ownsRow w.1.size 42 4 (.slice (some ⟨w.1.size,0,none⟩) 0 0) 0 []:=
 ⟨by simp,.inr ⟨w.1.size,0,#[],rfl,aE,heap_alloc_new w _,aE,by decide,rfl,rfl⟩⟩
end
section
variable {w:World}{ops:Array Oper}{rest:List Oper}{o:Oper}{a:Act}{Q:Exit->Act->World->Prop}
def yT(y:o.guard=none){s x:Operand}(C:o.op= .call { callee:= .builtin .append,args:= #[s,x],argTypes:= #[45,45] })
  (F:a.eval s= .slice (some ⟨w.1.size,0,none⟩) 0 0)(H:a.eval x= .slice A l c)(E:QsAt w (.slice A l c) qs)(I:qs.length<=1073741824)
  (h:∀d w',QsAt w' d qs->(d= .slice none 0 0∨∃g p,d= .slice (some ⟨g,0,none⟩) qs.length p∧w.1.size<=g∧OwnQ w' g qs)->Below w.1.size w w'->wpList prog ops Q rest (a.put o.dst d) w'):
  wpList prog ops Q (o :: rest) a (w.alloc (.cells #[] 42)):=by
 have t:Below w.1.size w (w.alloc (.cells #[] 42)):=(aG _ _).alloc aE _;obtain⟨rows,n,rfl,m,G,z,D⟩:=E.srcs;refine gM y C 42 _ 4 64 underlying45 sJ rfl (by decide) w.1.size (.slice (some ⟨w.1.size,0,none⟩) 0 0) 0 [] F (MM w) rows.flatten H (by rw[mX m,n]) (G.be t) D (by omega) (by omega) (by simp) ?_;intro d w' j f _;have i:Below w.1.size w w':=⟨f.os,f.tape,f.output,aH (by simp) f.size,fun k B=>(f.block k (by simp;omega) (fun e=>by simp[Value.ownBlock] at e;omega)).trans (Below.heap_alloc w _ k B)⟩;rw[bA,iM] at j;obtain⟨q,r⟩:=EA j m n rfl (z.ke (KM.be i));exact h d w' q r i
end
section
variable {a b:World}[u:Up a b]
def QsAt.up(h:QsAt a v qs):QsAt b v qs:=h.be u.out
def OwnQ.up(h:OwnQ a g qs):OwnQ b g qs:=h.be u.out
def R4.up{d f i:Value}(h:R4 a g o d e f i)(c:g<a.1.size):R4 b g o d e f i:=
 ⟨(u.out.cell (p:=⟨g,o,none⟩) c).trans h.1,(u.out.cell (p:=⟨g,o+1,none⟩) c).trans h.2.1,(u.out.cell (p:=⟨g,o+2,none⟩) c).trans h.2.2.1,(u.out.cell (p:=⟨g,o+3,none⟩) c).trans h.2.2.2⟩
end
def R4.old{B:Nat}{f i j:Value}(h:R4 w g o e f i j)(c:Below B w w')(d:g<B):R4 w' g o e f i j:=
 ⟨(c.cell (p:=⟨g,o,none⟩) d).trans h.1,(c.cell (p:=⟨g,o+1,none⟩) d).trans h.2.1,(c.cell (p:=⟨g,o+2,none⟩) d).trans h.2.2.1,(c.cell (p:=⟨g,o+3,none⟩) d).trans h.2.2.2⟩
def yU(w:World)(v:Value):Prop:=∀g,v.ownBlock=some g->∀cur t f,w.heap[g]? =some (.cells cur t f)->∀y∈cur.toList,NoInt y
def GrowQ(w:World)(c:Nat)(v:Value)(qs:List Rat):Prop:=(∃rows,w.ownsRow c 42 4 v qs.length rows.flatten∧rows.length=qs.length∧(∀r∈rows,r.length=4)∧QRow w rows qs)∧yU w v
def GrowQ.nil(w:World):GrowQ w c (.slice none 0 0) []:=⟨⟨[],World.ownsRow_nil _ _ _ _,rfl,(fun _ h=>by cases h),(fun i q h=>by simp at h)⟩,fun g h=>by simp[Value.ownBlock] at h⟩
def GrowQ.nums(h:GrowQ w c v qs):QsAt w v qs:=by
 obtain⟨⟨rows,d,e,f,g⟩, -⟩:=h;exact(EA d f e rfl g).1
def GrowQ.be(h:GrowQ w l v qs)(k:Below w.1.size w w'):GrowQ w' l v qs:=by
 obtain⟨⟨rows,j,n,p,q⟩,s⟩:=h;have x:∀g,v.ownBlock=some g->g<w.1.size:=fun g e=>by
  rcases j.2 with ⟨rfl,_⟩|⟨i,m,d,rfl,_,c,_⟩
  ·simp[Value.ownBlock] at e
  ·simp[Value.ownBlock] at e;subst e;exact(Array.getElem?_eq_some_iff.1 c).1
 refine⟨⟨rows,⟨j.1,?_⟩,n,p,q.ke (KM.be k)⟩,fun g e d t f c=>s g e d t f ((k.block g (x g e)).symm.trans c)⟩;rcases j.2 with h|⟨i,m,d,rfl,r,c,h⟩
 ·exact .inl h
 ·exact .inr ⟨i,m,d,rfl,r,(k.block i (Array.getElem?_eq_some_iff.1 c).1).trans c,h⟩
def GrowQ.drew(h:GrowQ w c v qs):GrowQ w.drew c v qs:=h.be (aG _ _).drew
def GrowQ.up{a:World}[u:Up a b](h:GrowQ a c v qs):GrowQ b c v qs:=h.be u.out
def MN(n:Nat):∀y∈Builtin.zeroCells #[Value.bool false,.slice none 0 0,.bool false,.slice none 0 0] n,NoInt y:=fun y c=>by
 unfold Builtin.zeroCells at c;obtain⟨j,_,rfl⟩:=Array.mem_map.1 c;have d:(#[Value.bool false,.slice none 0 0,.bool false,.slice none 0 0]:Array Value).size=4:=rfl;rw[d];rcases(show j%4=0∨j%4=1∨j%4=2∨j%4=3 by omega) with h|h|h|h<;>rw[h]
 ·exact NoInt.bool _
 ·exact NoInt.slice _ _ _
 ·exact NoInt.bool _
 ·exact NoInt.slice _ _ _
def MO(w:World)(U:TypeId)(hG:GrowQ w R v qs)
  {E F:Bool}{l n:Option Addr}{C D s z:Nat}(hB:Bx w g [.bool E,.slice l C s,.bool F,.slice n D z] 42)(hq:NQ w (.agg #[.bool E,.slice l C s,.bool F,.slice n D z]) q)(hl:qs.length<=1073741824)(hb:R<=w.1.size):
  ∃V w',(Builtin.append_ #[45,45] U #[v,.slice (some ⟨g,0,none⟩) 1 c]).run prog w= .ok V w'∧GrowQ w' R V (qs++[q])∧Below R w w':=by
 obtain⟨⟨rows,M,h2,h3,h4⟩,hN⟩:=hG;obtain⟨i,X,ae,S,af⟩:=info_parts sJ;have Y:∀j u,[Value.bool E,.slice l C s,.bool F,.slice n D z][j]? =some u->w.cell? ((⟨g,0,none⟩:Addr).add j)=some u:=fun j u J=>by
  have:=hB.cell j J;unfold Addr.add;split
  ·rename_i W;subst W;exact this
  ·simpa using this
 have Z:∀u∈[Value.bool E,.slice l C s,.bool F,.slice n D z],NoInt u∧u.oneCell'=true:=fun u J=>by
  simp at J;rcases J with rfl|rfl|rfl|rfl
  ·exact⟨NoInt.bool _,rfl⟩
  ·exact⟨NoInt.slice _ _ _,rfl⟩
  ·exact⟨NoInt.bool _,rfl⟩
  ·exact⟨NoInt.slice _ _ _,rfl⟩
 obtain⟨V,w',H,ho,N,_,av⟩:=run_append_own_at (P:=prog) w R 45 U 42 i _ 4 64 underlying45 X ae S af rfl (by decide) v qs.length _ M ⟨g,0,none⟩ 1 c [.bool E,.slice l C s,.bool F,.slice n D z] rfl Y (fun u J=>(Z u J).2) (by unfold maxLen;omega) (by omega) hb
 have ai:KM w w':=⟨N.size,fun p k x T=>by
  obtain⟨b,o,sp⟩:=p;obtain rfl:sp=none:=World.cell?_spot T;by_cases e:v.ownBlock=some b
  ·rcases M.2 with ⟨rfl,_⟩|⟨B,K,A,rfl,_,O,_⟩
   ·simp[Value.ownBlock] at e
   ·have L:B=b:=by simpa [Value.ownBlock] using e
    subst L;rw[cell_of_row w B o A _ (0,0) O,<-Array.getElem?_toList] at T;exact absurd rfl (hN B e A _ _ O _ (dG T) k x)
  ·exact(World.cell?_of_block (N.block b (block_lt_of_cell (a:=⟨b,o,none⟩) T) (fun e'=>e e'.symm))).trans T⟩
 have aj:Below R w w':=⟨N.os,N.tape,N.output,N.size,fun k hk=>N.block k (by omega) (fun e=>by
  rcases M.2 with ⟨rfl,_⟩|⟨B,_,_,rfl,aw,_⟩
  ·simp[Value.ownBlock] at e
  ·simp[Value.ownBlock] at e;omega)⟩
 have ak:yU w' V:=by
  have ag:∀(ac:List Value) (K m:Nat),(∀y∈ac,NoInt y)->yU (w.drew.alloc (.cells (ac.toArray++[Value.bool E,.slice l C s,.bool F,.slice n D z].toArray++Builtin.zeroCells #[Value.bool false,.slice none 0 0,.bool false,.slice none 0 0] m) 42)) (.slice (some ⟨w.1.size,0,none⟩) (qs.length+1) K):=fun ac K m hv B e A t f hc=>by
   simp[Value.ownBlock] at e;subst e;have:=heap_alloc_new w.drew (.cells (ac.toArray++[Value.bool E,.slice l C s,.bool F,.slice n D z].toArray++Builtin.zeroCells #[Value.bool false,.slice none 0 0,.bool false,.slice none 0 0] m) 42);have h5:=this.symm.trans hc;simp only[Option.some.injEq,Obj.cells.injEq] at h5;rw[<-h5.1];intro y d;rw[bx5,bx5] at d;rcases List.mem_append.1 d with d|d
   ·rcases List.mem_append.1 d with d|d
    ·exact hv y d
    ·exact(Z y d).1
   ·exact MN m y (Array.mem_toList_iff.1 d)
  rcases M.2 with ⟨rfl,W⟩|⟨B,K,A,rfl,au,O,ay,ax,hs,ht⟩
  ·have I:=run_append_nil (P:=prog) w 45 U 42 i _ underlying45 X ae ⟨g,0,none⟩ 1 c [.bool E,.slice l C s,.bool F,.slice n D z] (by rw[S];rfl) Y (by decide) (by decide) (by rw[af];decide);rw[H] at I;injection I with e1 L;subst e1 L;have an:qs.length=0:=by omega
   have:=ag [] (grownCap w 1 0 42) (grownCap w 1 0 42-1) (fun _ h=>by cases h);rw[an] at this;exact this
  ·have ad:∀y∈A.toList,NoInt y:=hN B rfl A _ _ O;by_cases ao:qs.length+1<=K
   ·have I:=run_append_room (P:=prog) w 45 U 42 i underlying45 X B qs.length K A O ⟨g,0,none⟩ 1 c [.bool E,.slice l C s,.bool F,.slice n D z] (by rw[S];rfl) Y (fun u J=>(Z u J).2) ao (by rw[S,hs];simp;omega);rw[H] at I;injection I with e1 L;subst e1 L;intro g3 e ar t f hc;simp[Value.ownBlock] at e;subst e;have h7:=(setRow_heap w B A _ 42 _ O).symm.trans hc;simp only[Option.some.injEq,Obj.cells.injEq] at h7;rw[<-h7.1];intro y d;have aq:y∈A.toList.take (qs.length*i.size)++[Value.bool E,.slice l C s,.bool F,.slice n D z]++A.toList.drop (qs.length*i.size+4):=d;rcases List.mem_append.1 aq with d|d
    ·rcases List.mem_append.1 d with d|d
     ·exact ad y (lH d)
     ·exact(Z y d).1
    ·exact ad y (bxD d)
   ·have am:∀j y,(A.toList.take (qs.length*4))[j]? =some y->w.cell? ((⟨B,0,none⟩:Addr).add j)=some y:=fun j y G=>by
     have M:w.cell? ⟨B,j,none⟩=some y:=by
      rw[cell_of_row w B j A _ (0,0) O,<-Array.getElem?_toList];rw[fC] at G;split at G
      ·exact G
      ·cases G
     unfold Addr.add;split
     ·rename_i W;subst W;exact M
     ·simpa using M
    have I:=run_append_grow (P:=prog) w 45 U 42 i _ underlying45 X ae ⟨B,0,none⟩ qs.length K (A.toList.take (qs.length*4)) (by rw[S,bK];simp;omega) am ⟨g,0,none⟩ 1 c [.bool E,.slice l C s,.bool F,.slice n D z] (by rw[S];rfl) Y (by omega) (by omega) (growslice_fits (by omega) (by rw[af];omega));rw[H] at I;injection I with e1 L;subst e1 L;exact ag _ _ _ (fun y d=>ad y (lH d))
 refine⟨V,w',H,⟨⟨rows++[[.bool E,.slice l C s,.bool F,.slice n D z]],?_,by simp[h2],fun r H=> ?_,fun j x G=> ?_⟩,ak⟩,aj⟩
 ·rw[bE,byL];simpa using ho
 ·rcases List.mem_append.1 H with H|H
  ·exact h3 r H
  ·rw[List.mem_singleton.1 H];rfl
 ·rcases dE j qs.length with ah|ah
  ·rw[gA ah] at G;obtain⟨a1,a2,a3,a4,a5,a6,a7,a8,x1,x2⟩:=h4 j x G;exact⟨a1,a2,a3,a4,a5,a6,a7,a8,by rw[gA (by omega)];exact x1,x2.ke ai⟩
  ·have al:=(List.getElem?_eq_some_iff.1 G).1;rw[bE,iJ] at al;obtain rfl:j=qs.length:=by omega
   rw[fK aE,azV] at G;have ap:x=q:=by simpa using G.symm
   subst ap;exact⟨E,l,C,s,F,n,D,z,by rw[fK (by omega),h2,azV];rfl,hq.ke ai⟩
def MP{ops:Array Oper}{o:Oper}{a:Act}{K:Act->World->Prop}{Q:Exit->Act->World->Prop}{E:Prop}(B:o.guard=none){s x:Operand}
  (D:o.op= .call { callee:= .builtin .append,args:= #[s,x],argTypes:= #[45,45] })(H:a.eval s=v)(z:GrowQ w d v qs)(J:a.eval x= .slice (some ⟨g,0,none⟩) 1 c)
  {n p:Bool}{i:Option Addr}{m j:Nat}(y:Bx w g [.bool n,.slice f l j,.bool p,.slice i m k] 42)(F:NQ w (.agg #[.bool n,.slice f l j,.bool p,.slice i m k]) q)(C:qs.length<=1073741824)(A:d<=w.1.size)
  (h:∀e w',GrowQ w' d e (qs++[q])->Below d w w'->K (a.put o.dst e) w'):if Region.wanted o (yielded ops a.tmps)=true then Oper.wp prog o a w K Q else E:=by
 have I:Region.wanted o (yielded ops a.tmps)=true:=by simp[Region.wanted,B]
 rw[if_pos I];obtain⟨e,w',G,r,t⟩:=MO w o.type z y F C A (c:=c);unfold Oper.wp execOp;simp only[D,resolve,invoke,builtin,Sem.run_bind,Sem.run_pure,Result.andThen_ok,bxC,fM,aqJ,H,J,G];exact h e w' r t
def VT(a:List (List UInt8))(v:Value)(w:World)(hv:StrsAt w v a)(hl:a.length<=1073741824)(ad:∀l∈a,l.length<=1073741824):
  Calls prog 45 #[v] w fun e w'=>∃Q,e= .returned (.tuple #[Q,.bool (a.all rd)])∧(a.all rd=true->∃g,Q= .slice (some ⟨g,0,none⟩) a.length a.length∧w.1.size<=g∧OwnQ w' g (aU a))∧Below w.1.size w w':=by
 obtain⟨A,c,rfl,hc⟩:=hv.form;have P:(aU a).length=a.length:=cH _;have s:=aB P;clear P;go_enter func45,ntmps45;go_wp2_with (at_make;refine jT rfl rfl 42 _ 4 64 underlying45 sJ rfl (by decide) a.length rfl rfl rfl rfl (by omega) (by omega) ?_;intro w1 ag M D);have y:=OwnQ.made M;clear M ag;go_loopg [5] a.length (fun k i wr=>∃j,Hid (j+k=a.length)∧i= .int .i64 j∧OwnQ wr w.1.size ((aU a).take j++List.replicate k 0)∧Hid ((a.take j).all rd=true)∧Below w.1.size w wr)
 case atStart=>exact⟨0,by unfold Hid;omega,rfl,by simpa using y,by unfold Hid;simp,D⟩
 case round=>
  clear y D;obtain⟨j,f,rfl,R,o,d⟩:=hrel;generalize wr=wx at *;have ak:(0:Int)<=(j:Int):=by omega
  cases gk with
  |zero=>
   have I:j=a.length:=f.out;have C:a.all rd=true:=by
    have:=o.out;rw[I,aq9] at this;exact this
   subst I;rw[aq8,fH,cZ (by rw[s.out];exact aE)] at R;have U:=aB C;clear C o;go_wp2;go_ret2;rw[U.out];exact⟨_,rfl,fun _=>⟨w.1.size,rfl,aE,R⟩,d⟩
  |succ k=>
   obtain⟨t,m⟩:∃t,a[j]? =some t:=⟨_,aR (by have:=f.out;omega)⟩;obtain⟨b,an,rfl,aj,g0⟩:=(hv.be d).at_ m;have af:=ad t (dG m);have al:(j:Int)<(a.length:Int):=by have:=f.out;omega
   have O:(aU a)[j]? =some ((bD t).getD 0):=by unfold aU;rw[iK,m];rfl
   have F:=rI (ys:=aU a) (z:=(0:Rat)) (j:=j) (k:=k+1) (by rw[s.out];exact f.out);have G:=rH (z:=(0:Rat)) (k:=k) O;have H:j<((aU a).take j++List.replicate (k+1) 0).length:=by rw[F,s.out];have:=f.out;omega
   have N:(a.take (j+1)).all rd=rd t:=by rw[kR,m,aqO,byJ,o.out];simp
   have J:rd t=false->a.all rd=false:=fun h=>by
    rw[List.all_eq_false];exact⟨t,dG m,by rw[h];simp⟩
   have V:=aB G;have q:=aB N;have p:=aB J;clear O F G N J m;go_wp2_with fail;refine(CE t _ af).mono ?_;rintro e2 w2 ⟨v2,q2,rfl,n,x,E⟩;obtain⟨s2,S,k2,Z,s3,T,k3,c3,rfl⟩:=n.form;replace R:=R.be E;replace d:=aC d E;cases hrd:rd t with
   |false=>
    have W:=aB (p.out hrd);clear p q hrd x;go_wp2;go_ret2;rw[W.out];exact⟨_,rfl,(fun h=>by cases h),d.alloc d.size _⟩
   |true=>
    have X:Hid (q2=(bD t).getD 0):=by
     obtain⟨r,L⟩:=Option.isSome_iff_exists.1 hrd;unfold Hid;rw[L];exact x r L
    rw[hrd] at q;clear p hrd x;obtain⟨W3,B,u,Y⟩:=bI w2 [.bool s2,.slice S k2 Z,.bool s3,.slice T k3 c3] 42;replace R:=R.be u;replace n:=n.be u;replace d:=aC d u;obtain⟨s',B',l',d',ao,ah,am,ai,q0, -⟩:=R.at_ (aR H);have f0:=R.free;have cX:=Y.k4;rw[X.out] at n;generalize (bD t).getD 0=q3 at *;go_wp2_with fail;(try rw[B]);clear B;go_wp2_with fail;obtain⟨K,ae⟩:=R.stored H n;rw[V.out] at K;have ac:=jD d ae.2 aE;go_roundg k
    case rel=>exact⟨j+1,by have:=f.out;unfold Hid;omega,by go_num,K,q,ac⟩
    case measure=>omega
def lT(w:World)(b:List Rat)(e:Ending)(w':World):Prop:=∃a,e= .returned a∧QsAt w' a b∧Below w.1.size w w'
def oP(a:List (List UInt8)):List Rat:=if vl a=true then aU a else []
def qP(w:World)(a:List (List UInt8))(e:Ending)(w':World):Prop:=∃b,e= .returned (.tuple #[b,.bool (vl a)])∧QsAt w' b (oP a)∧Below w.1.size w w'
def tW(h:vl a=true):oP a=aU a:=if_pos h
def xO(h:vl a=false):oP a=[]:=if_neg (by rw[h];simp)
def JG(q:Rat):(q.num.sign==0)=decide (q=0):=by
 rw[bxH,iQ,beq_iff_eq,Int.sign_eq_zero_iff_zero];exact⟨fun h=>Rat.num_eq_zero.1 h,fun h=>by rw[h];rfl⟩
def VQ(a:List (List UInt8))(v:Value)(w:World)(hv:StrsAt w v a)(C:a.length<=1073741824)(D:∀l∈a,l.length<=1073741824)(y:∀q∈aU a,RL 1099511627776 q):
  Calls prog 16 #[v] w (qP w a):=by
 obtain⟨A,c,rfl,N⟩:=hv.form;go_enter func16,ntmps16;go_wp2_with fail;refine(VT a _ _ hv C D).mono ?_;rintro K G ⟨V,rfl,o,e⟩;cases ha:a.all rd with
 |false=>
  have b:Hid (vl a=false):=by unfold Hid vl;rw[jA,ha];simp
  clear ha o;go_wp2;go_ret2;unfold qP;rw[b.out,xO b.out];exact⟨_,rfl,QsAt.nil _,e⟩
 |true=>
  obtain⟨g,rfl,O,R⟩:=o ha;have h:=VS a;have f:=R.nums a.length (by omega);rw[h] at f;clear o;by_cases p:a.length<=65
  ·have E:¬(65:Int)<(a.length:Int):=by omega
   by_cases i:a.length=0
   ·have b:Hid (vl a=true):=by
     have:a=[]:=bX i;unfold Hid;rw[this];rfl
    have F:decide (0<a.length)=false:=by rw[i];rfl
    clear ha i h R;go_wp2;go_ret2;unfold qP;rw[b.out,tW b.out];exact⟨_,rfl,f,e⟩
   ·obtain⟨m,j⟩:∃m,a.length=m+1:=⟨a.length-1,by omega⟩;have F:decide (0<a.length)=true:=by rw[j];simp
    have Q:(a.length:Int)-1=(m:Int):=by omega
    have S:(m:Int)<(a.length:Int):=by omega
    obtain⟨q,n⟩:∃q,(aU a)[m]? =some q:=⟨_,aR (by omega)⟩;obtain⟨s,B,k,d,T,H,P,J,M,z⟩:=R.at_ n;have t:(aU a).getLast?=some q:=by rw[byO,h,j];exact n
    have u:=oC q _ G z (y q (dG n)).1;have x:=JG q;have b:Hid (vl a= !decide (q=0)):=by
     unfold Hid vl;rw[bxH,iQ,ha,t];simp[p]
    have I:=aB j;generalize q.num.sign=U at *;clear ha i h R n t j;go_wp2_with fail;refine u.mono ?_;rintro L W ⟨rfl,r⟩;clear u;replace e:=aC e r;replace f:=f.be r;cases hd:decide (q=0) with
    |true=>
     rw[hd] at x b;clear hd;go_wp2;go_ret2;unfold qP;rw[b.out,xO b.out];exact⟨_,rfl,QsAt.nil _,e⟩
    |false=>
     rw[hd] at x b;clear hd;go_wp2;go_ret2;unfold qP;rw[tW b.out,b.out];exact⟨_,rfl,f,e⟩
  ·have E:(65:Int)<(a.length:Int):=by omega
   have b:Hid (vl a=false):=VR p;clear ha p h R;go_wp2;go_ret2;unfold qP;rw[b.out,xO b.out];exact⟨_,rfl,QsAt.nil _,e⟩
def tZ(a:List Rat)(v:Value)(w:World)(hv:QsAt w v a)(E:∀q∈a,nl q.num.natAbs<=1099511627776)(T:a.length<=1073741824):
  Calls prog 163 #[v] w (lT w (aW aV a)):=by
 obtain⟨A,c,rfl,S⟩:=hv.form;go_enter func163,ntmps163;go_wp2_with fail;go_loopg [3] a.length (fun k i wr=>∃m,Hid (m=k)∧i= .int .i64 m∧m<=a.length∧Hid (aW aV (a.take m)=aW aV a)∧Below w.1.size w wr)
 case atStart=>exact⟨a.length,rfl,rfl,aE,by unfold Hid;rw[aq9],aG _ _⟩
 case round=>
  obtain⟨m,t,rfl,H,g,e⟩:=hrel;generalize wr=M at *;have U:(0:Int)<=(m:Int):=by omega
  cases gk with
  |zero=>
   obtain rfl:m=0:=t.out;have j:Hid (a.take 0=aW aV a):=by have:=g.out;exact this
   have f:=e;have hcut:=(hv.be e).cut 0 (by omega);have r0:(0:Int)<=(0:Int):=by decide
   clear g;go_wp2_with (at_builtin;refine yT rfl rfl rfl rfl hcut (by simp) ?_;intro K L n _ o);go_ret;exact⟨_,rfl,by rw[<-j.out];exact n,aC f o⟩
  |succ k=>
   have I:m=k+1:=t.out;subst I;obtain⟨q,h⟩:∃q,a[k]? =some q:=⟨_,aR (by omega)⟩;obtain⟨b,s,B,l,d,s',N,Z,O,rfl,R,Q,F⟩:=(hv.be e).at_ h;have J:=oC q _ M F (E q (dG h));have C:=JG q;have y:=zV aV a h;have z:=zW aV a h;have r:=aB y;have u:=aB z;have hcut:=(hv.be e).cut (k+1) H;clear y z;have V:((k:Int)+1)<=(a.length:Int):=by omega
   have W:k+1<=c:=by omega
   have X:k<=c:=by omega
   have Y:(0:Int)<=(k:Int):=by omega
   generalize q.num.sign=sg at *;go_wp2_with fail;refine J.mono ?_;rintro P w1 ⟨rfl,x⟩;have f:=aC e x;replace hcut:=hcut.be x;cases hd:decide (q=0) with
   |true=>
    have p:aV q=true:=hd;rw[hd] at C;clear hd;go_wp2;go_roundg k
    case rel=>exact⟨k,rfl,by simp,by omega,by unfold Hid;rw[<-r.out p];exact g.out,f⟩
    case measure=>omega
   |false=>
    have p:aV q=false:=hd;rw[hd] at C;have D:a.take (k+1)=aW aV a:=by rw[<-g.out];exact(u.out p).symm
    have j:=aB D;have G:(a.take (k+1)).length<=1073741824:=by rw[bK];omega
    clear hd D u r g;go_wp2_with (at_builtin;refine yT rfl rfl rfl rfl hcut G ?_;intro K L n _ o);go_ret;exact⟨_,rfl,by rw[<-j.out];exact n,aC f o⟩
end Go.Proofs.YtpjpfjephpgcbaaGreatDoor
namespace Go.Proofs.YtpjpfjephpgcbaaGreatDoor
open Sos Lib
variable{K a b i:Nat}{q x y:Rat}{l p:List Rat}
def WN(m n:Nat):nl (m+n)<=max (nl m) (nl n)+1:=by
 have a:=cyD m;have b:=cyD n;refine cJ ?_;have c:BN^nl m<=BN^max (nl m) (nl n):=cO (by decide) (Nat.le_max_left _ _);have d:BN^nl n<=BN^max (nl m) (nl n):=cO (by decide) (Nat.le_max_right _ _);rw[dH];have e:2*BN^max (nl m) (nl n)<=BN^max (nl m) (nl n)*BN:=by rw[dN];exact eV _ (by decide)
 omega
def pM{n d:Int}(hn:nl n.natAbs<=K)(b:nl d.natAbs<=K)(a:1<=K):RL K ((n:Rat)/d):=CA n d K hn b a
def xR(h:RL K q):1<=K:=by
 have b:=h.2;rcases iB K with a|a
 ·subst a;have:=cyD q.den;rw[show nl q.den=0 by omega] at this;have:=q.den_pos;simp at *;omega
 ·exact a
def o6(c:RL a x)(d:RL b y):RL (a+b) (x*y):=by
 rw[<-yV];refine pM ?_ ?_ (by have:=xR c;omega)
 ·rw[fL];exact aH (fI _ _) (by5 c.1 d.1)
 ·rw[fL];exact aH (fI _ _) (by5 c.2 d.2)
def CI(c:RL a x)(d:RL b y):RL (a+b+1) (x+y):=by
 rw[<-EB];refine pM ?_ ?_ (by omega)
 ·refine aH (cK (bz2 _ _)) (aH (WN _ _) ?_);have g:=fI x.num.natAbs y.den;have h:=fI y.num.natAbs x.den;have e:(x.num*y.den).natAbs=x.num.natAbs*y.den:=by rw[fL,dD]
  have f:(y.num*x.den).natAbs=y.num.natAbs*x.den:=by rw[fL,dD]
  rw[e,f];have:=c.1;have:=c.2;have:=d.1;have:=d.2;omega
 ·rw[fL];exact aH (fI _ _) (by have:=c.2;have:=d.2;simp only[dD];omega)
def JM(c:RL a x)(d:RL b y):RL (a+b+1) (x-y):=by
 rw[Rat.sub_eq_add_neg];exact CI c (C7 d)
def xS(c:RL a x)(e:RL b y):RL (a+b) (x/y):=by
 by_cases d:y=0
 ·rw[d,azE,Rat.inv_zero,gX];exact iG (by have:=xR c;omega)
 ·rw[<-ED x y d];refine pM ?_ ?_ (by have:=xR c;omega)
  ·rw[fL];exact aH (fI _ _) (by5 c.1 e.2)
  ·rw[fL];exact aH (fI _ _) (by5 c.2 e.1)
def az3{n:Nat}(h:n<18446744073709551616):RL 1 ((n:Nat):Rat):=⟨cJ (by unfold BN;simpa using h),by show nl 1<=1;exact cJ (by decide)⟩
def lV(h:∀q∈l,RL K q)(b:RL K 0)(i:Nat):RL K (cf l i):=by
 by_cases a:i<l.length
 ·rw[fZ a];exact h _ (aq0 a)
 ·rw[bV (by omega)];exact b
def aI(p:List Rat)(x:Rat):Rat:=p.foldr (fun a s=>s*x+a) 0
def WO(x:Rat)(h:p[i]? =some q):aI (p.drop i) x=aI (p.drop (i+1)) x*x+q:=by
 obtain⟨a,rfl⟩:=List.getElem?_eq_some_iff.1 h;rw[j5 a];rfl
def CJ(b:∀q∈p,RL K q)(f:RL K x):RL (1+p.length*(2*K+1)) (aI p x):=by
 induction p with
 |nil=>exact iG (by omega)
 |cons a p g=>
  have c:=g (fun q e=>b q (j8 _ e));have d:=CI (o6 c f) (b a (iC ..));refine bU d ?_;rw[eG,aq2 p.length];generalize p.length*(2*K+1)=z;omega
def fE(ns:List Int)(a b:Int):Int:=(ns.foldr (fun c v=>(v.1*a+c*v.2,v.2*b)) ((0:Int),(1:Int))).1
def iZ(ns:List Int)(a b:Int):Int:=(ns.foldr (fun c v=>(v.1*a+c*v.2,v.2*b)) ((0:Int),(1:Int))).2
def WP{ns:List Int}{n:Int}(a b:Int)(h:ns[i]? =some n):fE (ns.drop i) a b=fE (ns.drop (i+1)) a b*a+n*iZ (ns.drop (i+1)) a b∧iZ (ns.drop i) a b=iZ (ns.drop (i+1)) a b*b:=by
 obtain⟨c,rfl⟩:=List.getElem?_eq_some_iff.1 h;rw[j5 c];exact⟨rfl,rfl⟩
def WQ(ns:List Int)(a b:Int):iZ ns a b=b^ns.length:=by
 induction ns with
 |nil=>simp[iZ]
 |cons c ns d=>show iZ ns a b*b=_;rw[d,eG,gR]
def WR(ns:List Int)(a b:Int)(i:b≠0):(fE ns a b:Rat)*b=iZ ns a b*aI (ns.map (fun n:Int=>(n:Rat))) (a/b):=by
 have j:(b:Rat)≠0:=by exact_mod_cast i
 induction ns with
 |nil=>show((0:Int):Rat)*b=((1:Int):Rat)*0;simp
 |cons c ns k=>
  have d:fE (c :: ns) a b=fE ns a b*a+c*iZ ns a b:=rfl;have e:iZ (c :: ns) a b=iZ ns a b*b:=rfl;have f:aI ((c :: ns).map (fun n:Int=>(n:Rat))) (a/b)=aI (ns.map (fun n:Int=>(n:Rat))) (a/b)*(a/b)+c:=rfl;rw[d,e,f];push_cast;generalize (fE ns a b:Rat)=v at *;generalize (iZ ns a b:Rat)=p at *;generalize aI (ns.map (fun n:Int=>(n:Rat))) (a/b)=s at *;have g:(v*a+c*p)*b=(v*b)*a+c*p*b:=by grind
  rw[g,k];have h:(a:Rat)=(a/b)*b:=by rw[gW j]
  generalize (a:Rat)/b=t at *;rw[h];grind
end Go.Proofs.YtpjpfjephpgcbaaGreatDoor
namespace Go.Proofs.YtpjpfjephpgcbaaGreatDoor
open Go.RowKit Sos Tryz
variable{p:List Rat}{K T d i m:Nat}{l ns:List Int}{n x:Int}
def VO(w:World)(b:Nat)(q:Rat):Prop:=∃s A l c s' a d c',Bx w b [.bool s,.slice A l c,.bool s',.slice a d c'] 42∧NQ w (.agg #[.bool s,.slice A l c,.bool s',.slice a d c']) q
def CD(p:List Rat)(x:Rat)(v vx:Value)(w:World)(hv:QsAt w v p)(U:NQ w vx x)(K:Nat)(P:∀q∈p,RL K q)(t:RL K x)(hl:p.length<=1024)(aj:2*(1+p.length*(2*K+1)+K)+1<=549755813888):
  Calls prog 47 #[v,vx] w (eS w (aI p x)):=by
 obtain⟨A,c,rfl,hc⟩:=hv.form;obtain⟨s1,B,Y,H,s2,C,Z,I,rfl⟩:=U.form;obtain⟨W,M,a,X,R,V⟩:=gE w [.bool s1,.slice B Y H,.bool s2,.slice C Z I] 42 [.bool false,.slice none 0 0,.bool false,.slice none 0 0] 42 [.bool false,.slice none 0 0,.bool false,.slice none 0 0] 42;have e:=aa X.g4 (aa R.g4 V.g4);go_enter func47,ntmps47;go_wp2_with fail;(try rw[M]);clear M;obtain⟨W1,N,V,a,l,d⟩:=V.mut4 a (by omega) (.bool false) (.slice none 0 0) (.bool false) (.slice none 0 0) rfl rfl;replace X:=d X (by omega);replace R:=d R (by omega);rw[N];clear N;replace e:=aa X.k4 (aa R.g4 V.g4);go_loopg [6] p.length (fun k i wr=>∃z:Int,Hid (z=(k:Int)-1)∧i= .int .i64 z∧k<=p.length∧Bx wr w.1.size [.bool s1,.slice B Y H,.bool s2,.slice C Z I] 42∧Bx wr (w.1.size+1) [.bool false,.slice none 0 0,.bool false,.slice none 0 0] 42∧VO wr (w.1.size+1+1) (aI (p.drop k) x)∧Below w.1.size w wr)
 case atStart=>exact⟨(p.length:Int)-1,rfl,rfl,aE,X,R,⟨_,_,_,_,_,_,_,_,V,by rw[azY];exact NQ.zero _⟩,a⟩
 case round=>
  clear X R V a e;obtain⟨z,F,rfl,l,X,R,⟨s3,D,k3,J,s4,E,k4,L,V,o⟩,a⟩:=hrel;generalize wr=wx at *;have e:=aa X.g4 (aa R.g4 V.g4);cases gk with
  |zero=>
   have hz:z<0:=by have:=F.out;omega
   have am:¬0<=z:=by omega
   go_wp2_with fail;obtain⟨W6,j,R,a,l,d⟩:=R.mut4 a (by omega) (.bool s3) (.slice D k3 J) (.bool s4) (.slice E k4 L) rfl rfl;replace X:=d X (by omega);replace V:=d V (by omega);replace o:=o.ke l;rw[j];clear j;replace e:=aa X.k4 (aa R.k4 V.k4);exact aM (v:= .agg #[.bool s3,.slice D k3 J,.bool s4,.slice E k4 L]) (by simp[results,results47,go_sem,R.k4]) rfl ⟨_,rfl,o,a⟩
  |succ k=>
   obtain rfl:z=(k:Int):=by have:=F.out;omega
   obtain⟨q,f⟩:∃q,p[k]? =some q:=⟨_,aR (by omega)⟩;obtain⟨b,s5,A5,k5,c5,s6,A6,k6,c6,rfl,ag,g0,hi⟩:=(hv.be a).at_ f;have al:(k:Int)<(p.length:Int):=by omega
   have ak:(0:Int)<=(k:Int):=by omega
   have S:=WO x f;have g:=CJ (p:=p.drop (k+1)) (fun q f=>P q (bxD f)) t;have bl:1+(p.drop (k+1)).length*(2*K+1)<=1+p.length*(2*K+1):=by
    rw[eP];have:=dK (2*K+1) (show p.length-(k+1)<=p.length by omega);omega
   replace g:=bU g bl;have ah:1<=p.length:=by omega
   have ad:2*K+1<=p.length*(2*K+1):=by
    have:=dK (2*K+1) ah;omega
   have G:=o6 g t;have T:=fun W u v h s=>sL (aI (p.drop (k+1)) x) x u v W h s (1+p.length*(2*K+1)) g (bU t (by omega)) (by omega);have Q:=fun W u v h s=>sK (aI (p.drop (k+1)) x*x) q u v W h s (1+p.length*(2*K+1)+K) G (bU (P q (dG f)) (by omega)) (by omega);have ac:=aB S;have ai:=U.be a;unfold eS at T Q;clear S g G bl ad f;generalize aI (p.drop (k+1)) x*x+q=y at *;generalize aI (p.drop (k+1)) x*x=m at *;generalize aI (p.drop (k+1)) x=sv at *;go_wp2_with fail
   go_region_with (first
    |(go_at_call 60;refine(T _ _ _ o.up ai.up).mono ?_;rintro e7 w7 ⟨v7,rfl,O,ae⟩;obtain⟨s7,A7,k7,c7,s8,A8,k8,c8,rfl⟩:=O.form;have:=St.mk ae;have g1:=g0.up (b:=w7) ag)
    |(go_at_call 103;refine(Q _ _ _ O.up hi.up).mono ?_;rintro e9 r ⟨v9,rfl,n,af⟩;obtain⟨s9,A9,k9,c9,s0,A0,k0,c0,rfl⟩:=n.form;have:=St.mk af;replace X:=X.up (b:=r);replace R:=R.up (b:=r);replace V:=V.up (b:=r);replace a:=bJ (b:=r) a;replace e:=aa X.g4 (aa R.g4 V.g4)))
   all_goals (
    go_wp2_with fail;obtain⟨W6,j,V,a,l,d⟩:=V.mut4 a (by omega) (.bool s9) (.slice A9 k9 c9) (.bool s0) (.slice A0 k0 c0) rfl rfl;replace X:=d X (by omega);replace R:=d R (by omega);replace n:=n.ke l;rw[j];clear j;replace e:=aa X.k4 (aa R.k4 V.k4);go_roundg k
    case rel=>exact⟨(k:Int)-1,rfl,by first|rfl|go_num,by omega,X,R,⟨_,_,_,_,_,_,_,_,V,by rw[ac.out];exact n⟩,a⟩
    case measure=>omega)
def fW(p:List Rat):List Rat:=(List.range (p.length-1)).map (fun i=>cf p (i+1)*((i+1:Nat):Rat))
def qO(p:List Rat):(fW p).length=p.length-1:=by unfold fW;rw[cH,bxZ]
def VP{q:Rat}(a:1<=m)(h:p[m]? =some q):(fW p).take m=(fW p).take (m-1)++[q*(m:Rat)]:=by
 obtain⟨i,rfl⟩:∃i,m=i+1:=⟨m-1,by omega⟩;have b:=(List.getElem?_eq_some_iff.1 h).1;have e:(fW p)[i]? =some (q*((i+1:Nat):Rat)):=by
  unfold fW;rw[iK,byN (by omega),<-rD h];rfl
 rw[kR,e,mD];rfl
def JE(b:∀q∈p,RL K q)(d:p.length<=1024)(a:1<=K):∀q∈fW p,RL (K+1) q:=fun q c=>by
 obtain⟨i,hi,rfl⟩:=List.mem_map.1 c;exact o6 (lV b (iG a) _) (az3 (by have:=List.mem_range.1 hi;omega))
def JF(p:List Rat)(v:Value)(w:World)(hv:QsAt w v p)(K:Nat)(r:∀q∈p,RL K q)(R:p.length<=1024)(f:1<=K)(J:2*K<=549755813888):
  Calls prog 122 #[v] w (lT w (aW aV (fW p))):=by
 obtain⟨A,c,rfl,hc⟩:=hv.form;go_enter func122,ntmps122;go_wp2_with fail;go_loopg [3,4] (p.length-1) (fun k Y Z wr=>∃m,Hid (m+k=p.length-1+1)∧1<=m∧Z= .int .i64 (m:Int)∧GrowQ wr w.1.size Y ((fW p).take (m-1))∧Below w.1.size w wr)
 case atStart=>exact⟨1,by unfold Hid;omega,aE,rfl,by simpa using GrowQ.nil _,aG _ _⟩
 case round=>
  obtain⟨m,e,S,rfl,j,l⟩:=hrel;generalize wr=B at *;have ad:(0:Int)<=(m:Int):=by omega
  cases gk with
  |zero=>
   have ac:¬(m:Int)<(p.length:Int):=by have:=e.out;omega
   have s:=j.nums;rw[cZ (by rw[qO];have:=e.out;omega)] at s;have U:=tZ (fW p) _ B s (fun q d=>aH (JE r R f q d).1 (by omega)) (by rw[qO];omega);clear j e;go_wp2_with fail;refine U.mono ?_;rintro e1 w1 ⟨v1,rfl,f,L⟩;go_wp2;go_ret;exact⟨_,rfl,f,aC l L⟩
  |succ k=>
   have T:m<p.length:=by have:=e.out;omega
   have ae:(m:Int)<(p.length:Int):=by omega
   obtain⟨q,d⟩:∃q,p[m]? =some q:=⟨_,aR T⟩;obtain⟨b,s5,C,V,F,s6,D,X,G,rfl,g,i,Q⟩:=hv.at_ d;have z:=VP S d;have t:=fun W=>r7 m W (by omega);have x:=fun W u v h H=>sL q (m:Rat) u v W h H K (r q (dG d)) (bU (az3 (by omega)) f) J;have P:((fW p).take (m-1)).length<=1073741824:=by rw[bK,qO];omega
   have E:=aB z;unfold eS at x t;clear z d;have:=St.mk l;generalize q*(m:Rat)=y at *;generalize (m:Rat)=mr at *;have gx:=i.up (b:=B) g;go_wp2_with fail
   go_region_held3 (fun w'=>R4 w' b (m*4) (.bool s5) (.slice C V F) (.bool s6) (.slice D X G))
    (first|(with_reducible exact i.up g)|(with_reducible exact R4.old (i.up g) (by assumption) g))
    (first
     |(go_at_call 58;refine(t _).mono ?_;rintro e7 w7 ⟨v7,rfl,n,N⟩;obtain⟨s7,A7,k7,c7,s8,A8,k8,c8,rfl⟩:=n.form;have:=St.mk N)
     |(go_at_call 60;refine(x _ _ _ Q.up n.up).mono ?_;rintro e9 w9 ⟨v9,rfl,o,O⟩;obtain⟨s9,A9,k9,c9,s0,A0,k0,c0,rfl⟩:=o.form;have:=St.mk O)
     |((refine MP (by rfl) (by rfl) (by rfl) j.up (by rfl) (Bx.new _ _ _) o.up P (Up.out (a:=w)).size ?_;intro v4 w4 I M)))
   all_goals (
    go_wp2;go_roundg k
    case rel=>exact⟨m+1,by have:=e.out;unfold Hid;omega,by omega,by go_num,by rw[mD,E.out];exact I,(Up.out (a:=w)).trans M⟩
    case measure=>omega)
def JO(n c:Nat)(A:Option Addr)(w:World)(hn:n<=1099511627776):Calls prog 88 #[.slice A n c] w fun e w'=>e= .returned (.int .i64 ((n:Int)-1))∧w'=w:=by
 go_enter func88,ntmps88;go_wp2;go_ret;exact⟨rfl,rfl⟩
def bC(l:List Int):Nat:=l.foldr (fun n g=>Nat.gcd g n.natAbs) 0
def JP:bC []=0:=rfl
def CK(n:Int)(l:List Int):bC (n :: l)=Nat.gcd (bC l) n.natAbs:=rfl
def WV(l:List Int)(i:Nat):bC l∣bC (l.drop i):=by
 induction l generalizing i with
 |nil=>simp
 |cons n l a=>
  cases i with
  |zero=>exact Nat.dvd_refl _
  |succ i=>rw[bz6];exact bzF (aqX _ _) (a i)
def CL(h:n∈l):(bC l:Int)∣n:=by
 induction l with
 |nil=>cases h
 |cons m l a=>
  rw[CK];rcases List.mem_cons.1 h with rfl|h
  ·exact Int.ofNat_dvd_left.2 (azU _ _)
  ·exact byF (Int.natCast_dvd_natCast.2 (aqX _ _)) (a h)
def JQ(h:bC l=0):∀n∈l,n=0:=fun n hn=>by
 have:=CL hn;rw[h] at this;exact Int.zero_dvd.1 this
def CM(h:∀n∈l,(d:Int)∣n):d∣bC l:=by
 induction l with
 |nil=>simp[JP]
 |cons m l a=>exact Nat.dvd_gcd (a (fun n hn=>h n (j8 _ hn))) (Int.ofNat_dvd_left.1 (h m (iC ..)))
def az4(h:∀n∈l,nl n.natAbs<=K):nl (bC l)<=K:=by
 induction l with
 |nil=>rw[JP,dO];exact dC _
 |cons m l b=>
  rw[CK];by_cases a:m.natAbs=0
  ·rw[a,bxN];exact b (fun n hn=>h n (j8 _ hn))
  ·exact aH (cK (aqY (bzI a) (azU _ _))) (h m (iC ..))
def WW(h:l[i]? =some n):Nat.gcd (bC (l.drop (i+1))) n.natAbs=bC (l.drop i):=by
 obtain⟨a,e⟩:=List.getElem?_eq_some_iff.1 h;rw[j5 a,e,CK]
def WX(ns:List Int)(v:Value)(w:World)(J:Glob w)(hv:WholeAt w v ns)(K:Nat)(T:∀n∈ns,nl n.natAbs<=K)(U:5*K+4<=aJ)(hl:ns.length<=1099511627776):
  Calls prog 137 #[v] w (dW w (bC ns)):=by
 obtain⟨A,c,rfl,hc⟩:=hv.form;have ai:K<=17592186044416:=by unfold aJ at U;omega
 have R:Bx ((w.alloc (.cells #[.bool false,.slice none 0 0] 67)).alloc (.cells #[.bool false,.slice none 0 0] 67)) (w.1.size) [.bool false,.slice none 0 0] 67:=(Bx.newAt w [.bool false,.slice none 0 0] 67 (w.1.size) (by simp)).alloc (.cells #[.bool false,.slice none 0 0] 67);have C:Bx ((w.alloc (.cells #[.bool false,.slice none 0 0] 67)).alloc (.cells #[.bool false,.slice none 0 0] 67)) (w.1.size+1) [.bool false,.slice none 0 0] 67:=Bx.newAt (w.alloc (.cells #[.bool false,.slice none 0 0] 67)) [.bool false,.slice none 0 0] 67 (w.1.size+1) (by simp);have a:Below w.1.size w ((w.alloc (.cells #[.bool false,.slice none 0 0] 67)).alloc (.cells #[.bool false,.slice none 0 0] 67)):=((aG _ _).alloc (by simp) _).alloc (by simp<;>omega) _;go_enter func137,ntmps137;go_wp2_with fail;generalize (w.alloc (.cells #[.bool false,.slice none 0 0] 67)).alloc (.cells #[.bool false,.slice none 0 0] 67)=W at *;have S:IntBx W (w.1.size+1) 0:=⟨_,_,_,_,C,IntAt.zero _⟩;clear C;go_loopg [4] ns.length (fun k i wr=>i= .int .i64 ((k:Int)-1)∧k<=ns.length∧IntBx wr (w.1.size+1) (bC (ns.drop k))∧Bx wr w.1.size [.bool false,.slice none 0 0] 67∧Below w.1.size w wr)
 case atStart=>exact⟨by go_num,aE,by rw[azY];exact S,R,a⟩
 case round=>
  clear S R a;obtain⟨rfl,an,⟨s,B,l,d,C,f⟩,R,a⟩:=hrel;generalize wr=wy at *;have ad:nl (bC (ns.drop gk))<=K:=az4 (fun n hn=>T n (bxD hn));replace z:=C.cell 0 rfl;replace r:=C.free 0;replace D:=C.cell 1 rfl;replace t:=C.free 1;replace E:=R.cell 0 rfl;replace H:=R.free 0;replace F:=R.cell 1 rfl;replace I:=R.free 1;cases gk with
  |zero=>
   go_wp2_with fail;rw[azZ] at f;obtain⟨Q,p, -,M,o⟩:=jU (s:=s) (u:= .slice B l d) a (by omega) R;have O:=f.ke o;generalize (wy.setCell ⟨w.1.size,0,none⟩ (.bool s)).setCell ⟨w.1.size,1,none⟩ (.slice B l d)=W6 at *;exact aM (v:= .agg #[.bool s,.slice B l d]) (by simp[results,results137,go_sem,Q,p]) rfl ⟨_,rfl,O,M⟩
  |succ k=>
   obtain⟨n,hn⟩:∃n,ns[k]? =some n:=⟨_,aR (by omega)⟩;have V:=WW hn;have ah:=T n (dG hn);have N:((bC (ns.drop (k+1)):Nat):Int)=1->bC ns=1:=fun h=>by
    have g:bC (ns.drop (k+1))=1:=by omega
    have:=WV ns (k+1);rw[g] at this;exact Nat.dvd_one.1 this
   have HN:=aB hn;have ac:=aB V;clear hn V;generalize bC (ns.drop (k+1))=G at *;have al:(0:Int)<=(k:Int):=by omega
   go_wp2_with fail;refine(n6 _ _ _ f (by rw[dD];omega)).mono ?_;rintro e1 P ⟨rfl,e⟩;by_cases g:(G:Int)=1
   ·have m:decide ((G:Int)=1)=true:=by simpa using g
    have HO:=aB (N g);rw[m];clear m N;replace f:=f.be e;replace C:=C.be e;replace z:=C.cell 0 rfl;replace r:=C.free 0;replace D:=C.cell 1 rfl;replace t:=C.free 1;replace R:=R.be e;replace E:=R.cell 0 rfl;replace H:=R.free 0;replace F:=R.cell 1 rfl;replace I:=R.free 1;replace o:=Keep.be e;replace a:=aC a e;go_wp2_with fail;have af:IntAt P (.agg #[.bool s,.slice B l d]) (bC ns:Int):=by rw[HO.out];rw[g] at f;exact f
    clear f;obtain⟨Q,p, -,M,o⟩:=jU (s:=s) (u:= .slice B l d) a (by omega) R;have O:=af.ke o;generalize (P.setCell ⟨w.1.size,0,none⟩ (.bool s)).setCell ⟨w.1.size,1,none⟩ (.slice B l d)=W6 at *;exact aM (v:= .agg #[.bool s,.slice B l d]) (by simp[results,results137,go_sem,Q,p]) rfl ⟨_,rfl,O,M⟩
   ·have m:decide ((G:Int)=1)=false:=by simpa using g
    rw[m];clear m N g;replace f:=f.be e;replace C:=C.be e;replace z:=C.cell 0 rfl;replace r:=C.free 0;replace D:=C.cell 1 rfl;replace t:=C.free 1;replace R:=R.be e;replace E:=R.cell 0 rfl;replace H:=R.free 0;replace F:=R.cell 1 rfl;replace I:=R.free 1;replace o:=Keep.be e;replace a:=aC a e;obtain⟨b,s',B',l',d',rfl,aj,g0,g1,ae⟩:=(hv.be a).at_ HN.out;have ak:=a.size;have Y:=f.drew;have ag:=ae.drew;have y:IntBx P.drew (w.1.size+1) (G:Int):=⟨_,_,_,_,C.drew,Y⟩;have j:=a.drew;have Rd:=R.drew;have X:=fun W v u J g x=>qF (G:Int) n v u W J g x K (by rw[dD];exact ad) ah U;rw[dD,ac.out] at X;have am:(k:Int)<(ns.length:Int):=by omega
    clear r t E F H I R C e;go_wp2_with fail
    go_region_with (first
     |(go_at_call 69;refine(X _ _ _ (J.be j) Y ag).mono ?_;rintro e2 w2 ⟨v2,rfl,x,L⟩;obtain⟨s2,A2,k2,c2,rfl⟩:=x.form;replace y:=y.be L;replace Rd:=Rd.be L;replace j:=aC j L;obtain⟨s9,B9,l9,d9,q, -⟩:=id y;have z:=q.cell 0 rfl;have D:=q.cell 1 rfl;have r:=q.free 0;have t:=q.free 1))
    all_goals (
     go_wp2_with fail;obtain⟨p,Z⟩:=y.stored x;have zR:Bx _ w.1.size [.bool false,.slice none 0 0] 67:=(Z.2.1 w.1.size (by omega)).trans Rd;have zb:=jD j Z (by omega);go_roundg k
     case rel=>exact⟨by go_num,by omega,p,zR,zb⟩
     case measure=>omega)
def jX(ns:List Int)(x:Int):List Int:=ns.map (fun n=>n.tdiv x)
def WY(ns:List Int):jX ns 1=ns:=by
 unfold jX;exact(by3 (fun a _=>Int.tdiv_one a)).trans (List.map_id ns)
def JR(ns:List Int)(x:Int):(jX ns x).length=ns.length:=cH _
def WZ(n x:Int)(K:Nat)(h:nl n.natAbs<=K):nl (n.tdiv x).natAbs<=K:=by
 rw[Int.natAbs_tdiv];exact aH (cK (azK _ _)) h
def X0(h:∀n∈ns,nl n.natAbs<=K):∀n∈jX ns x,nl n.natAbs<=K:=fun n hn=>by
 unfold jX at hn;obtain⟨m,a,rfl⟩:=List.mem_map.1 hn;exact WZ m x K (h m a)
def X4(ns:List Int)(x:Int)(v vx:Value)(w:World)(hv:WholeAt w v ns)(L:IntAt w vx x)(h0:ns≠[]->x≠0)(K:Nat)(hK:∀n∈ns,nl n.natAbs<=K)(av:nl x.natAbs<=K)(al:5*K+4<=aJ)(hl:ns.length<=1099511627776):
  Calls prog 136 #[v,vx] w fun e w'=>∃v',e= .returned v'∧WholeAt w' v' (jX ns x)∧Below w.1.size w w':=by
 unfold aJ at al;obtain⟨A,c,rfl,hc⟩:=hv.form;obtain⟨q,m,p,o,rfl⟩:=L.form;have f:Bx (w.alloc (.cells #[.bool q,.slice m p o] 67)) (w.1.size) [.bool q,.slice m p o] 67:=Bx.newAt w [.bool q,.slice m p o] 67 (w.1.size) (by simp);have a:Below w.1.size w (w.alloc (.cells #[.bool q,.slice m p o] 67)):=(aG _ _).alloc (by simp) _;go_enter func136,ntmps136;go_wp2_with fail;generalize w.alloc (.cells #[.bool q,.slice m p o] 67)=W at *;refine(n6 x _ _ (L.be a) (by omega)).mono ?_;rintro e1 N ⟨rfl,G⟩;replace f:=f.be G;replace ae:=f.cell 0 rfl;replace af:=f.cell 1 rfl;replace I:=Keep.be G;replace a:=aC a G;clear G;by_cases C:x=1
 ·have E:decide (x=1)=true:=by simpa using C
  rw[E];clear E;go_wp2;go_ret;rw[C,WY];exact⟨_,rfl,hv.be a,a⟩
 ·have E:decide (x=1)=false:=by simpa using C
  rw[E];clear E C;have ac:=JR ns x;have D:=aB ac;clear ac;go_wp2_with (at_make;refine jT rfl rfl 67 _ 2 32 underlying64 p6 rfl (by decide) ns.length rfl rfl rfl rfl (by omega) (by omega) ?_;intro w2 ao U t);have O:OwnW w2 N.1.size (List.replicate ns.length 0):=OwnW.made U;have aw:=a.size;have au:w.1.size<N.1.size:=f.lt;replace f:=f.be t;replace a:=aC a t;clear U ao t;generalize hg:N.1.size=g at *;clear hg;go_loopg [16] ns.length (fun k i wr=>∃j,Hid (j+k=ns.length)∧i= .int .i64 j∧OwnW wr g ((jX ns x).take j++List.replicate k 0)∧Bx wr w.1.size [.bool q,.slice m p o] 67∧Below w.1.size w wr)
  case atStart=>exact⟨0,by unfold Hid;omega,rfl,by simpa using O,f,a⟩
  case round=>
   clear O f a;obtain⟨j,u,rfl,R,f,a⟩:=hrel;generalize wr=r at *;have ay:(0:Int)<=(j:Int):=by omega
   cases gk with
   |zero=>
    have hj:j=ns.length:=u.out;subst hj;rw[aq8,fH,cZ (by rw[D.out];exact aE)] at R;have Y:=R.whole ns.length (by rw[D.out];exact aE);rw[D.out] at Y;go_wp2;go_ret;exact⟨_,rfl,Y,a⟩
   |succ k=>
    obtain⟨n,hn⟩:∃n,ns[j]? =some n:=⟨_,aR (by have:=u.out;omega)⟩;obtain⟨b,s,B,l,d,rfl,ax,g0,g1,H⟩:=(hv.be a).at_ hn;have a0:=hK n (dG hn);have an:x≠0:=h0 (fun e=>by rw[e] at hn;simp at hn);have az:(j:Int)<(ns.length:Int):=by have:=u.out;omega
    have Z:(jX ns x)[j]? =some (n.tdiv x):=by unfold jX;rw[iK,hn];rfl
    have P:=rI (ys:=jX ns x) (z:=(0:Int)) (j:=j) (k:=k+1) (by rw[D.out];exact u.out);have Q:=rH (z:=(0:Int)) (k:=k) Z;have S:j<((jX ns x).take j++List.replicate (k+1) 0).length:=by rw[P,D.out];have:=u.out;omega
    have ak:=aB Q;clear Z P Q hn;have M:=L.be a;have J:=fun W C F=>mZ n x (.agg #[.bool s,.slice B l d]) (.agg #[.bool q,.slice m p o]) W C F an (by omega);unfold dW at J;generalize n.tdiv x=y at *;have ag:∀h:Obj,(r.alloc h).cell? ⟨w.1.size,0,none⟩=some (.bool q):=fun h=>(f.alloc h).cell 0 rfl;have ai:∀h:Obj,(r.alloc h).frozen? ⟨w.1.size,0,none⟩=false:=fun h=>(f.alloc h).free 0;have ah:∀h:Obj,(r.alloc h).cell? ⟨w.1.size,1,none⟩=some (.slice m p o):=fun h=>(f.alloc h).cell 1 rfl;have aj:∀h:Obj,(r.alloc h).frozen? ⟨w.1.size,1,none⟩=false:=fun h=>(f.alloc h).free 1;go_wp2_with fail;replace R:=R.alloc (.cells #[.bool s,.slice B l d] 67);have ap:=f.lt;have a1:=a.size;replace f:=f.alloc (.cells #[.bool s,.slice B l d] 67);have X:=Bx.newAt r [.bool s,.slice B l d] 67 (r.1.size) (by simp);replace a:=a.alloc a.size (.cells #[.bool s,.slice B l d] 67);replace I:=Keep.alloc r (.cells #[.bool s,.slice B l d] 67);replace H:=H.ke I;replace M:=M.ke I;generalize r.alloc (.cells #[.bool s,.slice B l d] 67)=W1 at *;replace ae:=f.cell 0 rfl;replace af:=f.cell 1 rfl;replace aq:=X.cell 0 rfl;replace ar:=X.cell 1 rfl;clear ag ah ai aj g0 g1;refine(J _ H M).mono ?_;rintro e2 w2 ⟨v2,rfl,F,t⟩;obtain⟨s2,A2,k2,c2,rfl⟩:=F.form;replace R:=R.be t;replace f:=f.be t;replace a:=aC a t;obtain⟨s',B',l',d',q0,q1, -⟩:=R.at_ (aR S);have f0:=R.free (j*2);have f1:=R.free (j*2+1);clear J;go_wp2_with fail;obtain⟨T,V⟩:=R.stored S F;rw[ak.out] at T;have ad:Bx _ w.1.size [.bool q,.slice m p o] 67:=(V.2.1 w.1.size (by omega)).trans f;have am:=jD a V (by omega);go_roundg k
    case rel=>exact⟨j+1,by have:=u.out;unfold Hid;omega,by go_num,T,ad,am⟩
    case measure=>omega
def aS(ns:List Int):List Int:=jX ns (bC ns)
def dF(ns:List Int):(aS ns).length=ns.length:=JR _ _
def nI(h:aN ns)(c:ns≠[]):(bC ns:Int)≠0:=fun e=>by
 obtain⟨a,b⟩:∃a,ns.getLast?=some a:=⟨_,byP c⟩;exact h a b (JQ (by omega) a (List.mem_of_getLast? b))
def gU(h:∀n∈ns,nl n.natAbs<=K):∀n∈aS ns,nl n.natAbs<=K:=X0 h
def WS(ns:List Int)(x:Int)(i:Nat):cf (jX ns x) i=(cf ns i).tdiv x:=mG (fun n:Int=>n.tdiv x) (Int.zero_tdiv x) ns i
def WT(h:∀n∈ns,x∣n)(i:Nat):x∣cf ns i:=by
 by_cases a:i<ns.length
 ·rw[fZ a];exact h _ (aq0 a)
 ·rw[bV (by omega)];exact Int.dvd_zero x
def lW(ns:List Int)(i:Nat):cf (aS ns) i*(bC ns:Int)=cf ns i:=by
 unfold aS;rw[WS];exact Int.tdiv_mul_cancel (WT (fun n hn=>CL hn) i)
def fT{α:Type}[OfNat α 0]{l:List α}(f:l≠[]):aN l↔cf l (l.length-1)≠0:=by
 obtain⟨a,d⟩:∃a,l.getLast?=some a:=⟨_,byP f⟩;have e:=vJ d;constructor
 ·intro h;rw[e];exact h a d
 ·intro h b c;rw[d] at c;injection c with c;rw[<-c,<-e];exact h
def gV(h:aN ns):aN (aS ns):=by
 by_cases b:ns=[]
 ·rw[b];intro a d;simp[aS,jX] at d
 ·have c:aS ns≠[]:=fun e=>b (bX (by rw[<-dF,e];rfl));rw[fT c,dF];intro e;have:=lW ns (ns.length-1);rw[e,bxB] at this;exact(fT b).1 h this.symm
def qQ(ns:List Int)(v:Value)(w:World)(k:Glob w)(hv:WholeAt w v ns)(m:aN ns)(K:Nat)(a:∀n∈ns,nl n.natAbs<=K)(f:5*K+4<=aJ)(g:ns.length<=1099511627776):
  Calls prog 71 #[v] w fun e w'=>∃h,e= .returned h∧WholeAt w' h (aS ns)∧Below w.1.size w w':=by
 obtain⟨A,c,rfl,s⟩:=hv.form;go_enter func71,ntmps71;go_wp2_with fail;refine(WX ns _ _ k hv K a f g).mono ?_;rintro q z ⟨x,rfl,d,b⟩;obtain⟨u,o,t,p,rfl⟩:=d.form;go_wp2_with fail;refine(X4 ns (bC ns) _ _ _ (hv.be b) d (fun i=>nI m i) K a (by rw[dD];exact az4 a) f g).mono ?_;rintro r B ⟨y,rfl,j,l⟩;go_wp2;go_ret;exact⟨_,rfl,j,aC b l⟩
def bB(ns:List Int):List Int:=(List.range (ns.length-1)).map (fun i:Nat=>cf ns (i+1)*((i:Int)+1))
def lZ(ns:List Int):(bB ns).length=ns.length-1:=by unfold bB;rw[cH,bxZ]
def WU(ns:List Int)(h:i<ns.length-1):(bB ns)[i]? =some (cf ns (i+1)*((i:Int)+1)):=by
 unfold bB;rw[iK,byN h];rfl
def sB(ns:List Int)(i:Nat):cf (bB ns) i=cf ns (i+1)*((i:Int)+1):=by
 unfold bB;rw[qA];split
 ·rfl
 ·rw[bV (by omega),bxB]
def JN(ns:List Int)(v:Value)(w:World)(hv:WholeAt w v ns)(K:Nat)(hK:∀n∈ns,nl n.natAbs<=K)(ac:K+2<=aJ)(hl:ns.length<=1073741824):
  Calls prog 74 #[v] w fun e w'=>∃X,e= .returned X∧WholeAt w' X (bB ns)∧Below w.1.size w w':=by
 unfold aJ at ac;obtain⟨A,c,rfl,hc⟩:=hv.form;go_enter func74,ntmps74;by_cases o:ns.length=0
 ·have V:((ns.length:Int)==0)=true:=by rw[o];rfl
  have O:ns=[]:=bX o;have HN:=aB O;clear O o;go_wp2;go_ret;rw[HN.out];exact⟨_,rfl,WholeAt.nil _ _ _,aG _ _⟩
 ·have V:((ns.length:Int)==0)=false:=by rw[beq_eq_false_iff_ne];omega
  obtain⟨M,hM⟩:∃M,ns.length=M+1:=⟨ns.length-1,by omega⟩;have ag:(ns.length:Int)-1=(M:Int):=by omega
  have U:(bB ns).length=M:=by rw[lZ];omega
  have h:=aB U;clear U o;go_wp2_with (at_make;refine jT rfl rfl 67 _ 2 32 underlying64 p6 rfl (by decide) M rfl rfl (by first|rfl|omega) (by first|rfl|omega) (by omega) (by omega) ?_;intro Y af S m);have D:OwnW Y w.1.size (List.replicate M 0):=OwnW.made S;clear S af;go_loopg [14] M (fun k i wr=>∃j,Hid (j+k=M)∧i= .int .i64 j∧OwnW wr w.1.size ((bB ns).take j++List.replicate k 0)∧Below w.1.size w wr)
  case atStart=>exact⟨0,by unfold Hid;omega,rfl,by simpa using D,m⟩
  case round=>
   clear D m;obtain⟨j,g,rfl,R,r⟩:=hrel;generalize wr=wy at *;have ah:(0:Int)<=(j:Int):=by omega
   cases gk with
   |zero=>
    have hj:j=M:=g.out;subst hj;rw[aq8,fH,cZ (by rw[h.out];exact aE)] at R;have T:=R.whole j (by rw[h.out];exact aE);rw[h.out] at T;go_wp2;go_ret;exact⟨_,rfl,T,r⟩
   |succ k=>
    have am:j<M:=by have:=g.out;omega
    obtain⟨n,hn⟩:∃n,ns[j+1]? =some n:=⟨_,aR (by omega)⟩;obtain⟨b,s,B,l,d,rfl,t,E,F,L⟩:=(hv.be r).at_ hn;have ao:=hK n (dG hn);have G:cf ns (j+1)=n:=rD hn;have ai:(j:Int)<(M:Int):=by omega
    have ak:(j:Int)+1<(ns.length:Int):=by omega
    have al:(0:Int)<=(j:Int)+1:=by omega
    have C:=WU ns (i:=j) (by omega);rw[G] at C;have H:=rI (ys:=bB ns) (z:=(0:Int)) (j:=j) (k:=k+1) (by rw[h.out];exact g.out);have I:=rH (z:=(0:Int)) (k:=k) C;have J:j<((bB ns).take j++List.replicate (k+1) 0).length:=by rw[H,h.out];have:=g.out;omega
    have Z:=aB I;clear C H I hn G;have aj:nl ((j:Int)+1).natAbs<=1:=cJ (by rw[show((j:Int)+1).natAbs=j+1 by omega];unfold BN;omega);have P:=fun W=>lL ((j:Int)+1) W (by omega) (by omega);have N:=fun W v u h1 q=>jB n ((j:Int)+1) v u W h1 q (by omega);unfold dW at N P;generalize n*((j:Int)+1)=y at *;have x:=L.drew;have Rd:=R.drew;have a:=r.drew;have an:((j:Int)+1).toNat=j+1:=by omega
    have ap:IntKind.i64.wrap ((j:Int)+1)=(j:Int)+1:=by rw[IntKind.wrap_i64];omega
    clear L R r;go_wp2_with fail
    go_region_with (first
     |(go_at_call 82;refine(P _).mono ?_;rintro e3 w3 ⟨v3,rfl,h3,f⟩;replace x:=x.be f;replace Rd:=Rd.be f;replace a:=aC a f;(try replace E:=(f.cell (p:=⟨b,(j+1)*2,none⟩) t).trans E);(try replace F:=(f.cell (p:=⟨b,(j+1)*2+1,none⟩) t).trans F);replace t:=aZ t f.size)
     |(go_at_call 107;refine(N _ _ _ x h3).mono ?_;rintro e2 Y ⟨v2,rfl,q,m⟩;obtain⟨s2,A2,k2,c2,rfl⟩:=q.form;replace Rd:=Rd.be m;replace a:=aC a m;obtain⟨s',B',l',d',V,q1, -⟩:=Rd.at_ (aR J);have f0:=Rd.free (j*2);have f1:=Rd.free (j*2+1)))
    all_goals (
     go_wp2_with fail;obtain⟨Q,ae⟩:=Rd.stored J q;rw[Z.out] at Q;have ad:=jD a ae (by omega);go_roundg k
     case rel=>exact⟨j+1,by have:=g.out;unfold Hid;omega,by go_num,Q,ad⟩
     case measure=>omega)
def tV(p:List Rat)(i:Nat):cf (fW p) i=cf p (i+1)*((i+1:Nat):Rat):=by
 unfold fW;rw[qA];split
 ·rfl
 ·rw[bV (l:=p) (by omega),aqQ]
def pL(a:∀n∈ns,nl n.natAbs<=K)(b:ns.length<=1073741824):∀n∈bB ns,nl n.natAbs<=K+1:=fun n hn=>by
 unfold bB at hn;obtain⟨i,hi,rfl⟩:=List.mem_map.1 hn;have:=List.mem_range.1 hi;exact gT _ _ _ _ (iU a _) (cJ (by rw[show((i:Int)+1).natAbs=i+1 by omega];unfold BN;omega))
abbrev R2(w:World)(b o:Nat)(a c:Value):Prop:=w.cell? ⟨b,o,none⟩=some a∧w.cell? ⟨b,o+1,none⟩=some c
def R2.up{a b:World}[u:Up a b]{g o:Nat}{d e:Value}(h:R2 a g o d e)(c:g<a.1.size):R2 b g o d e:=⟨(u.out.cell (p:=⟨g,o,none⟩) c).trans h.1,(u.out.cell (p:=⟨g,o+1,none⟩) c).trans h.2⟩
def xK{a b:Int}(hn:∀n∈ns,n.natAbs<=T)(j:a.natAbs<=T)(k:b.natAbs<=T):(fE ns a b).natAbs<=ns.length*T^ns.length∧(iZ ns a b).natAbs<=T^ns.length:=by
 induction ns with
 |nil=>exact⟨by show(0:Int).natAbs<=_;simp,by show(1:Int).natAbs<=_;simp⟩
 |cons c ns o=>
  obtain⟨i,d⟩:=o (fun n m=>hn n (j8 _ m));have g:fE (c :: ns) a b=fE ns a b*a+c*iZ ns a b:=rfl;have h:iZ (c :: ns) a b=iZ ns a b*b:=rfl;have l:=hn c (iC ..);have e:=aqK i j;have f:=aqK l d;have p:=aqK d k;rw[g,h,eG];constructor
  ·refine aH (bz2 _ _) ?_;rw[fL,fL,aq2,dH];rw[iW] at e;rw[dN T] at f;exact by5 e f
  ·rw[fL,dH];exact p
def xL{t:Nat}(h:t<=65):t*(BN^K)^t<BN^(K*t+1)∧(BN^K)^t<BN^(K*t+1):=by
 rw[<-azL,dH,dN _ BN];have a:0<BN^(K*t):=d7 (by decide);exact⟨bxF (jI h (by decide)) a,by have:=bxF (show 1<BN by decide) a;rwa [aqD] at this⟩
def mS{n:Nat}(h:nl n<=K):n<=BN^K:=iE (aZ (cyD n) (cO (by decide) h))
def CB(ns:List Int)(x:Rat)(v vx:Value)(w:World)(hv:WholeAt w v ns)(F:RatAt w vx x)(K:Nat)(hK:∀n∈ns,nl n.natAbs<=K)(G:RL K x)(hl:ns.length<=65)(bg:140*K+10<=17592186044416):
  Calls prog 75 #[v,vx] w (dW w (fE ns x.num x.den)):=by
 obtain⟨A,c,rfl,hc⟩:=hv.form;obtain⟨s1,A1,k1,c1,s2,H,k2,I,rfl⟩:=F.form;have ai:=fun W h=>UU x (.agg #[.bool s1,.slice A1 k1 c1,.bool s2,.slice H k2 I]) W h;have ag:=fun W h=>tN x (.agg #[.bool s1,.slice A1 k1 c1,.bool s2,.slice H k2 I]) W h (aH G.2 (by omega));unfold dW at ai ag;have ka:=G.1;have kb:nl (x.den:Int).natAbs<=K:=G.2;obtain⟨W,eW,d,X,R,V⟩:=gE w [.bool s1,.slice A1 k1 c1,.bool s2,.slice H k2 I] 71 [.bool false,.slice none 0 0] 67 [.bool false,.slice none 0 0] 67;have q:=aa X.g4 (aa R.g2 V.g2);go_enter func75,ntmps75;go_wp2_with fail;(try rw[eW]);clear eW;replace F:=F.be d;generalize x.num=a at *;generalize (x.den:Int)=b at *;clear G;have bf:=X.lt;go_cut [6,7] (fun s6 s7 p=>∃g6 g7,s6= .pointer (some ⟨g6,0,none⟩)∧s7= .pointer (some ⟨g7,0,none⟩)∧W.1.size<=g6∧W.1.size<=g7∧g6≠g7∧IntBx p g6 (a)∧IntBx p g7 (b)∧Below W.1.size W p)
 case first=>
  go_region_held3 (fun w'=>C4 w' w.1.size (.bool s1) (.slice A1 k1 c1) (.bool s2) (.slice H k2 I))
   (with_reducible exact X.up.k4)
   (first
    |(go_at_call 142;refine(ai _ F.up).mono ?_;rintro e2 w2 ⟨v2,rfl,h2,ac⟩;have l2:=ac.size;(try simp at l2);have:=St.mk ac;obtain⟨s2,H,k2,I,rfl⟩:=h2.form)
    |(go_at_call 108;refine(ag _ F.up).mono ?_;rintro e3 j ⟨v3,rfl,l,ad⟩;have l3:=ad.size;(try simp at l3);have:=St.mk ad;have y:=Up.out (a:=W) (b:=j);have bo:=y.size;have S:=h2.up (b:=j);(try have⟨_,_,_,_,_⟩:=nG W j);(try have⟨_,_,_,_,_⟩:=pH W j);(try have⟨_,_,_,_,_⟩:=nG w2 j);(try have⟨_,_,_,_,_⟩:=pH w2 j);obtain⟨s3,A3,k3,c3,rfl⟩:=l.form))
  all_goals (
   go_wp2;go_meet;refine⟨_,_,rfl,rfl,by omega,by omega,by omega,?_⟩
   first
    |(with_reducible exact tR S l y)
    |(with_reducible exact xF S l y)
    |(with_reducible exact xG S l (zb ‹_›) y (by omega))
    |(with_reducible exact xH (zb ‹_›) S l y (by omega))
    |(with_reducible exact tP (zb ‹_›) (zb ‹_›) S l (by omega) y (by omega) (by omega)))
 case rest=>
  obtain⟨gn,gd,rfl,rfl,a9,a8,bi,e,f,E⟩:=hcut;have a6:w.1.size+1+1<W.1.size:=V.lt;replace R:=R.be E;replace V:=V.be E;replace d:=aC d E;have bc:=e.lt;have a7:=f.lt;clear ai ag F E X q;have q:=aa R.g2 V.g2;go_wp2_with fail;refine(lL 1 _ (by decide) (by decide)).mono ?_;rintro e4 w4 ⟨v4,rfl,U,s⟩;obtain⟨s4,A4,k4,c4,rfl⟩:=U.form;obtain⟨W5,ar,m,P⟩:=bI w4 [.bool s4,.slice A4 k4 c4] 67;have bb:=s.size;replace R:=(R.be s).be m;replace V:=(V.be s).be m;replace e:=(e.be s).be m;replace f:=(f.be s).be m;replace U:=U.be m;replace d:=(aC d s).trans (m.mono (aC d s).size);replace q:=aa R.g2 (aa V.g2 P.g2);go_wp2_with fail;(try rw[ar]);clear ar;generalize w4.1.size=L at *;have n1:gn≠L:=by omega
  have n2:gd≠L:=by omega
  have n3:w.1.size+1+1<gn:=by omega
  have n4:w.1.size+1+1<gd:=by omega
  have n5:w.1.size+1+1<L:=by omega
  clear bb bc a7 a9 a8 a6 s m;go_loopg [9] ns.length (fun k i wr=>∃z:Int,Hid (z=(k:Int)-1)∧i= .int .i64 z∧k<=ns.length∧Bx wr (w.1.size+1) [.bool false,.slice none 0 0] 67∧IntBx wr (w.1.size+1+1) (fE (ns.drop k) a b)∧IntBx wr gn a∧IntBx wr gd b∧IntBx wr L (iZ (ns.drop k) a b)∧Below w.1.size w wr)
  case atStart=>exact⟨(ns.length:Int)-1,rfl,rfl,aE,R,⟨_,_,_,_,V,by rw[azY];exact IntAt.zero _⟩,e,f,⟨_,_,_,_,P,by rw[azY];exact U⟩,d⟩
  case round=>
   clear R V P e f U d q;obtain⟨z,HZ,rfl,g,R,⟨s5,A5,k5,c5,V,C⟩,⟨s6,A6,k6,c6,N,e⟩,⟨s7,A7,k7,c7,D,f⟩,⟨s8,A8,k8,c8,P,r⟩,d⟩:=hrel;generalize wr=p at *;have q:=aa R.g2 (aa V.g2 (aa N.k2 (aa D.k2 P.g2)));cases gk with
   |zero=>
    have hz:z<0:=by have:=HZ.out;omega
    have bn:¬0<=z:=by omega
    rw[azZ] at C;clear r HZ;go_wp2_with fail;have ao:=R.lt;have ap:=V.lt;have am:=N.lt;have al:=D.lt;have an:=P.lt;have a0:=d.size;obtain⟨W6,J,R,d,g,o⟩:=R.put2 d (by omega) (.bool s5) (.slice A5 k5 c5) rfl rfl;replace V:=o V (by omega);replace N:=o N (by omega);replace D:=o D (by omega);replace P:=o P (by omega);replace C:=C.ke g;rw[J];clear J;replace q:=aa R.k2 (aa V.k2 (aa N.k2 (aa D.k2 P.k2)));exact aM (v:= .agg #[.bool s5,.slice A5 k5 c5]) (by simp[results,results75,go_sem,R.k2]) rfl ⟨_,rfl,C,d⟩
   |succ k=>
    obtain rfl:z=(k:Int):=by have:=HZ.out;omega
    obtain⟨n,hn⟩:∃n,ns[k]? =some n:=⟨_,aR (by omega)⟩;obtain⟨B,s9,A9,k9,c9,rfl,aw,g0,g1,hi⟩:=(hv.be d).at_ hn;have bk:(k:Int)<(ns.length:Int):=by omega
    have bj:(0:Int)<=(k:Int):=by omega
    obtain⟨a2,a3⟩:=WP a b hn;have ae:=xK (ns:=ns.drop (k+1)) (a:=a) (b:=b) (T:=BN^K) (fun n h=>mS (hK n (bxD h))) (mS ka) (mS kb);have bm:=hK n (dG hn);obtain⟨t,ht⟩:∃t,(ns.drop (k+1)).length=t:=⟨_,rfl⟩;have a1:t<=65:=by rw[<-ht,eP];omega
    rw[ht] at ae;obtain⟨a4,a5⟩:=xL (K:=K) a1;have ba:K*t<=65*K:=by rw[dN];exact dK _ a1
    have HV:Hid (0+fE (ns.drop (k+1)) a b*a+n*iZ (ns.drop (k+1)) a b=fE (ns.drop k) a b):=by unfold Hid;rw[a2,bxA]
    have HP:=aB a3;obtain⟨Y',hY⟩:∃Y',fE (ns.drop k) a b=Y':=⟨_,rfl⟩;rw[hY] at HV;have HY:=aB hY;clear a2 a3 ht hn hY;generalize fE (ns.drop (k+1)) a b=Y at *;generalize iZ (ns.drop (k+1)) a b=Q at *;have lY:nl Y.natAbs<=K*t+1:=cJ (jI ae.1 a4);have lQ:nl Q.natAbs<=K*t+1:=cJ (jI ae.2 a5);have m1:Y.natAbs*a.natAbs<BN^(K*t+1+K):=by
     have O:=cyD (Y.natAbs*a.natAbs);exact aZ O (cO (by decide) (aH (fI _ _) (by5 lY ka)))
    have m2:n.natAbs*Q.natAbs<BN^(K*t+1+K):=by
     have O:=cyD (n.natAbs*Q.natAbs);exact aZ O (cO (by decide) (aH (fI _ _) (by omega)))
    have m3:BN^(K*t+1+K)*BN<=BN^(67*K+3):=by rw[<-dH];exact cO (by decide) (by omega)
    have m4:2*BN^(K*t+1+K)<=BN^(K*t+1+K)*BN:=by rw[dN];exact eV _ (by decide)
    obtain⟨ws,es,ax, -⟩:=bI p [.slice none 0 0,.slice none 0 0] 196;have af:=(SumAt.new p (67*K+3)).now;have ay:p.alloc (.cells #[.slice none 0 0,.slice none 0 0] 196)=ws:=es;rw[ay] at af;have:=St.mk ax;have az:=vP p.1.size ws.1.size (67*K+3) 0 0 Y a s5 A5 k5 c5 s6 A6 k6 c6 ws af C.up e.up C.blk e.blk (by omega) (by unfold aJ;omega) (by omega);have aj:=fun W Z h O h2=>vP p.1.size Z (67*K+3) (0+Y.natAbs*a.natAbs) (0+Y*a) n Q s9 A9 k9 c9 s8 A8 k8 c8 W h O h2 hi.blk r.blk (by omega) (by unfold aJ;omega) (by omega);have ak:=fun W Z M h=>AB p.1.size Z (67*K+3) M Y' W h (by unfold aJ;omega);have ah:=fun W v u h h'=>jB Q b v u W h h' (by omega);rw[HV.out] at aj;unfold dW at ak ah;have gr:R2 p B (k*2) (.bool s9) (.slice A9 k9 c9):=⟨g0,g1⟩;clear af ae a4 a5 m1 m2 m3 m4 lY lQ ba ay g0 g1;have cX:=aa (V.up (b:=ws)).k2 (N.up (b:=ws)).k2;go_wp2_with fail;(try rw[es]);clear es;refine az.mono ?_;rintro e1 w1 ⟨rfl,au,E, -⟩;have:=St.mk (ax.trans E);have bh:=aw;clear az;go_wp2_with fail
    go_region_held3 (fun w'=>R2 w' B (k*2) (.bool s9) (.slice A9 k9 c9)∧C2 w' L (.bool s8) (.slice A8 k8 c8)) (with_reducible exact⟨gr.up aw,P.up.k2⟩)
     (first
      |(go_at_call 143;refine(aj _ _ (au.be Up.out) hi.up r.up).mono ?_;rintro e2 w2 ⟨rfl,av,ac, -⟩;have:=St.mk ((Up.out (a:=p)).trans ac)))
    all_goals (
     clear aj au cX;go_wp2_with fail;refine(ak _ _ _ av).mono ?_;rintro e3 j ⟨v3,rfl,l,ad⟩;obtain⟨s3,A3,k3,c3,rfl⟩:=l.form;have:=St.mk ad;replace R:=R.up (b:=j);replace V:=V.up (b:=j);replace N:=N.up (b:=j);replace D:=D.up (b:=j);replace P:=P.up (b:=j);replace e:=e.up (b:=j);replace f:=f.up (b:=j);replace r:=r.up (b:=j);replace d:=bJ (b:=j) d;replace q:=aa R.g2 (aa V.g2 (aa N.k2 (aa D.k2 P.g2)));clear ak av;go_wp2_with fail;have ao:=R.lt;have ap:=V.lt;have am:=N.lt;have al:=D.lt;have an:=P.lt;have a0:=d.size;obtain⟨W4,aq,V,d,g,o⟩:=V.put2 d (by omega) (.bool s3) (.slice A3 k3 c3) rfl rfl;replace R:=o R (by omega);replace N:=o N (by omega);replace D:=o D (by omega);replace P:=o P (by omega);replace l:=l.ke g;replace e:=e.ke g;replace f:=f.ke g;replace r:=r.ke g;rw[aq];clear aq;replace q:=aa R.g2 (aa V.g2 (aa N.k2 (aa D.k2 P.g2)));refine(ah _ _ _ r f).mono ?_;rintro e5 w5 ⟨v5,rfl,h5,m⟩;obtain⟨sx,Ax,G,cx,rfl⟩:=h5.form;replace R:=R.be m;replace V:=V.be m;replace N:=N.be m;replace D:=D.be m;replace P:=P.be m;replace q:=aa R.g2 (aa V.g2 (aa N.k2 (aa D.k2 P.g2)));replace g:=Keep.be m;replace l:=l.ke g;replace e:=e.ke g;replace f:=f.ke g;replace d:=aC d m;clear ah;go_wp2_with fail;have ao:=R.lt;have ap:=V.lt;have am:=N.lt;have al:=D.lt;have an:=P.lt;have a0:=d.size;obtain⟨W6,J,P,d,g,o⟩:=P.put2 d (by omega) (.bool sx) (.slice Ax G cx) rfl rfl;replace R:=o R (by omega);replace V:=o V (by omega);replace N:=o N (by omega);replace D:=o D (by omega);replace h5:=h5.ke g;replace l:=l.ke g;replace e:=e.ke g;replace f:=f.ke g;rw[J];clear J;replace q:=aa R.k2 (aa V.k2 (aa N.k2 (aa D.k2 P.k2)));go_roundg k
     case rel=>exact⟨(k:Int)-1,rfl,by first|rfl|go_num,by omega,R,⟨_,_,_,_,V,by rw[HY.out];exact l⟩,⟨_,_,_,_,N,e⟩,⟨_,_,_,_,D,f⟩,⟨_,_,_,_,P,by rw[HP.out];exact h5⟩,d⟩
     case measure=>omega)
def CY(a:List Rat)(k i:Nat):cf (a++List.replicate k 0) i=cf a i:=by
 by_cases h:i<a.length
 ·rw[fZ (l:=a) h,rD (a:=a[i])];rw[gA h,aR h]
 ·rw[bV (l:=a) (by omega)];by_cases b:i<a.length+k
  ·refine rD ?_;rw[fK (by omega),j6,if_pos (by omega)]
  ·exact bV (by rw[bE,dB];omega)
end Go.Proofs.YtpjpfjephpgcbaaGreatDoor
namespace Go.Proofs.YtpjpfjephpgcbaaGreatDoor
open Sos
variable{A B Q R a b l ys:List Rat}{K L i n:Nat}{c f x:Rat}
def gN(l:List Rat)(g:Nat->Rat)(i k:Nat):List Rat:=(List.range l.length).map (fun j=>if i<=j∧j<i+k then g j else cf l j)
def oR(e:a.length=b.length)(h:∀j,cf a j=cf b j):a=b:=bzO e (fun j c d=>by have:=h j;rwa [fZ c,fZ d] at this)
def CV(h:i<l.length)(j:Nat):cf (l.set i x) j=if j=i then x else cf l j:=by
 by_cases e:j=i
 ·subst e;rw[if_pos rfl];exact rD (by rw[gP h])
 ·rw[if_neg e];unfold cf;rw[eE,eE,lI (fun h=>e h.symm)]
section
variable {l:List Rat}{g:Nat->Rat}{i k:Nat}
def o8:(gN l g i k).length=l.length:=by unfold gN;rw[cH,bxZ]
def sC(j:Nat):cf (gN l g i k) j=if i<=j∧j<i+k∧j<l.length then g j else cf l j:=by
 unfold gN;rw[qA];by_cases h:j<l.length
 ·rw[if_pos h];by_cases a:i<=j∧j<i+k
  ·rw[if_pos a,if_pos ⟨a.1,a.2,h⟩]
  ·rw[if_neg a,if_neg (fun b=>a ⟨b.1,b.2.1⟩)]
 ·rw[if_neg h,if_neg (fun b=>h b.2.2),bV (by omega)]
def JV:gN l g i 0=l:=oR o8 (fun j=>by rw[sC,if_neg (by omega)])
def XO(h:i+k<l.length):(gN l g i k)[i+k]? =some (cf l (i+k)):=by
 have a:i+k<(gN l g i k).length:=by rw[o8];exact h
 rw[aR a,<-fZ a,sC,if_neg (by omega)]
def XP(h:i+k<l.length):(gN l g i k).set (i+k) (g (i+k))=gN l g i (k+1):=
 oR (by rw[eM,o8,o8]) (fun j=>by
  rw[CV (by rw[o8];exact h),sC,sC];by_cases e:j=i+k
  ·rw[if_pos e,if_pos (by omega),e]
  ·rw[if_neg e];by_cases a:i<=j∧j<i+k∧j<l.length
   ·rw[if_pos a,if_pos (by omega)]
   ·rw[if_neg a,if_neg (by omega)])
def JW(d:∀q∈l,RL K q)(c:∀j,RL K (g j))(b:1<=K):∀q∈gN l g i k,RL K q:=fun q a=>by
 unfold gN at a;obtain⟨j,_,rfl⟩:=List.mem_map.1 a;split
 ·exact c j
 ·exact lV d (iG b) j
end
def CW(h:∀q∈l,RL K q)(a:K<=L):∀q∈l,RL L q:=fun q b=>bU (h q b) a
def JX(n:Nat):∀q∈List.replicate n (0:Rat),RL 1 q:=fun q a=>by rw[(List.mem_replicate.1 a).2];exact iG (mC 1)
def XQ(h:∀q∈a,RL K q)(c:1<=K)(n:Nat):∀q∈a++List.replicate n 0,RL K q:=fun q b=>by
 rcases List.mem_append.1 b with b|b
 ·exact h q b
 ·exact bU (JX n q b) c
def oA(a:List Rat)(c:Rat)(b:List Rat):List Rat:=(List.range (max a.length b.length)).map (fun i=>cf a i+c*cf b i)
def xW(a:List Rat)(c:Rat)(b:List Rat)(i:Nat):cf (oA a c b) i=cf a i+c*cf b i:=by
 unfold oA;rw[qA];split
 ·rfl
 ·rw[bV (l:=a) (by omega),bV (l:=b) (by omega),gX,bx3]
def XR(a:List Rat)(c:Rat)(b:List Rat):aW aV (gN (a++List.replicate (max a.length b.length-a.length) 0) (fun j=>cf a j+c*cf b j) 0 b.length)=aW aV (oA a c b):=
 oZ (jS _) (jS _) (fun j=>by
  rw[iS,iS,xW,sC,CY,bE,dB];split
  ·rfl
  ·rename_i h;by_cases d:j<b.length
   ·exact absurd ⟨dC _,by omega,by omega⟩ h
   ·rw[bV (l:=b) (by omega),gX,bx3])
def XS(e:∀q∈a,RL K q)(f:∀q∈b,RL K q)(h:RL L c)(d:1<=K)(j:Nat):RL (2*K+L+1) (cf a j+c*cf b j):=
 bU (CI (lV e (iG d) j) (o6 h (lV f (iG d) j))) (by omega)
structure DivQ(A B Q R:List Rat):Prop where
 id_:∀i,conv (cf Q) (cf B) i+cf R i=cf A i
 q_trim:aN Q
 r_trim:aN R
 r_lt:R.length<B.length
structure DivJ(A B Q R:List Rat)(i:Nat):Prop where
 id_:∀j,conv (cf Q) (cf B) j+cf R j=cf A j
 q0:∀j,j<i->cf Q j=0
 r0:∀j,i+B.length<=j+1->cf R j=0
def DivJ.start(A B:List Rat)(h:B.length<=A.length):DivJ A B (List.replicate (A.length-B.length+1) 0) A (A.length-B.length+1):=
 have a:∀j,cf (List.replicate (A.length-B.length+1) (0:Rat)) j=0:=fun j=>by
  have:=CY [] (A.length-B.length+1) j;rw[iM,eR] at this;exact this
 ⟨fun j=>by rw[lK a,bxT],fun j _=>a j,fun j b=>bV (by omega)⟩
def DivJ.step(h:DivJ A B Q R (i+1))(m:cf B (B.length-1)≠0)(hn:1<=B.length)(c:i<Q.length)(p:i+B.length<=R.length)(n:f=cf R (i+B.length-1)/cf B (B.length-1)):
  DivJ A B (Q.set i f) (gN R (fun j=>cf R j-f*cf B (j-i)) i B.length) i:=by
 have d:∀j,cf (gN R (fun j=>cf R j-f*cf B (j-i)) i B.length) j=cf R j-(if i<=j then f*cf B (j-i) else 0):=fun j=>by
  rw[sC];by_cases a:i<=j∧j<i+B.length∧j<R.length
  ·rw[if_pos a,if_pos a.1]
  ·rw[if_neg a];by_cases b:i<=j
   ·rw[if_pos b,bV (l:=B) (by omega)];grind
   ·rw[if_neg b];grind
 refine⟨fun j=> ?_,fun j o=> ?_,fun j o=> ?_⟩
 ·have e:conv (cf (Q.set i f)) (cf B) j=conv (cf Q) (cf B) j+conv (fun k=>if k=i then f else 0) (cf B) j:=by
   rw[<-qD];refine gL (fun k=> ?_) (fun _=>rfl) j;rw[CV c];by_cases e:k=i
   ·rw[if_pos e,if_pos e,h.q0 k (by omega),bxT]
   ·rw[if_neg e,if_neg e,bx3]
  rw[e,qE,d,<-h.id_ j];grind
 ·rw[CV c,if_neg (by omega)];exact h.q0 j (by omega)
 ·rw[d,if_pos (by omega)];by_cases e:j=i+B.length-1
  ·subst e;rw[show i+B.length-1-i=B.length-1 by omega,n,gW m];grind
  ·rw[h.r0 j (by omega),bV (l:=B) (by omega)];grind
def XT(h:∀j,n<=j->cf l j=0):(aW aV l).length<=n:=by
 rcases dE n (aW aV l).length with a|a
 ·exfalso;have d:aW aV l≠[]:=by intro e;rw[e] at a;simp at a
  have b:=byP d;have c:=vJ b;rw[iS,h _ (by omega)] at c;exact jS l _ b c.symm
 ·exact a
def DivJ.done(h:DivJ A B Q R 0)(hn:1<=B.length):DivQ A B (aW aV Q) (aW aV R):=
 ⟨fun j=>by rw[gL (iS Q) (fun _=>rfl) j,iS];exact h.id_ j,jS _,jS _,by
  have:=XT (l:=R) (n:=B.length-1) (fun j a=>h.r0 j (by omega));omega⟩
def DivQ.short(h:A.length<B.length):DivQ A B [] (aW aV A):=
 ⟨fun j=>by rw[lK (fun k=>eR k),iS,bxT],fun a b=>by simp at b,jS _,jI (oY _ _) h⟩
def XU{d:Nat->Rat}(f:cf ys (ys.length-1)≠0)(hn:1<=ys.length)(b:∀i,L<=i->d i=0)(h:∀i,ys.length<=i+1->conv d (cf ys) i=0):∀i,d i=0:=by
 induction L with
 |zero=>exact fun i=>b i (dC _)
 |succ L s=>
  refine s (fun i t=> ?_);by_cases o:L+1<=i
  ·exact b i o
  ·have e:i=L:=by omega
   subst e;have c:=p5 (p:=d) (q:=cf ys) (m:=i) (n:=ys.length-1) (fun j r=>b j (by omega)) (fun j r=>bV (by omega));rw[h _ (by omega)] at c;rcases Rat.mul_eq_zero.1 c.symm with a|a
   ·exact a
   ·exact absurd a f
def DivQ.unique{Q':List Rat}(h:DivQ A B Q R)(a:DivQ A B Q' b)(f:cf B (B.length-1)≠0)(hn:1<=B.length):Q=Q'∧R=b:=by
 have c:∀i,conv (fun k=>cf Q k+(-1)*cf Q' k) (cf B) i=cf b i-cf R i:=fun i=>by
  rw[qD,kT];have m:=h.id_ i;have n:=a.id_ i;grind
 have e:=XU (d:=fun k=>cf Q k+(-1)*cf Q' k) (L:=Q.length+Q'.length) f hn (fun i j=>by show cf Q i+(-1)*cf Q' i=0;rw[bV (by omega),bV (by omega)];grind) (fun i j=>by rw[c,bV (by have:=a.r_lt;omega),bV (by have:=h.r_lt;omega)];grind);refine⟨oZ h.q_trim a.q_trim (fun i=> ?_),oZ h.r_trim a.r_trim (fun i=> ?_)⟩
 ·have:=e i;grind
 ·have:=c i;rw[lK e] at this;grind
def kM(K:Nat):Nat->Nat
 |0=>K
 |n+1=>2*kM K n+2*K+1
def JY(K n:Nat):kM K n+(2*K+1)=2^n*(3*K+1):=by
 induction n with
 |zero=>simp[kM];omega
 |succ n a=>
  rw[kM,dH,dN (2^n) 2,iW,<-a];omega
def uF(K:Nat){m:Nat}(h:m<=n):kM K m<=kM K n:=by
 induction h with
 |refl=>exact aE
 |step _ a=>rw[kM];omega
def CX(K n:Nat):K<=kM K n:=uF K (dC n)
end Go.Proofs.YtpjpfjephpgcbaaGreatDoor
namespace Go.Proofs.YtpjpfjephpgcbaaGreatDoor
open Go.RowKit Sos Tryz
variable{B K a b c d:Nat}
def PQRes.mono{xs ys q r:List Int}{m:Int}(h:PQRes xs ys b m q r)(a:b<=c):PQRes xs ys c m q r:=
 ⟨h.id_,h.m0,h.r_lt,h.q_trim,h.r_trim,h.q_len,h.pow,fun n hn=>aH (h.bq n hn) a,fun n hn=>aH (h.br n hn) a,aH h.bm a⟩
inductive Euc(B:Nat):List Int->List Int->List Int->Prop
 |done (a:List Int):Euc B a [] a
 |one {a b:List Int} (hb:b.length=1):Euc B a b [1]
 |step {a b q r g:List Int} {m:Int} (hb:1<b.length) (h:PQRes a b B m q r) (t:Euc B b (aS r) g):Euc B a b g
def pO(B:Nat)(xs ys g:List Int):Prop:=if xs.length<ys.length then Euc B (aS ys) (aS xs) g else Euc B (aS xs) (aS ys) g
def WholeAt.single{w:World}{s:Bool}{A:Option Addr}{k:Nat}{n:Int}(h:IntAt w (.agg #[.bool s,.slice A k c]) n):WholeAt (w.alloc (.cells #[.bool s,.slice A k c] 67)) (.slice (some ⟨w.1.size,0,none⟩) 1 1) [n]:=by
 have B:=Bx.new w [.bool s,.slice A k c] 67;have:OwnW (w.alloc (.cells #[.bool s,.slice A k c] 67)) w.1.size [n]:=by
  refine⟨[[.bool s,.slice A k c]],⟨B,fun r b=> ?_⟩,aE,fun i m a=> ?_⟩
  ·rw[List.mem_singleton.1 b];rfl
  ·cases i with
   |zero=>injection a with a;subst a;exact⟨s,A,k,c,rfl,h.ke (Keep.alloc _ _)⟩
   |succ i=>simp at a
 exact this.whole 1 aE
def JZ(h:1<=d):d+2<=3^d:=by
 induction d with
 |zero=>omega
 |succ d b=>
  rw[dH];by_cases a:d=0
  ·subst a;decide
  ·have:=b (by omega);omega
def cx2(h:(K+1)*(b-a+2)*3^a<=B)(k:c<a)(j:a<=b):(K+(b+1-a)*(K+1)+1)*(a-c+2)*3^c<=B:=by
 have e:K+(b+1-a)*(K+1)+1=(K+1)*(b-a+2):=by
  rw[show b+1-a=b-a+1 by omega,aqA (b-a) 1 (K+1),iL (K+1) (b-a) 2,dN (b-a) (K+1)];omega
 have f:a=(a-c)+c:=by omega
 have g:=JZ (d:=a-c) (by omega);have i:(K+1)*(b-a+2)*3^a=(K+1)*(b-a+2)*3^(a-c)*3^c:=by
  conv=>lhs;rw[f,KF]
  rw[show(a-c+c)=a by omega,iW];simp only[iW]
 rw[i] at h;rw[e];exact aH (dK _ (eV _ g)) h
def xX(h:(K+1)*(b-a+2)*3^a<=B)(d:a<=b):K+(b+1-a)*(K+1)+1<=B:=by
 have c:K+(b+1-a)*(K+1)+1=(K+1)*(b-a+2):=by
  rw[show b+1-a=b-a+1 by omega,aqA (b-a) 1 (K+1),iL (K+1) (b-a) 2,dN (b-a) (K+1)];omega
 rw[c];exact aH (by7 _ (d7 (by decide))) h
def cx3(xs ys:List Int)(vx vy:Value)(w:World)(y:Glob w)(hx:WholeAt w vx xs)(hy:WholeAt w vy ys)(tx:aN xs)(ty:aN ys)(u K B:Nat)(ay:∀n∈xs,nl n.natAbs<=u)(az:∀n∈ys,nl n.natAbs<=u)(ba:5*u+8<=aJ)(J:∀n∈aS xs,nl n.natAbs<=K)(L:∀n∈aS ys,nl n.natAbs<=K)(aw:1<=K)
  (F:xs.length<ys.length->(K+1)*(ys.length-xs.length+2)*3^xs.length<=B)(G:¬xs.length<ys.length->(K+1)*(xs.length-ys.length+2)*3^ys.length<=B)(a9:5*B+8<=aJ)(a5:xs.length<=1073741824)(a6:ys.length<=1073741824):
  Calls prog 73 #[vx,vy] w fun e w'=>∃v' g,e= .returned v'∧WholeAt w' v' g∧pO B xs ys g∧Below w.1.size w w':=by
 obtain⟨A,c,rfl,hc⟩:=hx.form;obtain⟨O,V,rfl,bc⟩:=hy.form;have lX:=dF xs;have lY:=dF ys;have pX:=qQ xs _ w y hx tx u ay (by omega) (by omega);have pY:=fun W d=>qQ ys _ W (y.be d) (hy.be d) ty u az (by omega) (by omega);have M:=gV tx;have N:=gV ty;have ad:xs.length<ys.length->∀g,Euc B (aS ys) (aS xs) g->pO B xs ys g:=fun h g k=>by unfold pO;rw[if_pos h];exact k
 have ae:¬xs.length<ys.length->∀g,Euc B (aS xs) (aS ys) g->pO B xs ys g:=fun h g k=>by unfold pO;rw[if_neg h];exact k
 generalize pO B xs ys=T at *;generalize aS xs=X at *;generalize aS ys=Y at *;rw[<-lX] at a5;rw[<-lY] at a6;rw[<-lX,<-lY] at F G;have s:Hid (xs.length<ys.length↔X.length<Y.length):=by unfold Hid;omega
 clear lX lY;go_enter func73,ntmps73;go_wp2_with fail;refine pX.mono ?_;rintro e1 w1 ⟨v1,rfl,i,d⟩;obtain⟨A1,c1,rfl,bf⟩:=i.form;go_wp2_with fail;refine(pY _ d).mono ?_;rintro e2 w2 ⟨v2,rfl,x,ag⟩;obtain⟨A2,c2,rfl,bg⟩:=x.form;replace i:=i.be ag;replace d:=aC d ag;clear pX pY ag hx hy;by_cases o:xs.length<ys.length
 focus (
  have af:=aB (ad o);have ac:=F (s.out.1 o);have a4:X.length<Y.length:=s.out.1 o;have a3:(X.length:Int)<(Y.length:Int):=by omega
  clear ad ae F G s o;have ah:=x;have ai:=i;have aj:=L;have ak:=J;have al:=N;have am:=M;clear i x J L M N;go_wp2_with fail;generalize Y=XX at *;generalize X=U at *
 )
 rotate_left
 focus (
  have af:=aB (ae o);have ac:=G (fun h=>o (s.out.2 h));have a4:¬X.length<Y.length:=fun h=>o (s.out.2 h);have a3:¬(X.length:Int)<(Y.length:Int):=by omega
  clear ad ae F G s o;have ah:=i;have ai:=x;have aj:=J;have ak:=L;have al:=M;have am:=N;clear i x J L M N;go_wp2_with fail;generalize X=XX at *;generalize Y=U at *
 )
 all_goals (
  go_loopg [5,6] U.length (fun k va vb wr=>∃a b A c O V f,Hid (b.length=k)∧va= .slice A a.length c∧vb= .slice O b.length V∧WholeAt wr (.slice A a.length c) a∧WholeAt wr (.slice O b.length V) b∧Hid (aN a)∧Hid (aN b)∧Hid (∀g,Euc B a b g->T g)∧
   (∀n∈a,nl n.natAbs<=f)∧(∀n∈b,nl n.natAbs<=f)∧1<=f∧b.length<=a.length∧a.length<=1073741824∧Hid ((f+1)*(a.length-b.length+2)*3^b.length<=B)∧Below w.1.size w wr)
  case atStart=>exact⟨XX,U,_,_,_,_,K,rfl,rfl,rfl,ah,ai,al,am,af,aj,ak,aw,by omega,by omega,ac,d⟩
  case round=>
   clear ah ai d ac al am aj ak af;obtain⟨a,b,Aa,ca,Ab,cb,f,HL,rfl,rfl,ha,l,av,ao,R,ka,kb,ap,aq,a2,HP,d⟩:=hrel;generalize wr=wy at *;have bb:=xX HP.out aq;by_cases v:b.length=0
   ·have q0:¬(0:Int)<(b.length:Int):=by omega
    have z:b=[]:=bX v;have j:=R.out a (by rw[z];exact Euc.done a);have E:=aB j;clear z v j;go_wp2;go_ret
    first|exact⟨_,a,rfl,ha,E.out,d⟩|exact⟨_,rfl,a,ha,E.out,d⟩
   ·have q0:(0:Int)<(b.length:Int):=by omega
    by_cases i:b.length=1
    ·have q1:((b.length:Int)==1)=true:=by simp;omega
     have j:=R.out [1] (Euc.one i);have E:=aB j;clear v i j;go_wp2_with fail;refine(lL 1 _ (by decide) (by decide)).mono ?_;rintro e3 D ⟨v3,rfl,h3,C⟩;obtain⟨s3,Q,k3,Z,rfl⟩:=h3.form;go_wp2;go_ret;exact⟨_,[1],rfl,WholeAt.single h3,E.out,(aC d C).alloc (aH d.size C.size) _⟩
    ·have q1:((b.length:Int)==1)=false:=by simp;omega
     have z:b≠[]:=fun e=>v (by rw[e];rfl);have a0:1<b.length:=by omega
     have pq:=BU a b _ _ wy ha l z av.out ao.out f _ ka kb ap aE (by omega) a2 (by omega);unfold wZ at pq;go_wp2_with fail;refine pq.mono ?_;rintro e3 D ⟨vq,vr,vm,q,r,m,rfl,hq,I,hm,p,C⟩;obtain⟨Aq,cq,rfl, -⟩:=hq.form;obtain⟨Ar,cr,rfl,bi⟩:=I.form;obtain⟨s3,Q,k3,Z,rfl⟩:=hm.form;have a8:=p.r_lt;have a7:=fun W y h=>qQ r (.slice Ar r.length cr) W y h p.r_trim _ p.br (by omega) (by omega);have ht:=gV p.r_trim;have hk:=gU p.br;have a1:∀n∈b,nl n.natAbs<=f+(a.length+1-b.length)*(f+1):=fun n hn=>aH (kb n hn) (byR _ _);have hl:=dF r;have au:(f+(a.length+1-b.length)*(f+1)+1)*(b.length-(aS r).length+2)*3^(aS r).length<=B:=by rw[hl];exact cx2 HP.out a8 aq
     have j:∀g,Euc B b (aS r) g->T g:=fun g t=>R.out g (Euc.step a0 (p.mono (by omega)) t);have S:=aB (And.intro au (And.intro j ht));have ax:1<=f+(a.length+1-b.length)*(f+1):=aH ap (byR _ _);have an:=aB hl;clear hl p au j ht pq v i z;generalize aS r=P at *;generalize f+(a.length+1-b.length)*(f+1)=KK at *;replace l:=l.be C;replace d:=aC d C;go_wp2_with fail;have H:Below D.1.size D (D.alloc (.cells #[.bool s3,.slice Q k3 Z] 67)):=(aG _ _).alloc aE _;replace l:=l.be H;replace I:=I.be H;replace d:=aC d H;clear H;generalize D.alloc (.cells #[.bool s3,.slice Q k3 Z] 67)=w4 at *;refine(a7 _ (y.be d) I).mono ?_;rintro e5 w5 ⟨v5,rfl,h5,ar⟩;obtain⟨A5,c5,rfl,bh⟩:=h5.form;replace l:=l.be ar;replace d:=aC d ar;go_wp2;go_roundg P.length
     case rel=>exact⟨b,P,Ab,cb,A5,c5,KK,rfl,rfl,rfl,l,h5,ao,S.out.2.2,S.out.2.1,a1,hk,ax,by have:=an.out;omega,by omega,S.out.1,d⟩
     case measure=>have:=HL.out;have:=an.out;omega
 )
def XV(xs ys:List Int)(a b:Value)(w:World)(l:Glob w)(q:WholeAt w a xs)(r:WholeAt w b ys)(s:aN xs)(t:aN ys)(K B:Nat)(f:∀n∈xs,nl n.natAbs<=K)(i:∀n∈ys,nl n.natAbs<=K)(m:1<=K)
  (c:xs.length<ys.length->(K+1)*(ys.length-xs.length+2)*3^xs.length<=B)(d:¬xs.length<ys.length->(K+1)*(xs.length-ys.length+2)*3^ys.length<=B)(k:5*B+8<=aJ)(o:xs.length<=1073741824)(p:ys.length<=1073741824):
  Calls prog 73 #[a,b] w fun e w'=>∃j g,e= .returned j∧WholeAt w' j g∧pO B xs ys g∧Below w.1.size w w':=by
 have u:K<=B:=by
  by_cases h:xs.length<ys.length
  ·have:=xX (c h) (by omega);omega
  ·have:=xX (d h) (by omega);omega
 exact cx3 xs ys a b w l q r s t K K B f i (by omega) (gU f) (gU i) m c d k o p
end Go.Proofs.YtpjpfjephpgcbaaGreatDoor
namespace Go.Proofs.YtpjpfjephpgcbaaGreatDoor
open Sos
variable{D m n:Int}{a b e g l r:List Int}{A Q R p:List Rat}{B K v:Nat}
def Prp(A:List Rat)(a:List Int):Prop:=A.length=a.length∧aN a∧∃c:Rat,c≠0∧∀i,cf A i=c*cf a i
def gJ(h:n≠0):(n:Rat)≠0:=fun e=>h (Rat.intCast_inj.1 e)
def qS(c:Rat)(l:List Int)(i:Nat):cf (l.map (fun n:Int=>c*(n:Rat))) i=c*cf l i:=mG (fun n:Int=>c*(n:Rat)) (by show c*((0:Int):Rat)=0;rw[aq4,gX]) l i
def jY{c:Rat}(a:c≠0)(h:aN l):Prp (l.map (fun n:Int=>c*(n:Rat))) l:=⟨cH _,h,c,a,qS c l⟩
def Prp.ne(h:Prp A a)(b:a≠[]):cf A (A.length-1)≠0:=by
 obtain⟨g,i,c,f,d⟩:=h;rw[d,g];have:=gJ ((fT b).1 i);intro e;rcases Rat.mul_eq_zero.1 e with e|e
 ·exact f e
 ·exact this e
def Prp.trim(h:Prp A a):aN A:=by
 by_cases b:a=[]
 ·have:A=[]:=bX (by rw[h.1,b];rfl);rw[this];intro x c;simp at c
 ·exact(fT (fun e=>b (bX (by rw[<-h.1,e];rfl)))).2 (h.ne b)
def Prp.none(h:Prp A []):A=[]:=bX h.1
def CT{g:List Rat}{q:List Int}(j:Prp A a)(f:Prp g b)(s:b≠[])(h:PQRes a b v m q r)(B:DivQ A g Q R):Prp R r:=by
 obtain⟨F, -,c,C,j⟩:=j;have y:=f.ne s;obtain⟨p, -,d,t,f⟩:=f;have u:=gJ h.m0;have l:c/m≠0:=by
  rw[azE];intro e;rcases Rat.mul_eq_zero.1 e with e|e
  ·exact C e
  ·exact u (by have:=Rat.inv_inv (m:Rat);rw[e,Rat.inv_zero] at this;exact this.symm)
 have D:DivQ A g (q.map (fun n:Int=>(c/m/d)*(n:Rat))) (r.map (fun n:Int=>(c/m)*(n:Rat))):=by
  have E:aN (q.map (fun n:Int=>(c/m/d)*(n:Rat))):=by
   refine(jY ?_ h.q_trim).trim;rw[azE];intro e;rcases Rat.mul_eq_zero.1 e with e|e
   ·exact l e
   ·exact t (by have:=Rat.inv_inv d;rw[e,Rat.inv_zero] at this;exact this.symm)
  refine⟨fun i=> ?_,E,(jY l h.r_trim).trim,by rw[cH,p];exact h.r_lt⟩;rw[gL (qS _ q) f i,kT,rF,qS,j];have o:((m*cf a i:Int):Rat)=((conv (cf q) (cf b) i+cf r i:Int):Rat):=by rw[h.id_ i]
  rw[eJ,aqE,oD] at o;generalize conv (fun k=>((cf q k:Int):Rat)) (fun k=>((cf b k:Int):Rat)) i=z at *
  have w:c/m/d*(d*z)=c/m*z:=by rw[<-azC,gW t]
  rw[w];have x:c/m*z+c/m*((cf r i:Int):Rat)=c/m*(m*cf a i):=by rw[o];grind
  rw[x,<-azC,gW u]
 obtain⟨-,rfl⟩:=B.unique D y (by rw[p];exact List.length_pos_iff.2 s);exact jY l h.r_trim
def nM(h:Prp R r):Prp R (aS r):=by
 obtain⟨g,a,c,f,d⟩:=h;by_cases b:r=[]
 ·subst b;exact⟨g,gV a,c,f,fun i=>by rw[d,eR];have:aS []=[]:=bX (dF []);rw[this,eR]⟩
 ·refine⟨by rw[dF];exact g,gV a,c*((bC r:Int):Rat),fun e=> ?_,fun i=> ?_⟩
  ·rcases Rat.mul_eq_zero.1 e with e|e
   ·exact f e
   ·exact gJ (nI a b) e
  ·rw[d,<-lW r i,eJ];grind
def cE(g:List Int):List Rat:=tT g (cf g (g.length-1))
def oQ(p:List Rat):List Rat:=aW aV (oA [] (1/cf p (p.length-1)) p)
def qT(h:Prp p e):oQ p=cE e:=by
 by_cases a:e=[]
 ·subst a;rw[h.none];rfl
 ·have hn:=h.ne a;obtain⟨d,g,c,k,b⟩:=h;have f:=(fT a).1 g;refine oZ (jS _) (VN f g) (fun i=> ?_);unfold oQ cE;rw[iS,xW,eR,xN,b,b,d];have j:=gJ f;rw[b,d] at hn;grind
def uD(a:aN e):Prp (cE e) e:=by
 by_cases b:e=[]
 ·subst b;exact⟨rfl,a,1,by decide,fun i=>by rw[eR];show cf [] i=_;rw[eR,aq4,gX]⟩
 ·have d:=gJ ((fT b).1 a);refine⟨cH _,a,1/((cf e (e.length-1):Int):Rat),fun h=> ?_,fun i=>by unfold cE;rw[xN];grind⟩;have:(1:Rat)=0:=by
   have c:1/((cf e (e.length-1):Int):Rat)*((cf e (e.length-1):Int):Rat)=1:=gW d;rw[<-c,h,aqQ]
  exact absurd this (by decide)
def CU(h:∀n∈e,nl n.natAbs<=K)(b:1<=K):∀q∈cE e,RL K q:=fun q a=>by
 unfold cE tT at a;obtain⟨n,hn,rfl⟩:=List.mem_map.1 a;exact CA n _ K (h n hn) (iU h _) b
def XM(h:e.length=1)(c:aN e):cE e=cE [1]:=by
 obtain⟨x,rfl⟩:∃x,e=[x]:=List.length_eq_one_iff.1 h;have d:=c x rfl;have:=gJ d;show[(x:Rat)/(x:Rat)]=[((1:Int):Rat)/((1:Int):Rat)]
 have a:(x:Rat)/x=1:=by grind
 have b:((1:Int):Rat)/((1:Int):Rat)=1:=by rw[bxS];grind
 rw[a,b]
def Trc(B:Nat)(a b g:List Int):Prop:=Euc B a b g∨(b=[]∧a.length=1∧g=[1])∨a.length<b.length∧Euc B b a g∧∀n∈a,nl n.natAbs<=B
def Trc.done(h:Trc B a [] g)(c:aN a):cE a=cE g:=by
 rcases h with h|⟨-,h,rfl⟩|⟨h, -⟩
 ·cases h with
  |done=>rfl
  |one b=>cases b
  |step b=>simp at b
 ·exact XM h c
 ·simp at h
def XN{j:List Rat}(d:Prp A a)(e:Prp j b)(f:b≠[])(h:Trc B a b g)(m:DivQ A j Q R):∃c,Prp R c∧Trc B b c g∧(∀n∈c,nl n.natAbs<=B)∧c.length<b.length:=by
 rcases h with h|⟨h, -⟩|⟨o,p,hn⟩
 ·cases h with
  |done=>exact absurd rfl f
  |one k=>
   have r:=m.r_lt;rw[e.1] at r;have:R=[]:=bX (by omega);subst this;exact⟨[],⟨rfl,(fun x s=>by simp at s),1,by decide,fun i=>by rw[eR,eR,aq4,gX]⟩,.inr (.inl ⟨rfl,k,rfl⟩),(fun n hn=>by cases hn),by rw[k];exact Nat.zero_lt_one⟩
  |step k l t=>exact⟨_,nM (CT d e f l m),.inl t,gU l.br,by rw[dF];exact l.r_lt⟩
 ·exact absurd h f
 ·have q:A.length<j.length:=by rw[d.1,e.1];exact o
  obtain⟨-,rfl⟩:=m.unique (DivQ.short q) (e.ne f) (by omega);rw[qB d.trim];exact⟨a,d,.inl p,hn,o⟩
def uE(h:ComDen A D K)(t:aN A):Prp A (cC A D):=by
 have b:=gJ (show D≠0 by have:=h.pos;omega);refine⟨(oN A D).symm,oO h.pos h.dvd t,1/(D:Rat),fun e=> ?_,fun i=> ?_⟩
 ·have a:1/(D:Rat)*D=1:=gW b;rw[e,aqQ] at a;exact absurd a (by decide)
 ·rw[JC A D h.dvd];grind
end Go.Proofs.YtpjpfjephpgcbaaGreatDoor
namespace Go.Proofs.YtpjpfjephpgcbaaGreatDoor
open Go.RowKit Sos
variable{w w':World}{B i n:Nat}{dT e sT:TypeId}{u v:Value}{E b c d g t:List Value}{A:Option Addr}{l:List (List UInt8)}
def uH(u:Value):Prop:=∃A n c,u= .slice A n c
def PRow(w:World)(B:Nat)(e:TypeId)(v:Value)(b:List Value):Prop:=
 (v= .slice none 0 0∧b=[])∨∃g c d,v= .slice (some ⟨g,0,none⟩) b.length c∧B<=g∧w.heap[g]? =some (.cells d e (0,0))∧b.length<=c∧c<=maxLen∧d.size=c∧d.toList.take b.length=b∧∀u∈d.toList,uH u
def PRow.nil(w:World)(B:Nat)(e:TypeId):PRow w B e (.slice none 0 0) []:= .inl ⟨rfl,rfl⟩
def PRow.be(h:PRow w B e v c)(j:Below w.1.size w w'):PRow w' B e v c:=by
 rcases h with h|⟨g,d,f,hv,i,b,h⟩
 ·exact .inl h
 ·exact .inr ⟨g,d,f,hv,i,(j.block g (Array.getElem?_eq_some_iff.1 b).1).trans b,h⟩
def PRow.ge(h:PRow w B e v c):∀g,v.ownBlock=some g->B<=g:=fun g b=>by
 rcases h with ⟨rfl,_⟩|⟨g',d,cur,rfl,f,_⟩
 ·simp[Value.ownBlock] at b
 ·simp[Value.ownBlock] at b;omega
def PRow.form(h:PRow w B e v b):∃A c,v= .slice A b.length c∧b.length<=c:=by
 rcases h with ⟨rfl,rfl⟩|⟨i,f,g,rfl,j,_,d,_⟩
 ·exact⟨none,0,rfl,aE⟩
 ·exact⟨_,_,rfl,d⟩
def PRow.at_{l c:Nat}(h:PRow w B e (.slice A l c) g)(hi:g[i]? =some u):∃b,A=some ⟨b,0,none⟩∧b<w.1.size∧w.cell? ⟨b,i,none⟩=some u:=by
 rcases h with ⟨_,rfl⟩|⟨d,m,j,hv,n,f,p,q,r,k,hn⟩
 ·simp at hi
 ·simp only[Value.slice.injEq] at hv;refine⟨d,hv.1,(Array.getElem?_eq_some_iff.1 f).1,?_⟩;rw[cell_of_row w d i j e (0,0) f,<-Array.getElem?_toList];rw[<-k,fC] at hi;split at hi
  ·exact hi
  ·cases hi
def Y1{g:Nat}{cur cs:Array Value}(t:w.heap[g]? =some (.cells cur e (0,0)))(hn:∀u∈cur.toList,uH u)(h:NatAt w u n):NatAt (w.setRow g cs) u n:=by
 obtain⟨A,c,hv,r,d,y⟩:=h;have k:(w.setRow g cs).1.size=w.1.size:=by simp[World.setRow]
 refine⟨A,c,hv,r,?_,y.mono (by rw[k];exact aE)⟩;rcases d with d|⟨b,m,rfl,x,j⟩
 ·exact .inl d
 ·by_cases l:dg n=[]
  ·exact .inl l
  ·have q:b≠g:=fun p=>by
    subst p;have f:=j 0 (List.length_pos_iff.2 l);rw[cell_of_row w b (m+0) cur e (0,0) t,<-Array.getElem?_toList] at f;obtain⟨z,C,B,s⟩:=hn _ (dG f);cases s
   refine .inr ⟨b,m,rfl,by rw[k];exact x,fun i v=> ?_⟩;exact(World.cell?_of_block (setRow_other w g b cs q)).trans (j i v)
section
variable {P:Program}{ops:Array Oper}{rest:List Oper}{o:Oper}{a:Act}{Q:Exit->Act->World->Prop}{w:World}
def K4(af:o.guard=none){s x:Operand}{t:TypeId}(ho:o.op= .call { callee:= .builtin .append,args:= #[s,x],argTypes:= #[t,t] })
  (e:TypeId)(R:Nat)(L:P.underlying t=some (.slice e))(hi:(P.info? e).map (fun i=>(i.zero,i.size,i.bytes))=some (some (.slice none 0 0),1,R))
  (B:Nat)(v:Value)(d:List Value)(hs:a.eval s=v)(ai:PRow w B e v d)(b:Nat)(u:Value)(O:a.eval x= .slice (some ⟨b,0,none⟩) 1 1)(hc:w.cell? ⟨b,0,none⟩=some u)(N:uH u)
  (V:(d.length+1)*R<=140737488355328)(T:d.length+1<=maxLen)(hB:B<=w.1.size)
  (h:∀p w',PRow w' B e p (d++[u])->Keep w w'->w.grownBy w' v.ownBlock->wpList P ops Q rest (a.put o.dst p) w'):
  wpList P ops Q (o :: rest) a w:=by
 obtain⟨i,H,hz,r,U⟩:=info_parts hi;have ao:d.length+1<=9223372036854775807:=by simp only[maxLen] at T;omega
 have ah:u.oneCell'=true:=by obtain⟨A,n,c,rfl⟩:=N;rfl
 have J:∀j y,[u][j]? =some y->w.cell? ((⟨b,0,none⟩:Addr).add j)=some y:=fun j y m=>by
  match j,m with
  |0,m=>simp at m;subst m;simpa [Addr.add] using hc
 have S:∀(l F:Nat),l=grownCap w (d.length+1) F e->d.length+1<=l->l<=maxLen->∀ad,(∀y∈d,uH y)->
   PRow (w.drew.alloc (.cells (d.toArray++[u].toArray++Builtin.zeroCells (Value.slice none 0 0).cells (l-(d.length+1))) e)) B e (.slice (some ⟨w.1.size,0,none⟩) (d.length+1) l) (d++[u])∧
   Keep w (w.drew.alloc (.cells (d.toArray++[u].toArray++Builtin.zeroCells (Value.slice none 0 0).cells (l-(d.length+1))) e))∧
   w.grownBy (w.drew.alloc (.cells (d.toArray++[u].toArray++Builtin.zeroCells (Value.slice none 0 0).cells (l-(d.length+1))) e)) ad:=by
  intro l F _ C G ad hv;have am:(Builtin.zeroCells (Value.slice none 0 0).cells (l-(d.length+1))).size=l-(d.length+1):=by rw[size_zeroCells];simp[Value.cells]
  refine⟨.inr ⟨w.1.size,l,_,by rw[bE];rfl,hB,heap_alloc_new w.drew _,by rw[bE];exact C,G,?_,?_,?_⟩,Keep.be ((aG w.1.size w).drew.alloc aE _),⟨rfl,rfl,rfl,by simp,fun k I _=>heap_alloc_old w.drew _ I⟩⟩
  ·rw[Array.size_append,Array.size_append,am];simp;omega
  ·rw[bx5,bx5];exact List.take_left
  ·intro y f;rw[bx5,bx5] at f;rcases List.mem_append.1 f with f|f
   ·rcases List.mem_append.1 f with f|f
    ·exact hv y f
    ·have al:y=u:=by simpa using f
     rw[al];exact N
   ·have ac:y∈Builtin.zeroCells #[Value.slice none 0 0] (l-(d.length+1)):=Array.mem_toList_iff.1 f;unfold Builtin.zeroCells at ac;obtain⟨j,_,rfl⟩:=Array.mem_map.1 ac;simp only[bzA,eG,azS,bA,Nat.mod_one];exact⟨none,0,0,rfl⟩
 have an:∃p w',(Builtin.append_ #[t,t] o.type #[v,.slice (some ⟨b,0,none⟩) 1 1]).run P w= .ok p w'∧PRow w' B e p (d++[u])∧Keep w w'∧w.grownBy w' v.ownBlock:=by
  have X:=grownCap_ge w (d.length+1);have W:=fun F=>grownCap_le_maxLen w (d.length+1) F e T;rcases ai with ⟨rfl,rfl⟩|⟨g,l,z,rfl,ae,D,hl,hm,ap,M,hn⟩
  ·have q:=run_append_nil (P:=P) w t o.type e i (.slice none 0 0) L H hz ⟨b,0,none⟩ 1 1 [u] (by rw[r];rfl) J (by omega) (by omega) (by rw[U];simp at V;omega);have E:=S _ 0 rfl (X 0 e) (W 0) (Value.ownBlock (.slice none 0 0)) (fun y f=>by cases f);simp only[azS,bA,iM,Array.empty_append] at E⊢;exact⟨_,_,q,E⟩
  ·have Z:∀y∈d,uH y:=fun y f=>hn y (by rw[<-M] at f;exact lH f);by_cases Y:d.length+1<=l
   ·have q:=run_append_room (P:=P) w t o.type e i L H g d.length l z D ⟨b,0,none⟩ 1 1 [u] (by rw[r];rfl) J (fun y f=>by rw[List.mem_singleton.1 f];exact ah) Y (by rw[r];simp;omega);rw[r,az9,M] at q;refine⟨_,_,q,.inr ⟨g,l,_,by rw[bE];rfl,ae,setRow_heap w g z _ e _ D,by rw[bE];exact Y,hm,?_,?_,?_⟩,fun x n O=>Y1 D hn O,⟨rfl,rfl,rfl,by simp[World.setRow],fun k _ I=>setRow_other w g k _ (fun e=>I (by simp[Value.ownBlock,e]))⟩⟩
    ·simp[eP];omega
    ·exact List.take_left
    ·intro y f;have ak:y∈d++[u]++z.toList.drop (d.length+[u].length):=f;rcases List.mem_append.1 ak with f|f
     ·rcases List.mem_append.1 f with f|f
      ·exact Z y f
      ·rw[List.mem_singleton.1 f];exact N
     ·exact hn y (bxD f)
   ·have ag:∀j y,d[j]? =some y->w.cell? ((⟨g,0,none⟩:Addr).add j)=some y:=fun j y m=>by
     have C:w.cell? ⟨g,j,none⟩=some y:=by
      rw[cell_of_row w g j z e (0,0) D,<-Array.getElem?_toList];rw[<-M,fC] at m;split at m
      ·exact m
      ·cases m
     unfold Addr.add;split
     ·rename_i h0;subst h0;simpa using C
     ·simpa using C
    have q:=run_append_grow (P:=P) w t o.type e i (.slice none 0 0) L H hz ⟨g,0,none⟩ d.length l d (by rw[r,az9]) ag ⟨b,0,none⟩ 1 1 [u] (by rw[r];rfl) J (by omega) (by omega) (growslice_fits (by omega) (by rw[U];exact V));have E:=S _ l rfl (X l e) (W l) (Value.ownBlock (.slice (some ⟨g,0,none⟩) d.length l)) Z;exact⟨_,_,q,E⟩
 obtain⟨p,w',aj,G,h3,h4⟩:=an;refine wpList_plain af fun K hK=> ?_;unfold Oper.wp execOp;simp only[ho,resolve,invoke,builtin,Sem.run_bind,Sem.run_pure,Result.andThen_ok,bxC,fM,aqJ,hs,O,aj];exact hK _ _ (h p w' G h3 h4)
end
def RowsAt{α:Type}(E:World->Value->α->Prop)(w:World)(B:Nat)(e:TypeId)(v:Value)(c:List α):Prop:=
 ∃b,PRow w B e v b∧b.length=c.length∧∀(i:Nat) (u:Value) (l:α),b[i]? =some u->c[i]? =some l->E w u l
def RowsAt.nil{α:Type}(E:World->Value->α->Prop)(w:World)(B:Nat)(e:TypeId):RowsAt E w B e (.slice none 0 0) []:=⟨[],PRow.nil _ _ _,rfl,fun i u l h=>by simp at h⟩
def RowsAt.form{α:Type}{E:World->Value->α->Prop}{b:List α}(h:RowsAt E w B e v b):∃A c,v= .slice A b.length c∧b.length<=c:=by
 obtain⟨g,d,f,_⟩:=h;rw[<-f];exact d.form
def RowsAt.at_{α:Type}{E:World->Value->α->Prop}{c:Nat}{f:List α}(h:RowsAt E w B e (.slice A n c) f){l:α}(hi:f[i]? =some l):∃b u,A=some ⟨b,0,none⟩∧b<w.1.size∧w.cell? ⟨b,i,none⟩=some u∧E w u l:=by
 obtain⟨r,g,j,k⟩:=h;have d:i<r.length:=by rw[j];exact(List.getElem?_eq_some_iff.1 hi).1
 obtain⟨b,m,p,q⟩:=g.at_ (aR d);exact⟨b,_,m,p,q,k i _ l (aR d) hi⟩
abbrev WsAt:=RowsAt WholeAt
abbrev TsAt:=RowsAt StrsAt
def WsAt.be{c:List (List Int)}(h:WsAt w B 64 v c)(b:Below w.1.size w w'):WsAt w' B 64 v c:=by
 obtain⟨k,d,e,f⟩:=h;exact⟨k,d.be b,e,fun i u l j g=>(f i u l j g).be b⟩
def TsAt.be{c:List (List (List UInt8))}(h:TsAt w B 22 v c)(b:Below w.1.size w w'):TsAt w' B 22 v c:=by
 obtain⟨k,d,e,f⟩:=h;exact⟨k,d.be b,e,fun i u l j g=>(f i u l j g).be b⟩
def WholeAt.grown{l:List Int}(h:WholeAt w u l)(s:PRow w B 64 v t)(r:Keep w w')(n:w.grownBy w' v.ownBlock):WholeAt w' u l:=by
 obtain⟨A,c,e,m,h⟩:=h;refine⟨A,c,e,m,?_⟩;rcases h with h|⟨b,j,k,f,q⟩
 ·exact .inl h
 ·refine .inr ⟨b,j,k,⟨(n.block b f.lt (fun i=> ?_)).trans f.1,f.2⟩,q.ke r⟩;rcases s with ⟨rfl,_⟩|⟨g,x,y,rfl,_,p,_⟩
  ·simp[Value.ownBlock] at i
  ·simp[Value.ownBlock] at i;subst i;have d:w.heap[b]? =some (.cells j.flatten.toArray 67 (0,0)):=f.1;rw[p] at d;injection d with d;injection d with _ d;exact absurd d (by decide)
def StrsAt.grown(h:StrsAt w u l)(D:PRow w B e v E)(j:w.grownBy w' v.ownBlock):StrsAt w' u l:=by
 obtain⟨A,c,r,x,h⟩:=h;refine⟨A,c,r,x,?_⟩;rcases h with h|⟨b,p,s,m,k⟩
 ·exact .inl h
 ·by_cases C:l=[]
  ·exact .inl C
  ·refine .inr ⟨b,p,s,aZ m j.size,fun i t n=>(World.cell?_of_block (j.block b m (fun d=> ?_))).trans (k i t n)⟩;rcases D with ⟨rfl,_⟩|⟨g,H,q,rfl,_,z,_,_,_,_,hn⟩
   ·simp[Value.ownBlock] at d
   ·simp[Value.ownBlock] at d;subst d;have f:=k i t n;rw[cell_of_row w b (p+i) q e (0,0) z,<-Array.getElem?_toList] at f;obtain⟨F,I,G,y⟩:=hn _ (dG f);cases y
def WsAt.push{m:Value}{f:List (List Int)}{l:List Int}(g:PRow w B 64 v d)(h:d.length=f.length)(p:∀(i:Nat) (u:Value) (l:List Int),d[i]? =some u->f[i]? =some l->WholeAt w u l)(r:WholeAt w u l)
  (q:PRow w' B 64 m (d++[u]))(k:Keep w w')(j:w.grownBy w' v.ownBlock):WsAt w' B 64 m (f++[l]):=by
 refine⟨_,q,by rw[bE,bE,h];rfl,fun i x y b c=> ?_⟩;rcases dE i d.length with e|e
 ·rw[gA e] at b;rw[gA (by omega)] at c;exact(p i x y b c).grown g k j
 ·rw[fK e] at b;rw[fK (by omega),<-h] at c;have n:i-d.length=0:=by
   have:=(List.getElem?_eq_some_iff.1 b).1;simp at this;omega
  rw[n] at b c;simp at b c;subst b;subst c;exact r.grown g k j
def TsAt.push{k:Value}{f:List (List (List UInt8))}(g:PRow w B 22 v d)(h:d.length=f.length)(n:∀(i:Nat) (u:Value) (l:List (List UInt8)),d[i]? =some u->f[i]? =some l->StrsAt w u l)(q:StrsAt w u l)
  (p:PRow w' B 22 k (d++[u]))(j:w.grownBy w' v.ownBlock):TsAt w' B 22 k (f++[l]):=by
 refine⟨_,p,by rw[bE,bE,h];rfl,fun i x y b c=> ?_⟩;rcases dE i d.length with e|e
 ·rw[gA e] at b;rw[gA (by omega)] at c;exact(n i x y b c).grown g j
 ·rw[fK e] at b;rw[fK (by omega),<-h] at c;have m:i-d.length=0:=by
   have:=(List.getElem?_eq_some_iff.1 b).1;simp at this;omega
  rw[m] at b c;simp at b c;subst b;subst c;exact q.grown g j
def K5{a:World}(h:Below B a w)(b:w.grownBy w' v.ownBlock)(f:PRow w B e v g)(d:B<=a.1.size):Below B a w':=
 ⟨b.os.trans h.os,b.tape.trans h.tape,b.output.trans h.output,aH h.size b.size,fun k c=>(b.block k (aZ c (aH d h.size)) (fun e=>by have:=f.ge k e.symm;omega)).trans (h.block k c)⟩
def Y3:(Tryz.prog.info? 64).map (fun i=>(i.zero,i.size,i.bytes))=some (some (.slice none 0 0),1,24):=by kernel_rfl
def K2{g:Nat}{cur cs:Array Value}(s:w.heap[g]? =some (.cells cur e (0,0)))(hn:∀u∈cur.toList,NoInt u)(h:NatAt w u n):NatAt (w.setRow g cs) u n:=by
 obtain⟨A,c,hv,r,d,x⟩:=h;have k:(w.setRow g cs).1.size=w.1.size:=by simp[World.setRow]
 refine⟨A,c,hv,r,?_,x.mono (by rw[k];exact aE)⟩;rcases d with d|⟨b,m,rfl,v,j⟩
 ·exact .inl d
 ·by_cases l:dg n=[]
  ·exact .inl l
  ·have q:b≠g:=fun p=>by
    subst p;have f:=j 0 (List.length_pos_iff.2 l);rw[cell_of_row w b (m+0) cur e (0,0) s,<-Array.getElem?_toList] at f;exact hn _ (dG f) _ _ rfl
   refine .inr ⟨b,m,rfl,by rw[k];exact v,fun i t=> ?_⟩;exact(World.cell?_of_block (setRow_other w g b cs q)).trans (j i t)
section
variable {P:Program}{ops:Array Oper}{rest:List Oper}{o:Oper}{a:Act}{Q:Exit->Act->World->Prop}{w:World}
def XZ(dT sT F c:TypeId)(k g dLen dCap:Nat)(sp:Option Addr)(sLen sCap:Nat)(cur:Array Value)(t:TypeId)(cs:List Value)
  (q:P.underlying dT=some (.slice c))(m:(P.info? c).map (·.size)=some k)(A:0<k)
  (d:w.heap[g]? =some (.cells cur t (0,0)))(hn:cs.length=sLen*k)(B:sLen<=dLen)
  (n:Src w sp cs)(y:cs.length<=cur.size)(u:∀v∈cs,v.oneCell'=true):
  (Builtin.copy_ #[dT,sT] F #[.slice (some ⟨g,0,none⟩) dLen dCap,.slice sp sLen sCap]).run P w= .ok (goInt sLen) (w.setRow g (cs++cur.toList.drop cs.length).toArray):=by
 have p:=run_storeCells_at P g 0 t cs 0 cur w d (by simpa using y) u;have C:Nat.min sLen dLen=sLen:=gF B;simp only[bA,byQ,iM] at p;cases hq:P.info? c with
 |none=>simp[hq] at m
 |some i=>
  have f:i.size=k:=by simpa [hq] using m
  cases sp with
  |none=>
   have s:cs=[]:=by
    rcases n with h|⟨b,E,e,_⟩
    ·exact h
    ·cases e
   subst s;have D:sLen=0:=by
    rcases iB sLen with h|h
    ·exact h
    ·have:=aqZ h A;simp at hn;omega
   subst D;simp[Builtin.copy_,run_underlying q,Builtin.lenOf,Builtin.firstCells,sizeOf,typeInfo,hq,f,storeCells,setRow_self w g cur t (0,0) d]
  |some r=>
   have l:=run_loadCells_list (P:=P) w r cs (fun j v hv=>by
    rcases n with h|⟨b,E,e,x⟩
    ·rw[h] at hv;simp at hv
    ·injection e with e;subst e;have:=x j v hv;unfold Addr.add;split
     ·rename_i z;subst z;simpa using this
     ·exact this)
   rw[hn] at l;simp[Builtin.copy_,run_underlying q,Builtin.lenOf,Builtin.firstCells,sizeOf,typeInfo,hq,f,C,l,p]
def Y0(l:o.guard=none){d s:Operand}(p:o.op= .call { callee:= .builtin .copy,args:= #[d,s],argTypes:= #[dT,sT] })(b:TypeId)(k g dLen dCap:Nat)(sp:Option Addr)(sLen sCap:Nat)(cur:Array Value)(t:TypeId)(cs:List Value)
  (x:P.underlying dT=some (.slice b))(r:(P.info? b).map (·.size)=some k)(m:0<k)(f:a.eval d= .slice (some ⟨g,0,none⟩) dLen dCap)(y:a.eval s= .slice sp sLen sCap)
  (j:w.heap[g]? =some (.cells cur t (0,0)))(hn:cs.length=sLen*k)(n:sLen<=dLen)(u:Src w sp cs)(i:cs.length<=cur.size)(c:∀v∈cs,v.oneCell'=true)
  (h:wpList P ops Q rest (a.put o.dst (goInt sLen)) (w.setRow g (cs++cur.toList.drop cs.length).toArray)):wpList P ops Q (o :: rest) a w:=by
 refine wpList_plain l fun K e=> ?_;have q:=XZ (P:=P) (w:=w) dT sT o.type b k g dLen dCap sp sLen sCap cur t cs x r m j hn n u i c;unfold Oper.wp execOp;simp only[p,resolve,invoke,builtin,Sem.run_bind,Sem.run_pure,Result.andThen_ok,bxC,fM,aqJ,f,y,q];exact e _ _ h
end
def K3{α:Type}(z:List α)(k l M:Nat)(d:z.length=k)(f:l<=M):(List.replicate M z).flatten.drop (l*k)=(List.replicate (M-l) z).flatten:=by
 have e:List.replicate M z=List.replicate l z++List.replicate (M-l) z:=by rw[bz9];congr 1;omega
 have b:(List.replicate l z).flatten.length=l*k:=by rw[mX (k:=k) (fun r c=>by rw[(List.mem_replicate.1 c).2];exact d),dB]
 rw[e,byL,<-b,List.drop_left]
def OwnW.copied{g M:Nat}{rows:List (List Value)}{ns:List Int}(f:Rw w g 2 (List.replicate M [.bool false,.slice none 0 0]) 67)(m:∀r∈rows,r.length=2)(d:rows.length=ns.length)(v:ns.length<=M)(hi:IRow w rows ns):
  let W:=w.setRow g (rows.flatten++(List.replicate M ([.bool false,.slice none 0 0]:List Value)).flatten.drop rows.flatten.length).toArray
  OwnW W g (ns++List.replicate (M-ns.length) 0)∧nD g w W:=by
 have k:w.heap[g]? =some (.cells (List.replicate M ([.bool false,.slice none 0 0]:List Value)).flatten.toArray 67 (0,0)):=f.1
 have p:Keep w (w.setRow g (rows.flatten++(List.replicate M ([.bool false,.slice none 0 0]:List Value)).flatten.drop rows.flatten.length).toArray):=fun x n F=>K2 k (fun u D=>by
  have E:u∈(List.replicate M ([.bool false,.slice none 0 0]:List Value)).flatten:=D;obtain⟨r,C,j⟩:=List.mem_flatten.1 E;rw[(List.mem_replicate.1 C).2] at j;simp at j;rcases j with rfl|rfl
  ·exact NoInt.bool _
  ·exact NoInt.slice _ _ _) F
 have B:rows.flatten.length=ns.length*2:=by rw[mX m,d]
 have z:rows.flatten++(List.replicate M ([.bool false,.slice none 0 0]:List Value)).flatten.drop rows.flatten.length=(rows++List.replicate (M-ns.length) [Value.bool false,Value.slice none 0 0]).flatten:=by
  rw[B,K3 _ 2 _ _ rfl v,byL]
 refine⟨⟨rows++List.replicate (M-ns.length) [.bool false,.slice none 0 0],⟨?_,fun r f=> ?_⟩,by simp[d],fun i n hn=> ?_⟩,p,fun b y=>setRow_other w g b _ y,by simp[World.setRow],rfl,rfl,rfl⟩
 ·unfold Bx;rw[<-z];exact setRow_heap w g _ _ _ _ k
 ·rcases List.mem_append.1 f with h|h
  ·exact m r h
  ·rw[(List.mem_replicate.1 h).2];rfl
 ·rcases dE i ns.length with h|h
  ·rw[gA h] at hn;obtain⟨s,A,l,c,q,t⟩:=hi i n hn;exact⟨s,A,l,c,by rw[gA (by omega)];exact q,t.ke p⟩
  ·rw[fK h] at hn;have e:=(List.getElem?_eq_some_iff.1 hn).1;rw[dB] at e;rw[j6,if_pos e] at hn;injection hn with hn;subst hn;exact⟨false,none,0,0,by rw[fK (by omega),d,j6,if_pos e],IntAt.zero _⟩
def uG(xs ys:List Int)(y:Int):List Int:=(List.range (max xs.length ys.length)).map (fun i=>cf xs i+cf ys i*y)
