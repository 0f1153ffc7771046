/- Laws. -/
import Derived.Test.YtgjeoghojliocaaGreatDoorE24
set_option linter.all false
set_option maxHeartbeats 8000000
set_option maxRecDepth 99999
namespace Go.Proofs.YtgjeoghojliocaaGreatDoor
open Go.RowKit Sos
def PRow.typ{w:World}{B:Nat}{e:TypeId}{v:Value}{h:List Value}(d:PRow w B e v h){b:Nat}(a:v.ownBlock=some b):∃cur,w.heap[b]? =some (.cells cur e (0,0)):=by
 rcases d with ⟨rfl,_⟩|⟨g,i,cur,rfl,_,c,_⟩
 ·simp[Value.ownBlock] at a
 ·simp[Value.ownBlock] at a;subst a;exact⟨cur,c⟩
def RatBx(w:World)(g:Nat)(f:Rat):Prop:=∃s1 A1 k1 c1 s2 A2 k2 c2,Bx w g [.bool s1,.slice A1 k1 c1,.bool s2,.slice A2 k2 c2] 47∧RatAt w (.agg #[.bool s1,.slice A1 k1 c1,.bool s2,.slice A2 k2 c2]) f
def RatBx.be{w w':World}{g:Nat}{f:Rat}(h:RatBx w g f)(a:Below w.heap.size w w'):RatBx w' g f:=by
 obtain⟨s1,A1,k1,c1,s2,A2,k2,c2,b,c⟩:=h;exact⟨s1,A1,k1,c1,s2,A2,k2,c2,b.be a,c.be a⟩
def RatBx.lt{w:World}{g:Nat}{f:Rat}(h:RatBx w g f):g<w.heap.size:=by
 obtain⟨s1,A1,k1,c1,s2,A2,k2,c2,a,b⟩:=h;exact a.lt
section
variable {W0 w:World}{g:Nat}{s1 s2:Bool}{A1 A2:Option Addr}{k1 c1 k2 c2:Nat}{f:Rat}{v:Value}{ns:List Int}
end
def TsAt.up{a b:World}[u:Up a b]{B:Nat}{v:Value}{c:List (List (List UInt8))}(h:TsAt a B 22 v c):TsAt b B 22 v c:=h.be u.out
def PRow.km{w w':World}{B:Nat}{e:TypeId}{v:Value}{i:List Value}(h:PRow w B e v i)(c:w.grownBy w' v.ownBlock):KM w w':=⟨c.size,fun p k x a=>by
 refine(World.cell?_of_block (c.block p.block (block_lt_of_cell a) (fun b=> ?_))).trans a;rcases h with ⟨rfl,_⟩|⟨g,l,cur,rfl,_,f,_,_,_,_,hn⟩
 ·simp[Value.ownBlock] at b
 ·simp[Value.ownBlock] at b;unfold World.cell? at a;rw[b,f] at a;simp only at a;split at a
  ·cases a
  ·rw[<-Array.getElem?_toList] at a;obtain⟨j,m,c',d⟩:=hn _ (dG a);cases d⟩
def QsAt.grown{w w':World}{B:Nat}{e:TypeId}{v u:Value}{r:List Value}{l:List Rat}(h:QsAt w u l)(i:PRow w B e v r)(o:e≠62)(g:w.grownBy w' v.ownBlock):QsAt w' u l:=by
 obtain⟨A,c,f,n,h⟩:=h;refine⟨A,c,f,n,?_⟩;rcases h with h|⟨b,j,f,d,q,p⟩
 ·exact .inl h
 ·refine .inr ⟨b,j,f,⟨(g.block b d.lt (fun m=> ?_)).trans d.1,d.2⟩,q,p.ke (i.km g)⟩;obtain⟨s,k⟩:=i.typ m.symm;have a:w.heap[b]? =some (.cells j.flatten.toArray 62 (0,0)):=d.1;rw[k] at a;injection a with a;injection a with _ a;exact o a
abbrev QQs:=RowsAt QsAt
def QQs.be{w w':World}{B:Nat}{v:Value}{b:List (List Rat)}(h:QQs w B 52 v b)(a:Below w.heap.size w w'):QQs w' B 52 v b:=by
 obtain⟨j,c,d,e⟩:=h;exact⟨j,c.be a,d,fun i u l g f=>(e i u l g f).be a⟩
def QQs.up{a b:World}[u:Up a b]{B:Nat}{v:Value}{c:List (List Rat)}(h:QQs a B 52 v c):QQs b B 52 v c:=QQs.be h u.out
def QQs.push{w w':World}{B:Nat}{v j u:Value}{c:List Value}{e:List (List Rat)}{l:List Rat}(f:PRow w B 52 v c)(g:c.length=e.length)(m:∀(i:Nat) (u:Value) (l:List Rat),c[i]? =some u->e[i]? =some l->QsAt w u l)(o:QsAt w u l)
  (n:PRow w' B 52 j (c++[u]))(h:w.grownBy w' v.ownBlock):QQs w' B 52 j (e++[l]):=by
 refine⟨_,n,by rw[bE,bE,g];rfl,fun i x y a b=> ?_⟩;rcases dE i c.length with d|d
 ·rw[gA d] at a;rw[gA (by omega)] at b;exact(m i x y a b).grown f (by decide) h
 ·rw[fK d] at a;rw[fK (by omega),<-g] at b;have k:i-c.length=0:=by
   have:=(List.getElem?_eq_some_iff.1 a).1;simp at this;omega
  rw[k] at a b;simp at a b;subst a;subst b;exact o.grown f (by decide) h
def ML:(Tryz.prog.info? 52).map (fun i=>(i.zero,i.size,i.bytes))=some (some (.slice none 0 0),1,24):=by kernel_rfl
def KM.setRow{w:World}{g:Nat}{cur cs:Array Value}{e:TypeId}(h:w.heap[g]? =some (.cells cur e (0,0)))(hn:∀u∈cur.toList,NoInt u):KM w (w.setRow g cs):=
 ⟨by simp[World.setRow],fun p k x d=>by
  obtain⟨b,o,i⟩:=p;obtain rfl:i=none:=World.cell?_spot d;by_cases f:b=g
  ·subst f;rw[cell_of_row w b o cur e (0,0) h,<-Array.getElem?_toList] at d;exact absurd rfl (hn _ (dG d) k x)
  ·exact(World.cell?_of_block (setRow_other w g b cs f)).trans d⟩
def ZK:(Tryz.prog.info? 62).map (·.size)=some 4:=by kernel_rfl
abbrev zR:List Value:=[.bool false,.slice none 0 0,.bool false,.slice none 0 0]
def ZL(M:Nat):∀u∈(List.replicate M zR).flatten,NoInt u:=fun u e=>by
 obtain⟨r,d,b⟩:=List.mem_flatten.1 e;rw[(List.mem_replicate.1 d).2] at b;simp only[List.mem_cons,List.not_mem_nil,or_false] at b;rcases b with rfl|rfl|rfl|rfl<;>first|exact NoInt.bool _|exact NoInt.slice _ _ _
def OwnQ.copied{w:World}{g M:Nat}{rows:List (List Value)}{d:List Rat}(k:Rw w g 4 (List.replicate M zR) 62)(m:∀r∈rows,r.length=4)(f:rows.length=d.length)(z:d.length<=M)(hi:QRow w rows d):
  let W:=w.setRow g (rows.flatten++(List.replicate M zR).flatten.drop rows.flatten.length).toArray
  OwnQ W g (d++List.replicate (M-d.length) 0)∧r6 g w W:=by
 have e:w.heap[g]? =some (.cells (List.replicate M zR).flatten.toArray 62 (0,0)):=k.1;have t:∀u∈(List.replicate M zR).flatten.toArray.toList,NoInt u:=ZL M;have p:KM w (w.setRow g (rows.flatten++(List.replicate M zR).flatten.drop rows.flatten.length).toArray):=KM.setRow e t;have C:rows.flatten++(List.replicate M zR).flatten.drop rows.flatten.length=(rows++List.replicate (M-d.length) zR).flatten:=by
  rw[mX m,f,K3 _ 4 _ _ rfl z,List.flatten_append]
 refine⟨⟨rows++List.replicate (M-d.length) zR,⟨?_,fun r k=> ?_⟩,by simp[f],fun i n hn=> ?_⟩,p,fun x n D=>K2 e t D,fun b B=>setRow_other w g b _ B,by simp[World.setRow],rfl,rfl,rfl⟩
 ·unfold Bx;rw[<-C];exact setRow_heap w g _ _ _ _ e
 ·rcases List.mem_append.1 k with h|h
  ·exact m r h
  ·rw[(List.mem_replicate.1 h).2];rfl
 ·rcases dE i d.length with h|h
  ·rw[gA h] at hn;obtain⟨s,A,l,c,s',A',l',c',v,y⟩:=hi i n hn;exact⟨s,A,l,c,s',A',l',c',by rw[gA (by omega)];exact v,y.ke p⟩
  ·rw[fK h] at hn;have j:=(List.getElem?_eq_some_iff.1 hn).1;rw[dB] at j;rw[j6,if_pos j] at hn;injection hn with hn;subst hn;exact⟨false,none,0,0,false,none,0,0,by rw[fK (by omega),f,j6,if_pos j],NQ.zero _⟩
section
variable {w:World}{ops:Array Oper}{rest:List Oper}{o:Oper}{a:Act}{Q:Exit->Act->World->Prop}
def ZM(x:o.guard=none){d s:Operand}(z:o.op= .call { callee:= .builtin .copy,args:= #[d,s],argTypes:= #[52,52] }){g M c':Nat}(u:a.eval d= .slice (some ⟨g,0,none⟩) M c')(e:Rw w g 4 (List.replicate M zR) 62)
  {A:Option Addr}{l c:Nat}{b:List Rat}(E:a.eval s= .slice A l c)(C:QsAt w (.slice A l c) b)(i:b.length<=M)
  (h:∀w',OwnQ w' g (b++List.replicate (M-b.length) 0)->r6 g w w'->wpList Tryz.prog ops Q rest (a.put o.dst (goInt l)) w'):wpList Tryz.prog ops Q (o :: rest) a w:=by
 obtain⟨f,m,rfl,j,D,y,B⟩:=C.srcs;have n:f.flatten.length=b.length*4:=by rw[mX j,m]
 have v:f.flatten.length<=(List.replicate M zR).flatten.toArray.size:=by
  rw[n,List.size_toArray,mX (k:=4) (fun r e=>by rw[(List.mem_replicate.1 e).2];rfl),dB];omega
 obtain⟨p,t⟩:=OwnQ.copied e j m i y;exact Y0 x z 62 4 g M c' A b.length c _ 62 f.flatten Tryz.underlying52 ZK (by decide) u E e.1 n i D v B (h _ p t)
end
def KY{l:List Rat}{g:Nat->Rat}{i k m:Nat}(b:i+k=m)(h:m<l.length):(gN l g i k)[m]? =some (cf l m)∧m<(gN l g i k).length∧(gN l g i k).set m (g m)=gN l g i (k+1):=by
 subst b;exact⟨XO h,by rw[o8];exact h,XP h⟩
def QsAt.cell{w:World}{A:Option Addr}{c:Nat}{e:List Rat}(h:QsAt w (.slice A e.length c) e){i:Nat}(hi:i<e.length):
  ∃b s B m d s' f k j,A=some ⟨b,0,none⟩∧b<w.heap.size∧R4 w b (i*4) (.bool s) (.slice B m d) (.bool s') (.slice f k j)∧NQ w (.agg #[.bool s,.slice B m d,.bool s',.slice f k j]) (cf e i):=
 h.at_ (by rw[aR hi,<-fZ hi])
def QVar(w:World)(b:Nat)(q:Rat):Prop:=∃s A l c s' A' l' c',Bx w b [.bool s,.slice A l c,.bool s',.slice A' l' c'] 62∧NQ w (.agg #[.bool s,.slice A l c,.bool s',.slice A' l' c']) q
section
variable {W0 w:World}{g:Nat}{q:Rat}{s s':Bool}{A A':Option Addr}{l c l' c':Nat}
def QVar.be{w':World}(h:QVar w g q)(b:Below w.heap.size w w'):QVar w' g q:=by
 obtain⟨s,A,l,c,s',A',l',c',d,e⟩:=h;exact⟨s,A,l,c,s',A',l',c',d.be b,e.be b⟩
def QVar.step{w':World}{b:Nat}(h:QVar w g q)(d:r6 b w w')(i:g≠b):QVar w' g q:=by
 obtain⟨s,A,l,c,s',A',l',c',e,f⟩:=h;exact⟨s,A,l,c,s',A',l',c',(d.2.2.1 g i).trans e,f.ke d.1⟩
def QVar.up{b:World}[u:Up w b](h:QVar w g q):QVar b g q:=h.be u.out
def KZ(h:NQ w (.agg #[.bool s,.slice A l c,.bool s',.slice A' l' c']) q)(b:Below W0.heap.size W0 w):QVar (w.alloc (.cells #[.bool s,.slice A l c,.bool s',.slice A' l' c'] 62)) w.heap.size q∧Below W0.heap.size W0 (w.alloc (.cells #[.bool s,.slice A l c,.bool s',.slice A' l' c'] 62)):=
 ⟨⟨_,_,_,_,_,_,_,_,Bx.new _ _ _,h.be ((aG _ _).alloc aE _)⟩,b.alloc b.size _⟩
def L0(D:Bx w g zR 62)(h:NQ w (.agg #[.bool s,.slice A l c,.bool s',.slice A' l' c']) q)(d:Below W0.heap.size W0 w)(j:W0.heap.size<=g):
  QVar ((((w.setCell ⟨g,0,none⟩ (.bool s)).setCell ⟨g,1,none⟩ (.slice A l c)).setCell ⟨g,2,none⟩ (.bool s')).setCell ⟨g,3,none⟩ (.slice A' l' c')) g q∧Below W0.heap.size W0 ((((w.setCell ⟨g,0,none⟩ (.bool s)).setCell ⟨g,1,none⟩ (.slice A l c)).setCell ⟨g,2,none⟩ (.bool s')).setCell ⟨g,3,none⟩ (.slice A' l' c')):=by
 obtain⟨k,e,b,f,i, -⟩:=D.mut4 d j (.bool s) (.slice A l c) (.bool s') (.slice A' l' c') rfl rfl;rw[e];exact⟨⟨_,_,_,_,_,_,_,_,b,h.ke i⟩,f⟩
end
