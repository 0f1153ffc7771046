/- Laws. -/
import Derived.Test.YtbmafhclcdcepaaGreatDoorP23
set_option linter.all false
set_option maxHeartbeats 8000000
set_option maxRecDepth 99999
namespace Go.Proofs.YtbmafhclcdcepaaGreatDoor
open Go.RowKit Sos
def byA{a b:List Int}{e:List Rat}(d:Pp a)(o:Pp b)(h:∀x,aX a x=aI e x*aX b x):∃q,Pp q∧∀i,cf a i=conv (cf q) (cf b) i:=by
 have g:∀i,((cf a i:Int):Rat)=conv (cf e) (fun k=>((cf b k:Int):Rat)) i:=fun i=>by
  have:=LL (a:=aT 1 a) (b:=fG e (aT 1 b)) (fun x=>by rw[fY];exact h x) i;rw[dS,Rat.one_mul,uU] at this;rw[this];exact gL (fun _=>rfl) (fun k=>by rw[dS,Rat.one_mul]) i
 obtain⟨q, -,n⟩:=YS o.pr g;have c:∀i,cf a i=conv (cf (aW aV q)) (cf b) i:=fun i=>by
  rw[gL (iS q) (fun _=>rfl)];have f:=g i;rw[gL n (fun _=>rfl),<-oD] at f;exact Rat.intCast_inj.1 f
 have m:aW aV q≠[]:=fun l=>by
  obtain⟨x,j⟩:=KA d.ne d.tr;rw[l5,lD c,l,DS,Rat.zero_mul] at j;exact j rfl
 exact⟨_,⟨m,jS q,azB d.pr c⟩,c⟩
def DvW.pp{w p:List Int}(h:DvW w p):Pp p:=⟨h.ne,h.tr,h.pr⟩
def byB{w:List Int}{m N K B:Nat}{W:World}(E:Glob W)(M:w≠[])(Z:aN w)(F:∀n∈w,nl n.natAbs<=m)(G:w.length<=N)(A:N<=1000)(hK:m+2*N*(m+1)+2<=K)(C:(K+1)*3^N<=B)(D:5*B+8<=aJ):∀(n:Nat) (r:List Int),r.length<=n->DvW w r->1<r.length->∃a g es,RfO B r a g es∧DvW w g:=by
 intro n;induction n with
 |zero=>intro r h _ i;omega
 |succ n P=>
  intro r hr c i;have l:=lE c.tr;have p:=lZ r;have hl:=c.len;have v:=c.nums M Z F G A;have I:GcdFit K B r (bB r):=by
   refine⟨c.tr,l,fun n hn=>aH (v n hn) (by omega),fun n hn=>aH (pL v (by omega) n hn) (by omega),fun h=>by omega,fun _=> ?_,by omega,by omega⟩;have e:(K+1)*(r.length-(bB r).length+2)*3^(bB r).length=(K+1)*3^r.length:=by
    rw[p,show r.length-(r.length-1)+2=3 by omega,iW,dN 3,<-dH,show(r.length-1).succ=r.length by omega]
   rw[e];exact aH (eV _ (cO (by decide) (show r.length<=N by omega))) C
  obtain⟨g,d⟩:=aqX E I (by omega) D;unfold pO at d;rw[if_neg (by omega),XC c.pr] at d;have t:bB r≠[]:=fun e=>by rw[e] at p;simp at p;omega
  have y:=XA d c.pr (.inr (xZ (nI l t)));have f:=V5 d c.tr (gV l);obtain⟨s,a,R,X,Q,j⟩:=azM y f c.tr c.ne (JS d).1;obtain⟨o,dg⟩:=c.quo R X s f y Q j;by_cases z:g.length=1
  ·exact⟨a,g,_,.last i c.pp o.pp dg.pp d j z,dg⟩
  ·have lg:=List.length_pos_iff.2 s;have ac:g.length<=r.length-1:=by
    rcases dE (aS (bB r)).length g.length with k|k
    ·exfalso;have O:=(JS d).2.none k f;have J:aS (bB r)≠[]:=fun e=>t (bX (by rw[<-dF,e];rfl));exact(bN J).1 (gV l) (O _)
    ·rw[dF] at k;omega
   obtain⟨b,g2,es,u, -⟩:=P g (by omega) dg (by omega);obtain⟨U, -,S,ad,V,Y⟩:=u.facts;obtain⟨e,H, -⟩:=azL (T8 c.tr i d) (fun x=>lD j x) (T8 f U V) (fun x=>lD Y x) (KA s f);obtain⟨q,T,L⟩:=byA o.pp S H;exact⟨a,g,_,.step i c.pp o.pp dg.pp T d j L u,dg⟩
end Go.Proofs.YtbmafhclcdcepaaGreatDoor
namespace Go.Proofs.YtbmafhclcdcepaaGreatDoor
open Sos
def Cop.congr{a b c d:List Rat}(h:Cop a b)(e:∀x,aI c x=aI a x)(f:∀x,aI d x=aI b x):Cop c d:=by
 obtain⟨u,v,k⟩:=h;exact⟨u,v,fun x=>by rw[e,f];exact k x⟩
def azA:List (List Int)->Rat->Rat
 |[],_=>1
 |e :: es,x=>aX e x*azA es x
def pD:List (List Int)->Nat->Rat->Rat
 |[],_,_=>1
 |e :: es,n,x=>aX e x^n*pD es (n+1) x
def by9(es:List (List Int)):∀(n:Nat) (x:Rat),pD es (n+1) x=azA es x*pD es n x:=by
 induction es with
 |nil=>intro n x;show(1:Rat)=1*1;rw[Rat.mul_one]
 |cons e es a=>
  intro n x;show aX e x^(n+1)*pD es (n+1+1) x=aX e x*azA es x*(aX e x^n*pD es (n+1) x)
  rw[a,Rat.pow_succ];grind
def RfO.prod{B:Nat}{r a g:List Int}{es:List (List Int)}(h:RfO B r a g es):(∃k:Rat,k≠0∧∀x,aX r x=k*pD es 1 x)∧∃k:Rat,k≠0∧∀x,aX a x=k*azA es x:=by
 induction h with
 | @last r a g o u s m h d p=>
  obtain⟨k,f,e⟩:=azX p m.tr;refine⟨⟨k,f,fun x=> ?_⟩,1,by decide,fun x=> ?_⟩
  ·rw[lD d,show aX g x=k from e x];show _=k*(aX a x^1*1)
   rw[Rat.pow_succ,Rat.pow_zero];grind
  ·show aX a x=1*(aX a x*1)
   grind
 | @step r a g b v e es o u s m w h d j t q=>
  obtain⟨⟨k,f,n⟩,c,l,i⟩:=q;refine⟨⟨k*c,m6 f l,fun x=> ?_⟩,c,l,fun x=> ?_⟩
  ·rw[lD d,lD j,n,i];show _=k*c*(aX e x^1*pD es (1+1) x)
   rw[by9 es 1 x,Rat.pow_succ,Rat.pow_zero];grind
  ·rw[lD j,i];show _=c*(aX e x*azA es x)
   grind
def RfO.cops{B:Nat}{r a g:List Int}{es:List (List Int)}(h:RfO B r a g es):(∀e∈es,Cop (aT 1 e) (fW (aT 1 e))∧DvE (aX a) (aT 1 e))∧es.Pairwise (fun e f=>Cop (aT 1 e) (aT 1 f)):=by
 induction h with
 | @last r a g m p P l h n z=>
  refine⟨fun e c=> ?_,List.pairwise_singleton ..⟩;obtain rfl:=List.mem_singleton.1 c;refine⟨?_,[1],fun x=>by rw[show aI [1] x=0*x+1 from rfl,l5];grind⟩;obtain⟨k,J,w⟩:=azX z l.tr;obtain⟨u,v,I⟩:=(T8 p.tr m h).bz;have K:=uV (f:=aT 1 r) (u:=aT 1 e) (d:=aT 1 g) (fun x=>lD n x);have L:∀x,bM (aT 1 g) x=0:=fun x=>by
   obtain⟨y,rfl⟩:=List.length_eq_one_iff.1 z;show(0:Rat)*x+0=0
   grind
  refine⟨u,v,fun x=> ?_⟩;have G:=I x;rw[K,L,w,l5 r,lD n,show aX g x=k from w x,l5 e] at G;rw[<-qW,l5];have H:k*(aI u x*aX e x+aI v x*bM (aT 1 e) x-1)=0:=by grind
  rcases Rat.mul_eq_zero.1 H with s|s
  ·exact absurd s J
  ·grind
 | @step r a g b V e es m p P l X h n c t N=>
  obtain⟨S, -,C,Y,T,U⟩:=t.facts;obtain⟨A,M⟩:=N;obtain⟨q,O,D,F⟩:=azL (T8 p.tr m h) (fun x=>lD n x) (T8 l.tr S T) (fun x=>lD U x) (KA l.ne l.tr)
  have o:∀x,aI (aT 1 e) x=aI q x:=V0 (KA C.ne C.tr) (fun x=>by
   have m:=O x;have W:aI (aT 1 a) x=aI (aT 1 e) x*aI (aT 1 b) x:=lD c x;grind)
  have dd:∀x,aI (fW (aT 1 e)) x=aI (fW q) x:=fun x=>by
   rw[<-qW,<-qW];exact axS (fun i=>LL o i) x
  have E:Cop (aT 1 e) (aT 1 b):=D.congr o (fun _=>rfl);refine⟨fun f j=> ?_,List.pairwise_cons.2 ⟨fun f j=>E.dv (A f j).2,M⟩⟩;rcases List.mem_cons.1 j with rfl|j
  ·exact⟨F.congr o dd,aT 1 b,fun x=>by rw[lD c,l5,l5];grind⟩
  ·obtain⟨Q,u,R⟩:=A f j;exact⟨Q,fG (aT 1 e) u,fun x=>by rw[lD c,R,fY,l5 e];grind⟩
def rY:RL 1 (1:Rat):=⟨cJ (m:=1) (by unfold BN;decide),cJ (m:=1) (by unfold BN;decide)⟩
end Go.Proofs.YtbmafhclcdcepaaGreatDoor
namespace Go.Proofs.YtbmafhclcdcepaaGreatDoor
open Go.RowKit Sos
def KM.setRow{w:World}{g:Nat}{cur cs:Array Value}{e:TypeId}(h:w.heap[g]? =some (.cells cur e (0,0)))(hn:∀u∈cur.toList,NoInt u):KM w (w.setRow g cs):=
 ⟨by simp[World.setRow],fun p k x d=>by
  obtain⟨b,o,i⟩:=p;obtain rfl:i=none:=World.cell?_spot d;by_cases f:b=g
  ·subst f;rw[cell_of_row w b o cur e (0,0) h,<-Array.getElem?_toList] at d;exact absurd rfl (hn _ (dG d) k x)
  ·exact(World.cell?_of_block (setRow_other w g b cs f)).trans d⟩
def ZK:(Tryz.prog.info? 47).map (·.size)=some 4:=by kernel_rfl
abbrev zR:List Value:=[.bool false,.slice none 0 0,.bool false,.slice none 0 0]
def ZL(M:Nat):∀u∈(List.replicate M zR).flatten,NoInt u:=fun u e=>by
 obtain⟨r,d,b⟩:=List.mem_flatten.1 e;rw[(List.mem_replicate.1 d).2] at b;simp only[List.mem_cons,List.not_mem_nil,or_false] at b;rcases b with rfl|rfl|rfl|rfl<;>first|exact NoInt.bool _|exact NoInt.slice _ _ _
def OwnQ.copied{w:World}{g M:Nat}{rows:List (List Value)}{d:List Rat}(k:Rw w g 4 (List.replicate M zR) 47)(m:∀r∈rows,r.length=4)(f:rows.length=d.length)(z:d.length<=M)(hi:QRow w rows d):
  let W:=w.setRow g (rows.flatten++(List.replicate M zR).flatten.drop rows.flatten.length).toArray
  OwnQ W g (d++List.replicate (M-d.length) 0)∧r6 g w W:=by
 have e:w.heap[g]? =some (.cells (List.replicate M zR).flatten.toArray 47 (0,0)):=k.1;have t:∀u∈(List.replicate M zR).flatten.toArray.toList,NoInt u:=ZL M;have p:KM w (w.setRow g (rows.flatten++(List.replicate M zR).flatten.drop rows.flatten.length).toArray):=KM.setRow e t;have C:rows.flatten++(List.replicate M zR).flatten.drop rows.flatten.length=(rows++List.replicate (M-d.length) zR).flatten:=by
  rw[mX m,f,K3 _ 4 _ _ rfl z,List.flatten_append]
 refine⟨⟨rows++List.replicate (M-d.length) zR,⟨?_,fun r k=> ?_⟩,by simp[f],fun i n hn=> ?_⟩,p,fun x n D=>K2 e t D,fun b B=>setRow_other w g b _ B,by simp[World.setRow],rfl,rfl,rfl⟩
 ·unfold Bx;rw[<-C];exact setRow_heap w g _ _ _ _ e
 ·rcases List.mem_append.1 k with h|h
  ·exact m r h
  ·rw[(List.mem_replicate.1 h).2];rfl
 ·rcases dE i d.length with h|h
  ·rw[gA h] at hn;obtain⟨s,A,l,c,s',A',l',c',v,y⟩:=hi i n hn;exact⟨s,A,l,c,s',A',l',c',by rw[gA (by omega)];exact v,y.ke p⟩
  ·rw[fK h] at hn;have j:=(List.getElem?_eq_some_iff.1 hn).1;rw[dB] at j;rw[j6,if_pos j] at hn;injection hn with hn;subst hn;exact⟨false,none,0,0,false,none,0,0,by rw[fK (by omega),f,j6,if_pos j],NQ.zero _⟩
section
variable {w:World}{ops:Array Oper}{rest:List Oper}{o:Oper}{a:Act}{Q:Exit->Act->World->Prop}
def ZM(x:o.guard=none){d s:Operand}(z:o.op= .call { callee:= .builtin .copy,args:= #[d,s],argTypes:= #[39,39] }){g M c':Nat}(u:a.eval d= .slice (some ⟨g,0,none⟩) M c')(e:Rw w g 4 (List.replicate M zR) 47)
  {A:Option Addr}{l c:Nat}{b:List Rat}(E:a.eval s= .slice A l c)(C:QsAt w (.slice A l c) b)(i:b.length<=M)
  (h:∀w',OwnQ w' g (b++List.replicate (M-b.length) 0)->r6 g w w'->wpList Tryz.prog ops Q rest (a.put o.dst (goInt l)) w'):wpList Tryz.prog ops Q (o :: rest) a w:=by
 obtain⟨f,m,rfl,j,D,y,B⟩:=C.srcs;have n:f.flatten.length=b.length*4:=by rw[mX j,m]
 have v:f.flatten.length<=(List.replicate M zR).flatten.toArray.size:=by
  rw[n,List.size_toArray,mX (k:=4) (fun r e=>by rw[(List.mem_replicate.1 e).2];rfl),dB];omega
 obtain⟨p,t⟩:=OwnQ.copied e j m i y;exact Y0 x z 47 4 g M c' A b.length c _ 47 f.flatten Tryz.underlying39 ZK (by decide) u E e.1 n i D v B (h _ p t)
end
def KY{l:List Rat}{g:Nat->Rat}{i k m:Nat}(b:i+k=m)(h:m<l.length):(gN l g i k)[m]? =some (cf l m)∧m<(gN l g i k).length∧(gN l g i k).set m (g m)=gN l g i (k+1):=by
 subst b;exact⟨XO h,by rw[o8];exact h,XP h⟩
def QsAt.cell{w:World}{A:Option Addr}{c:Nat}{e:List Rat}(h:QsAt w (.slice A e.length c) e){i:Nat}(hi:i<e.length):
  ∃b s B m d s' f k j,A=some ⟨b,0,none⟩∧b<w.heap.size∧R4 w b (i*4) (.bool s) (.slice B m d) (.bool s') (.slice f k j)∧NQ w (.agg #[.bool s,.slice B m d,.bool s',.slice f k j]) (cf e i):=
 h.at_ (by rw[aR hi,<-fZ hi])
def QVar(w:World)(b:Nat)(q:Rat):Prop:=∃s A l c s' A' l' c',Bx w b [.bool s,.slice A l c,.bool s',.slice A' l' c'] 47∧NQ w (.agg #[.bool s,.slice A l c,.bool s',.slice A' l' c']) q
section
variable {W0 w:World}{g:Nat}{q:Rat}{s s':Bool}{A A':Option Addr}{l c l' c':Nat}
def QVar.be{w':World}(h:QVar w g q)(b:Below w.heap.size w w'):QVar w' g q:=by
 obtain⟨s,A,l,c,s',A',l',c',d,e⟩:=h;exact⟨s,A,l,c,s',A',l',c',d.be b,e.be b⟩
def QVar.step{w':World}{b:Nat}(h:QVar w g q)(d:r6 b w w')(i:g≠b):QVar w' g q:=by
 obtain⟨s,A,l,c,s',A',l',c',e,f⟩:=h;exact⟨s,A,l,c,s',A',l',c',(d.2.2.1 g i).trans e,f.ke d.1⟩
def QVar.up{b:World}[u:Up w b](h:QVar w g q):QVar b g q:=h.be u.out
def KZ(h:NQ w (.agg #[.bool s,.slice A l c,.bool s',.slice A' l' c']) q)(b:Below W0.heap.size W0 w):QVar (w.alloc (.cells #[.bool s,.slice A l c,.bool s',.slice A' l' c'] 47)) w.heap.size q∧Below W0.heap.size W0 (w.alloc (.cells #[.bool s,.slice A l c,.bool s',.slice A' l' c'] 47)):=
 ⟨⟨_,_,_,_,_,_,_,_,Bx.new _ _ _,h.be ((aG _ _).alloc aE _)⟩,b.alloc b.size _⟩
def L0(D:Bx w g zR 47)(h:NQ w (.agg #[.bool s,.slice A l c,.bool s',.slice A' l' c']) q)(d:Below W0.heap.size W0 w)(j:W0.heap.size<=g):
  QVar ((((w.setCell ⟨g,0,none⟩ (.bool s)).setCell ⟨g,1,none⟩ (.slice A l c)).setCell ⟨g,2,none⟩ (.bool s')).setCell ⟨g,3,none⟩ (.slice A' l' c')) g q∧Below W0.heap.size W0 ((((w.setCell ⟨g,0,none⟩ (.bool s)).setCell ⟨g,1,none⟩ (.slice A l c)).setCell ⟨g,2,none⟩ (.bool s')).setCell ⟨g,3,none⟩ (.slice A' l' c')):=by
 obtain⟨k,e,b,f,i, -⟩:=D.mut4 d j (.bool s) (.slice A l c) (.bool s') (.slice A' l' c') rfl rfl;rw[e];exact⟨⟨_,_,_,_,_,_,_,_,b,h.ke i⟩,f⟩
end
