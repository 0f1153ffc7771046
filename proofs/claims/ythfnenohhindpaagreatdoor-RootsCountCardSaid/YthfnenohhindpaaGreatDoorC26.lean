/-
  Contracts, laws: AppB.
-/
import Derived.Test.YthfnenohhindpaaGreatDoorC25
set_option linter.all false
set_option maxHeartbeats 8000000
set_option maxRecDepth 100000
namespace Go.Proofs.YthfnenohhindpaaGreatDoor
open Go.RowKit Sos
def TxtAt (w:World) (B:Nat) (v:Value) (bs:List UInt8):Prop:=w.ownsRow B 5 1 v bs.length (Lib.byteCells bs)
def GlobB (B:Nat) (w:World):Prop:=∀w',Below B w w'->Glob w'
theorem GlobB.on {B:Nat} {w w':World} (h:GlobB B w) (b:Below B w w'):GlobB B w':=fun c a=>h c (b.trans a)
theorem GlobB.here {B:Nat} {w:World} (h:GlobB B w):Glob w:=h w (aH _ _)
theorem Glob.globB {w:World} (h:Glob w):GlobB w.heap.size w:=fun _ a=>h.below a
theorem TxtAt.lt {w:World} {B:Nat} {v:Value} {bs:List UInt8} (h:TxtAt w B v bs):∀g,v.ownBlock=some g->B<=g∧g<w.heap.size:=World.ownsRow.lt h
theorem TxtAt.below {w w':World} {B:Nat} {v:Value} {bs:List UInt8} (h:TxtAt w B v bs) (a:Below w.heap.size w w'):TxtAt w' B v bs:=by
 refine World.ownsRow.kept h (oQ a none) ?_;cases v.ownBlock with
 |none=>exact .inl rfl
 |some g=>exact .inr (by simp)
theorem TxtAt.slice {w:World} {B:Nat} {v:Value} {bs:List UInt8} (h:TxtAt w B v bs):∃A c,v= .slice A bs.length c:=by
 rcases h.2 with ⟨rfl,e⟩|⟨g,a,b,rfl,_⟩
 ·exact⟨none,0,by rw[e]⟩
 ·exact⟨_,a,rfl⟩
theorem DY (a b:List UInt8):Lib.byteCells (a++b)=Lib.byteCells a++Lib.byteCells b:=by simp[Lib.byteCells]
theorem DZ (l:List UInt8):∀u∈Lib.byteCells l,u.oneCell'=true:=by
 intro u a;simp only[Lib.byteCells,List.mem_map] at a;obtain⟨b,_,rfl⟩:=a;rfl
theorem kP:(Tryz.prog.info? 5).map (fun i=>(i.zero,i.size,i.bytes))=some (some (.int .u8 0),1,1):=by kernel_rfl
def cW:Nat:=10000000000000000000
theorem qQ:cW=10^19:=by decide
theorem OE:cW<BN:=by decide
def eC (cs:List Nat):Nat:=cs.foldr (fun c a=>c+cW*a) 0
theorem OF (cs:List Nat) (c:Nat):eC (cs++[c])=eC cs+cW^cs.length*c:=by
 induction cs with
 |nil=>simp[eC]
 |cons d cs e=>
  have a:eC (d :: (cs++[c]))=d+cW*eC (cs++[c]):=rfl;have b:eC (d :: cs)=d+cW*eC cs:=rfl;rw[List.cons_append,a,b,e,List.length_cons,cU];grind
theorem OG (cs:List Nat) (i:Nat) (h:i<cs.length):eC (cs.drop i)=cs.getD i 0+cW*eC (cs.drop (i+1)):=by
 rw[List.drop_eq_getElem_cons h];show cs[i]+cW*eC (cs.drop (i+1))=_
 simp[aL h]
def jT (cs:List Nat):List Int:=cs.map (fun (c:Nat)=>(c:Int))
theorem p5 (cs:List Nat):(jT cs).length=cs.length:=by simp[jT]
theorem OH (cs:List Nat) (c:Nat):jT (cs++[c])=jT cs++[(c:Int)]:=by simp[jT]
theorem OI (cs:List Nat) (i:Nat):(jT cs).getD i 0=((cs.getD i 0:Nat):Int):=by
 simp only[jT,dF,List.getElem?_map];cases cs[i]? <;>rfl
theorem E0 {k x:Nat} (h:cW^k<=x):k<=2*nl x:=by
 rcases Nat.lt_or_ge (2*nl x) k with a|a
 ·exfalso;have c:=cJ x;have b:BN^nl x<=(cW^2)^nl x:=Nat.pow_le_pow_left (by decide) _;rw[<-Nat.pow_mul] at b;have d:cW^(2*nl x)<=cW^k:=cE (by decide) (by omega);omega
 ·exact a
theorem E2 (g:Nat):∀(a:List Value) (o:Nat) (w:World),w.grownBy (w.setCells g o a) (some g)
 |[],_,w=>World.grownBy.refl w _
 |v :: r,o,w=>vX (lE (w:=w) ⟨g,o,none⟩ v) (E2 g r (o+1) _)
theorem Shape.setCells {g n:Nat} {t:TypeId} (b:Nat):∀(a:List Value) (o:Nat) (w:World),Shape w g t n->Shape (w.setCells b o a) g t n
 |[],_,_,h=>h
 |v :: r,o,w,h=>Shape.setCells b r (o+1) _ (h.set ⟨b,o,none⟩ v)
theorem Shape.isSome {w:World} {g n:Nat} {t:TypeId} (h:Shape w g t n) {j:Nat} (c:j<n):(w.cell? ⟨g,j,none⟩).isSome=true:=by
 obtain⟨a,b,hn⟩:=h;rw[cell_of_row w g j a _ (0,0) b];simp;omega
theorem Shape.below {w w':World} {B g n:Nat} {t:TypeId} (h:Shape w g t n) (a:Below B w w') (b:g<B):Shape w' g t n:=h.keep (a.block g b)
theorem OJ (a:Nat) (w:World) (t:TypeId) (g:Shape w a t 20) (l:List UInt8) (q:l.length<=20):
  p6 w (.slice (some ⟨a,0,none⟩) 0 20) l (fun o w'=>o= .slice (some ⟨a,0,none⟩) l.length 20∧VC w' a 0 (Lib.byteCells l)∧w.grownBy w' (some a)∧Shape w' a t 20):=by
 refine OR _ _ _ _ ?_;intro d n x e m;obtain⟨i,h,r,k,p⟩:=info_parts kP;have c:=g.below e g.lt
 have f:=run_append_room_src (P:=Tryz.prog) d 177 n 177 5 i Tryz.underlying177 h a 0 0 20 x l.length (Lib.byteCells l) (by rw[k];exact m) (by omega)
  (fun j b=>by rw[Lib.byteCells_length] at b;rw[show 0+0*i.size+j=j by omega];exact c.isSome (by omega)) (fun j _=>c.soft.free _)
 rw[show 0+0*i.size=0 by omega,aS] at f;refine⟨_,_,f,rfl,?_,vX (oQ e _) (E2 a _ 0 d),Shape.setCells a _ 0 d c⟩;intro j v hv;have b:j<(Lib.byteCells l).length:=(List.getElem?_eq_some_iff.1 hv).1;have:=World.cell?_setCells_in a (Lib.byteCells l) 0 d (fun j b=>by rw[Lib.byteCells_length] at b;rw[aS];exact c.isSome (by omega)) j b;rw[this,<-hv,aL b]
theorem OK {wd c:Nat} (a:c≠0):List.replicate (max (Lib.decDigits c).length wd-(Lib.decDigits c).length) 48++Lib.decDigits c=cV wd c:=by
 unfold cV;rw[if_neg a,if_neg a,Lib.decDigits_length];congr 2<;>omega
theorem OL {c:Nat} (a:c<cW):List.replicate (19-(Lib.decDigits c).length) 48++Lib.decDigits c=cV 19 c:=by
 refine DE ((Digs.zeros _).append (mA c)) (by rw[mT,DC,jS];omega) ?_;have b:Lib.nDigits c<=19:=oX (by rw[<-qQ];exact a) (by decide);rw[aY,cN,Lib.decDigits_length];split<;>omega
theorem OM {a k H c:Nat} (b:H≠0) (e:c<cW):cV (a-19*(k+1)) H++cV 19 c=cV (a-19*k) (c+cW*H):=by
 have:=DF (w:=a-19*k) (hi:=H) (lo:=c) (d:=19) (by rw[<-qQ];exact e) (.inl b);rw[show c+cW*H=H*10^19+c by rw[qQ];grind,this];congr 2<;>omega
theorem ON (n:Nat):Lib.nDigits n<=20*nl n+1:=by
 refine oX ?_ (by omega);have b:=cJ n;have a:BN^nl n<=(10^20)^nl n:=Nat.pow_le_pow_left (by decide) _;rw[<-Nat.pow_mul] at a;have c:10^(20*nl n)<=10^(20*nl n+1):=cE (by decide) (by omega);omega
theorem E3 (w n:Nat):(cV w n).length<=w+20*nl n+1:=by
 rw[oY];have:=ON n;split<;>omega
theorem OO {cs:List Nat} (i:Nat):eC (cs.drop i)<=eC cs:=by
 induction i generalizing cs with
 |zero=>exact aE
 |succ i a=>
  cases cs with
  |nil=>simp
  |cons c cs=>
   rw[List.drop_succ_cons];have b:eC (c :: cs)=c+cW*eC cs:=rfl;have d:1*eC cs<=cW*eC cs:=cZ _ (by decide);have:=a (cs:=cs);omega
theorem OP {cs:List Nat} (h:cs.getLast?≠some 0) {i:Nat} (hi:i<cs.length):eC (cs.drop i)≠0:=by
 induction cs generalizing i with
 |nil=>simp at hi
 |cons c cs a=>
  cases i with
  |succ i=>
   rw[List.drop_succ_cons];cases cs with
   |nil=>simp at hi
   |cons d cs=>exact a (by simpa using h) (by simpa using hi)
  |zero=>
   have b:eC (c :: cs)=c+cW*eC cs:=rfl;rw[List.drop_zero,b];cases cs with
   |nil=>
    simp at h;simp[eC];exact h
   |cons d cs=>
    have:=a (i:=0) (by simpa using h) (by simp);rw[List.drop_zero] at this;have e:0<cW*eC (d :: cs):=Nat.mul_pos (by decide) (by omega);omega
theorem TxtAt.more {w w':World} {B:Nat} {v b:Value} {bs l:List UInt8} {o:Obj} (j:w'.ownsRow B 5 1 b (bs.length+l.length) (Lib.byteCells bs++Lib.byteCells l)) (a:(w.alloc o).grownBy w' v.ownBlock) (c:b.ownBlock=v.ownBlock∨b.ownBlock=some (w.alloc o).heap.size):
  TxtAt w' B b (bs++l)∧TxtTo w v w' b:=by
 refine⟨by unfold TxtAt;rw[DY,aY];exact j,⟨a.os,a.tape,a.output,aG (by simp) a.size,fun i d f=>(a.block i (by simp;omega) f).trans (Below.heap_alloc w o i d)⟩,fun g e=> ?_⟩;rcases c with h|h
 ·left;rw[<-h];exact e
 ·right;rw[h] at e;simp at e;omega
theorem TxtAt.more' {w w':World} {B:Nat} {v a:Value} {bs l:List UInt8} (d:w'.ownsRow B 5 1 a (bs.length+l.length) (Lib.byteCells bs++Lib.byteCells l)) (c:w.grownBy w' v.ownBlock) (b:a.ownBlock=v.ownBlock∨a.ownBlock=some w.heap.size):
  TxtAt w' B a (bs++l)∧TxtTo w v w' a:=by
 refine⟨by unfold TxtAt;rw[DY,aY];exact d,c,fun g e=> ?_⟩;rcases b with h|h
 ·left;rw[<-h];exact e
 ·right;rw[h] at e;simp at e;omega
theorem TxtTo.beside {w w':World} {a b d:Value} {B c n:Nat} {t:TypeId} {zs:List Int} (h:TxtTo w a w' b) (k:OwnN w B d zs) (l:Shape w c t n) (j:Apart a d) (i:a.ownBlock≠some c):
  OwnN w' B d zs∧Shape w' c t n∧Apart b d∧b.ownBlock≠some c:=by
 refine⟨k.grown h.1 j,l.grown h.1 i,h.apart j (fun g e=>(k.lt g e).2),fun e=> ?_⟩;rcases h.2 c e with f|f
 ·exact i f
 ·have:=l.lt;omega
def E5 (w:World) (B b:Nat) (d c:Value) (bs:List UInt8) (cs:List Nat) (e k:Nat) (p f:Value) (wr:World):Prop:=
 ∃a,((k=cs.length∧f= .bool true∧a=bs)∨(k<cs.length∧f= .bool false∧a=bs++cV (e-19*k) (eC (cs.drop k))))∧TxtAt wr B p a∧TxtTo w d wr p∧OwnN wr w.heap.size c (jT cs)∧Shape wr b 259 20∧
  Apart p c∧p.ownBlock≠some b∧k<=cs.length
theorem OQ (B:Nat) (tv:Value) (bs:List UInt8) (x o:Nat) (vx:Value) (w:World) (hG:GlobB B w) (hB:B<=w.heap.size) (ht:TxtAt w B tv bs) (hx:NatAt w vx x) (d7:nl x<=1099511627776) (d4:o<=17592186044416) (dq:bs.length<=17592186044416):
  Calls Tryz.prog 223 #[tv,vx,.int .i64 o] w fun e w'=>∃v,e= .returned v∧TxtAt w' B v (bs++cV o x)∧TxtTo w tv w' v:=by
 go_enter Tryz.func223,Tryz.ntmps223;go_wp2_with fail;refine(nK x _ _ hx (by unfold aI;omega)).mono ?_;rintro e w1 ⟨vw,rfl,cl,bq⟩;go_wp2_with fail;go_loopg [7,8] x (fun k p q wr=>∃(n:Nat) (b:List Nat),Hid (n=k)∧OwnN wr w.heap.size p (dg n)∧OwnN wr w.heap.size q (jT b)∧Apart p q∧(∀c∈b,c<cW)∧Hid (x=eC b+cW^b.length*n)∧Hid (n≠0∨b=[]∨b.getLast?≠some 0)∧n<=x∧b.length<=2*nl x+1∧Below w.heap.size w wr)
 case atStart=>
  exact⟨x,[],rfl,cl,OwnN.nil _ _,(fun g _ h=>by cases h),(fun c hc=>by cases hc),(by simp[Hid,eC]),Or.inr (Or.inl rfl),aE,Nat.zero_le _,bq⟩
 case round=>
  obtain⟨n,b,HK,hp,hq,ah,bw,HX,HZ,b7,dv,ap⟩:=hrel;clear cl bq;have d3:=bX b7;by_cases b4:n=0
  ·subst b4;have al:=HX.out;rw[Nat.mul_zero,Nat.add_zero] at al;have cn:b=[]∨b.getLast?≠some 0:=by rcases HZ.out with h|h;exact absurd rfl h;exact h
   have ay:=aB al;have bi:=aB cn;clear al cn HX HZ HK;obtain⟨Aw,cw,b9⟩:=hp.slice;rw[aJ,dC] at b9;subst b9;obtain⟨Z,S,ak⟩:=hq.slice;rw[p5] at ak;subst ak;have d5:=ap.size;have a7:=hq.lt;obtain⟨C,az⟩:∃C,C=wr.heap.size:=⟨_,rfl⟩;have c6:w.heap.size<=C:=by omega
   have c8:∀a,(Value.slice Z b.length S).ownBlock=some a->a≠C:=fun a I=>by have:=(a7 a I).2;omega
   have au:=ht.lt;have cb:E5 w B C tv (.slice Z b.length S) bs b o b.length tv (.bool true) (wr.alloc (.cells (Array.replicate 20 (Value.int .u8 0)) 259)):=by
    have br:=ap.alloc ap.size (.cells (Array.replicate 20 (Value.int .u8 0)) 259);refine⟨bs,.inl ⟨rfl,rfl,rfl⟩,ht.below br,TxtTo.below br,World.ownsRow.alloc hq _,⟨_,by rw[az];exact heap_alloc_new wr _,by simp⟩,?_,?_,aE⟩
    ·intro a I e;have:=(au a I).2;have:=(a7 a e).1;omega
    ·intro e;have:=(au _ e).2;omega
   have cy:=aB au;clear hp hq ah a7 au ht;go_wp2_with fail;rw[<-az] at *;clear az;go_loopg [0,12,13] b.length (fun k p f i wr=>i= .int .i64 ((k:Int)-1)∧E5 w B C tv (.slice Z b.length S) bs b o k p f wr)
   case atStart=>exact⟨rfl,cb⟩
   case round=>
    obtain⟨rfl,c0,bt,av,af,X,M,bo,aj,d1⟩:=hrel;clear cb;cases gk with
    |zero=>
     have b2:((0:Nat):Int)-1= -1:=by omega
     simp only[b2];clear b2;rcases bt with ⟨P,rfl,a0⟩|⟨P,rfl,rfl⟩
     ·have a1:=a0.symm;subst a1;have bx:b=[]:=bM P.symm;have al:x=0:=by rw[ay.out,bx];rfl
      subst al;have c1:B<=wr.heap.size:=aG hB af.1.size;clear X bx P;go_wp2_with fail;generalize u0=tx at *;go_loopg [0,82] o (fun N p i F=>∃j,Hid (j+N=o)∧i= .int .i64 j∧TxtAt F B p (bs++List.replicate j 48)∧TxtTo wr tx F p)
      case atStart=>exact⟨0,by unfold Hid;omega,rfl,by simpa using av,TxtTo.refl _ _⟩
      case round=>
       obtain⟨j,A,rfl,ad,z⟩:=hrel;have b3:j<=o:=by have:=A.out;omega
       have s:(bs++List.replicate j (48:UInt8)).length=bs.length+j:=by rw[aY,cN]
       have an:B<=wr.heap.size:=aG c1 z.1.size;cases gk with
       |succ N=>
        have hj:(j:Int)<o:=by have:=A.out;omega
        have Y:wr.ownsRow B 5 1 u0 (bs.length+j) (Lib.byteCells (bs++List.replicate j 48)):=by
         have:=ad;unfold TxtAt at this;rw[s] at this;exact this
        have R:=aB s;clear s;go_wp2_with (at_builtin;refine fE rfl rfl 5 _ 1 1 Tryz.underlying177 kP rfl (by decide) B u0 (bs.length+j) _ rfl (Y.alloc _) [Value.int .u8 48] rfl (by simp) (j0 _ _ _) (by simp[Value.oneCell']) (by omega) (by omega) (by simp;omega) ?_;intro q1 w6 K D J);have u:=TxtAt.more (bs:=bs++List.replicate j 48) (l:=[48]) (by rw[R.out];exact K) D J;go_wp2_with fail;go_roundg N
        case measure=>omega
        case rel=>
         refine⟨j+1,by have:=A.out;unfold Hid;omega,by go_num,?_,z.trans u.2⟩;rw[List.replicate_succ',<-List.append_assoc];exact u.1
       |zero=>
        obtain rfl:j=o:=by have:=A.out;omega
        clear s;go_wp2_with fail;go_ret;exact⟨_,rfl,by rw[NO];exact ad,af.trans z⟩
     ·have dn:Hid (eC (b.drop 0)=x):=by unfold Hid;rw[ay.out];rfl
      go_wp2_with fail;go_ret;refine⟨_,rfl,?_,af⟩;have:=av;rw[Nat.mul_zero,Nat.sub_zero,dn.out] at this;exact this
    |succ k=>
     obtain⟨gc,rfl,dx, -, -,cd,bv⟩:=X.parts (by rw[p5];omega);have g1:=bv k (by rw[p5];omega);rw[aS,OI] at g1;have aq:b.getD k 0<cW:=bw _ (by rw[dF,aL (by omega)];exact List.getElem_mem _);have bf:=aB (OG b k (by omega));generalize bu:b.getD k 0=G at *;have ai:((k+1:Nat):Int)-1=(k:Int):=by omega
     simp only[ai];have b1:gc≠C:=c8 gc rfl;have a3:G<BN:=Nat.lt_trans aq OE;have bk:Below B w wr:=af.belowB hB (fun a I=>(cy.out a I).1);have bm:Glob wr.drew:=hG _ bk.drew;have bn:=OJ C wr.drew 259 M (Lib.decDigits G) (tJ a3);have bp:=E8 _ G wr.drew _ a3 bm bn;have de:gc<wr.drew.heap.size:=cd.lt;have dy:(0:Int)<=(k:Int):=by omega
     have d0:(k:Int)<(b.length:Int):=by omega
     have dm:∀W,(Instr.sliceAt 259 (.pointer (some ⟨C,0,none⟩)) none (some (.int .i64 0)) none).run Tryz.prog W= .ok (.slice (some ⟨C,0,none⟩) 0 20) W:=fun W=>by kernel_rfl
     have ct:=aB bu;have hL:=tJ a3;have bg:=aB (fun (hc:G≠0) (wd:Nat)=>OK (wd:=wd) hc);have aw:=aB (OL aq);have c3:1<=(Lib.decDigits G).length:=by rw[Lib.decDigits_length];exact Lib.nDigits_pos G
     clear ai bn bu bv bk bm;generalize Lib.decDigits G=T at *;go_wp2_with fail
     go_region_held3 (fun w'=>w'.cell? ⟨gc,k,none⟩=some (.int .u64 G)) (first|go_keep|(exact(World.cell?_of_block (a:=⟨gc,k,none⟩) (O.block gc de (fun e=>b1 (by injection e)))).trans g1)) (first
      |(go_at_call 202;(with_reducible refine bp.mono ?_);rintro e5 w5 ⟨v5,rfl,rfl,ck,O,ar⟩))
     clear bp dm;have cj:TxtAt w5 B u0 c0:=World.ownsRow.kept (w:=wr.drew) av O (.inr aj);have b8:OwnN w5 w.heap.size (.slice (some ⟨gc,0,none⟩) b.length S) (jT b):=OwnN.grown (w:=wr.drew) X O (fun g e=>by injection e with e;subst e;intro e2;exact b1 (by simpa [Value.ownBlock] using e2));have ci:TxtTo w tv w5 u0:=af.step (w1:=wr) ⟨O.os,O.tape,O.output,O.size,O.block⟩ c6;have bj:B<=w5.heap.size:=aG hB (aG af.1.size O.size);obtain⟨L,ag⟩:∃L,Hid (T.length=L):=⟨_,rfl⟩;simp only[ag.out] at hL c3 bg aw⊢;clear av X af O g1 M cd;rcases bt with ⟨P,rfl,a0⟩|⟨P,rfl,rfl⟩
     ·have a1:=a0.symm;subst a1;obtain⟨E,cg,ab⟩:∃E:Nat,max (L:Int) ((o:Int)-19*(k:Int))=(E:Int)∧Hid (E=max L (o-19*k)):=⟨max L (o-19*k),by omega,rfl⟩;have c9:G≠0:=by
       have m:=bi.out;rcases m with m|m
       ·rw[m] at P;simp at P
       ·rw[<-ct.out];intro e;apply m;rw[List.getLast?_eq_getElem?,show b.length-1=k by omega,aL (by omega)];rw[dF,aL (by omega)] at e;simpa using e
      have cv:Hid (eC (b.drop k)=G):=by
       unfold Hid;rw[bf.out,List.drop_of_length_le (by omega)];simp[eC]
      have c4:L<=E:=by have:=ab.out;omega
      obtain⟨d,dc,HD⟩:∃d:Nat,(E:Int)-(L:Int)=(d:Int)∧Hid (d=E-L):=⟨E-L,by omega,rfl⟩;have a4:d<=17592186044436:=by have:=HD.out;have:=ab.out;omega
      go_wp2_with fail;generalize u0=tx at *;go_loopg [0,71] d (fun N p i F=>∃j,Hid (j+N=d)∧i= .int .i64 j∧TxtAt F B p (bs++List.replicate j 48)∧TxtTo w5 tx F p)
      case atStart=>exact⟨0,by unfold Hid;omega,rfl,by simpa using cj,TxtTo.refl _ _⟩
      case round=>
       obtain⟨j,A,rfl,ad,z⟩:=hrel;have b3:j<=d:=by have:=A.out;omega
       have s:(bs++List.replicate j (48:UInt8)).length=bs.length+j:=by rw[aY,cN]
       have an:B<=wr.heap.size:=aG bj z.1.size;cases gk with
       |succ N=>
        have hj:(j:Int)<d:=by have:=A.out;omega
        have Y:wr.ownsRow B 5 1 u0 (bs.length+j) (Lib.byteCells (bs++List.replicate j 48)):=by
         have:=ad;unfold TxtAt at this;rw[s] at this;exact this
        have R:=aB s;clear s;go_wp2_with (at_builtin;refine fE rfl rfl 5 _ 1 1 Tryz.underlying177 kP rfl (by decide) B u0 (bs.length+j) _ rfl (Y.alloc _) [Value.int .u8 48] rfl (by simp) (j0 _ _ _) (by simp[Value.oneCell']) (by omega) (by omega) (by simp;omega) ?_;intro q1 w6 K D J);have u:=TxtAt.more (bs:=bs++List.replicate j 48) (l:=[48]) (by rw[R.out];exact K) D J;go_wp2_with fail;go_roundg N
        case measure=>omega
        case rel=>
         refine⟨j+1,by have:=A.out;unfold Hid;omega,by go_num,?_,z.trans u.2⟩;rw[List.replicate_succ',<-List.append_assoc];exact u.1
       |zero=>
        obtain rfl:j=d:=by have:=A.out;omega
        have U:=z.beside b8 ar bo aj;have bc:=ck.grown z.1 ar.lt aj;have Y:wr.ownsRow B 5 1 u0 (bs.length+j) (Lib.byteCells (bs++List.replicate j 48)):=by
         have:=ad;unfold TxtAt at this;rw[s] at this;exact this
        have R:=aB s;clear s;have a9:Src wr (some ⟨C,0,none⟩) (Lib.byteCells T):= .inr ⟨C,0,rfl,bc⟩;go_wp2_with (at_builtin;refine fE rfl rfl 5 _ 1 1 Tryz.underlying177 kP rfl (by decide) B u0 (bs.length+j) _ rfl Y (Lib.byteCells T) rfl (by rw[Lib.byteCells_length,ag.out,Nat.mul_one]) a9 (DZ T) (by omega) (by omega) an ?_;intro q1 w6 K D J);have u:=TxtAt.more' (bs:=bs++List.replicate j 48) (l:=T) (by rw[R.out,ag.out];exact K) D J;have V:=u.2.beside U.1 U.2.1 U.2.2.1 U.2.2.2;have ba:=(ci.trans z).trans u.2;go_wp2_with fail;go_roundg k
        case measure=>omega
        case rel=>
         refine⟨rfl,_,.inr ⟨by omega,rfl,rfl⟩,?_,ba,V.1,V.2.1,V.2.2.1,V.2.2.2,by omega⟩;have:=u.1;rw[HD.out] at this;rw[ab.out,List.append_assoc,bg.out c9] at this;rw[cv.out];exact this
     ·obtain⟨E,cg,ab⟩:∃E:Nat,(19:Int)=(E:Int)∧Hid (E=19):=⟨19,rfl,rfl⟩;have hH:eC (b.drop (k+1))≠0:=by
       rcases bi.out with m|m
       ·rw[m] at P;simp at P
       ·exact OP m P
      have c2:eC (b.drop (k+1))<=x:=by rw[ay.out];exact OO _
      have dp:L<=19:=by
       have m:=congrArg List.length aw.out;have h2:Lib.nDigits G<=19:=oX (by rw[<-qQ];exact aq) (by decide);rw[oY,aY,cN,ag.out] at m;split at m<;>omega
      generalize eC (b.drop (k+1))=H at *;obtain⟨bl,cr,dr⟩:∃bl,Hid ((bs++cV (o-19*(k+1)) H).length=bl)∧bl<=57174604644353:=by
       refine⟨_,rfl,?_⟩;have m:=E3 (o-19*(k+1)) H;have h2:=bX c2;rw[aY];omega
      clear cg ab;clear E;have ab:Hid ((19:Nat)=19):=rfl;have c4:L<=19:=by have:=ab.out;omega
      obtain⟨d,dc,HD⟩:∃d:Nat,(19:Int)-(L:Int)=(d:Int)∧Hid (d=19-L):=⟨19-L,by omega,rfl⟩;have a4:d<=17592186044436:=by have:=HD.out;have:=ab.out;omega
      go_wp2_with fail;generalize u0=tx at *;go_loopg [0,71] d (fun N p i F=>∃j,Hid (j+N=d)∧i= .int .i64 j∧TxtAt F B p ((bs++cV (o-19*(k+1)) H)++List.replicate j 48)∧TxtTo w5 tx F p)
      case atStart=>exact⟨0,by unfold Hid;omega,rfl,by simpa using cj,TxtTo.refl _ _⟩
      case round=>
       obtain⟨j,A,rfl,ad,z⟩:=hrel;have b3:j<=d:=by have:=A.out;omega
       have s:((bs++cV (o-19*(k+1)) H)++List.replicate j (48:UInt8)).length=bl+j:=by rw[aY,cN,cr.out]
       have an:B<=wr.heap.size:=aG bj z.1.size;cases gk with
       |succ N=>
        have hj:(j:Int)<d:=by have:=A.out;omega
        have Y:wr.ownsRow B 5 1 u0 (bl+j) (Lib.byteCells ((bs++cV (o-19*(k+1)) H)++List.replicate j 48)):=by
         have:=ad;unfold TxtAt at this;rw[s] at this;exact this
        have R:=aB s;clear s;go_wp2_with (at_builtin;refine fE rfl rfl 5 _ 1 1 Tryz.underlying177 kP rfl (by decide) B u0 (bl+j) _ rfl (Y.alloc _) [Value.int .u8 48] rfl (by simp) (j0 _ _ _) (by simp[Value.oneCell']) (by omega) (by omega) (by simp;omega) ?_;intro q1 w6 K D J);have u:=TxtAt.more (bs:=(bs++cV (o-19*(k+1)) H)++List.replicate j 48) (l:=[48]) (by rw[R.out];exact K) D J;go_wp2_with fail;go_roundg N
        case measure=>omega
        case rel=>
         refine⟨j+1,by have:=A.out;unfold Hid;omega,by go_num,?_,z.trans u.2⟩;rw[List.replicate_succ',<-List.append_assoc];exact u.1
       |zero=>
        obtain rfl:j=d:=by have:=A.out;omega
        have U:=z.beside b8 ar bo aj;have bc:=ck.grown z.1 ar.lt aj;have Y:wr.ownsRow B 5 1 u0 (bl+j) (Lib.byteCells ((bs++cV (o-19*(k+1)) H)++List.replicate j 48)):=by
         have:=ad;unfold TxtAt at this;rw[s] at this;exact this
        have R:=aB s;clear s;have a9:Src wr (some ⟨C,0,none⟩) (Lib.byteCells T):= .inr ⟨C,0,rfl,bc⟩;go_wp2_with (at_builtin;refine fE rfl rfl 5 _ 1 1 Tryz.underlying177 kP rfl (by decide) B u0 (bl+j) _ rfl Y (Lib.byteCells T) rfl (by rw[Lib.byteCells_length,ag.out,Nat.mul_one]) a9 (DZ T) (by omega) (by omega) an ?_;intro q1 w6 K D J);have u:=TxtAt.more' (bs:=(bs++cV (o-19*(k+1)) H)++List.replicate j 48) (l:=T) (by rw[R.out,ag.out];exact K) D J;have V:=u.2.beside U.1 U.2.1 U.2.2.1 U.2.2.2;have ba:=(ci.trans z).trans u.2;go_wp2_with fail;go_roundg k
        case measure=>omega
        case rel=>
         refine⟨rfl,_,.inr ⟨by omega,rfl,rfl⟩,?_,ba,V.1,V.2.1,V.2.2.1,V.2.2.2,by omega⟩;have:=u.1;rw[HD.out] at this;rw[List.append_assoc,aw.out,List.append_assoc,OM hH aq] at this;rw[bf.out];exact this
  ·have b5:=fI b4;obtain⟨g,am,rfl,b0,b6,da,M,ae⟩:=hp.at_ (by rw[aJ];exact b5);simp only[aJ] at hp b6 ah⊢;have i1:(0:Int)<(nl n:Int):=by omega
   have du:b.length<=2*nl x:=by
    refine E0 ?_;have m:=HX.out;have h2:cW^b.length*1<=cW^b.length*n:=dL _ (by omega);omega
   obtain⟨Z,S,ak⟩:=hq.slice;rw[p5] at ak;subst ak;have dt:decide (0<nl n)=true:=by simpa using b5
   go_wp2_with fail
   go_loopg [9,10] (nl n) (fun k t i F=>∃(r:Int) (zs:List Int),i= .int .i64 ((k:Int)-1)∧t= .int .u64 r∧k<=nl n∧0<=r∧r<10000000000000000000∧Hid (zs.length=nl n)∧InR aA zs∧Hid (zs.take k=(dg n).take k)∧Hid (aF aA (zs.drop k)*10000000000000000000+r=aF aA ((dg n).drop k))∧
    OwnN F w.heap.size (.slice (some ⟨g,0,none⟩) (nl n) am) zs∧OwnN F w.heap.size (.slice Z b.length S) (jT b)∧Below w.heap.size w F)
   case atStart=>
    refine⟨0,dg n,rfl,rfl,aE,by decide,by decide,aJ n,bV n,rfl,?_,hp,hq,ap⟩;unfold Hid;rw[List.drop_of_length_le (by rw[aJ];exact aE)];simp
   case round=>
    obtain⟨r,zs,rfl,rfl,d2,a8,ca,ac,hz,ax,HV,ho,X,a2⟩:=hrel;clear hp hq ae M;cases gk with
    |succ k=>
     have HO:=aB ho;obtain⟨g',eg, -, -, -,M,ae⟩:=ho.parts (by rw[ac.out];omega);simp only[Option.some.injEq,Addr.mk.injEq] at eg;obtain⟨rfl, -, -⟩:=eg;have g1:=ae k (by rw[ac.out];omega);have co:zs.getD k 0=(dg n).getD k 0:=by
      have m:=congrArg (fun l=>l.getD k (0:Int)) ax.out;simp only[dF,List.getElem?_take,if_pos (Nat.lt_succ_self k)] at m;simpa [dF] using m
     rw[aS,co] at g1;have cm:=(bV n).getD aP k;have ce:=fun q r' h=>CS (zs:=zs) (xs:=dg n) (j:=k) (q:=q) (r':=r') (y:=10000000000000000000) (by rw[aJ];omega) (by rw[ac.out];omega) h HV.out;have a6:g<wr.heap.size:=M.lt;generalize (dg n).getD k 0=xd at *;have cx:=aB ce;have ai:((k+1:Nat):Int)-1=(k:Int):=by omega
     simp only[ai];have HQ:=aB X;clear ce ae co ai ho X;go_wp2_with fail;refine(sW r xd 10000000000000000000 a8 ca cm.1 cm.2 (by decide) _).mono ?_;rintro e w2 ⟨q,r',rfl,db,a4,di,dj,bz,nd,rfl⟩;have ao:Below wr.heap.size wr (wr.drewN nd):=dH (aH _ _) _;have c7:Below w.heap.size w (wr.drewN nd):=dH a2 _;generalize wr.drewN nd=w2 at *;have cu:=aB bz;clear bz;have g3:w2.cell? ⟨g,k,none⟩=_:=(ao.cell (p:=⟨g,k,none⟩) a6).trans g1;have dl:=M.soft.below ao a6;have dw:=fun j=>dl.free j;clear g1;have dh:∀a,(Value.slice Z b.length S).ownBlock=some a->a≠g:=fun a I e=>ah g rfl (by rw[<-e];exact I);go_wp2_with fail;go_roundg k
     case measure=>omega
     case rel=>
      refine⟨r',zs.set k q,rfl,rfl,by omega,di,dj,?_,hz.set db a4 k,?_,cx.out q r' cu.out,(HO.out.below ao).set (by rw[ac.out];omega) q,?_,c7.setCell (by simpa using b0) _⟩
      ·unfold Hid;rw[List.length_set];exact ac.out
      ·unfold Hid;rw[List.take_set_of_le aE];have m:=congrArg (List.take k) ax.out;rw[List.take_take,List.take_take,Nat.min_eq_left (by omega)] at m;exact m
      ·refine World.ownsRow.kept (HQ.out.below ao) (lE (w:=w2) ⟨g,k,none⟩ _) (.inr (fun e=>dh g e rfl))
    |zero=>
     have hv:=HV.out;simp only[List.drop_zero,cB] at hv;have a5:=sV hv a8 ca;obtain⟨rn,rfl⟩:=Int.eq_ofNat_of_zero_le a8;have cc:rn=n%cW:=by
      have:=a5.2;have e:((n%cW:Nat):Int)=(n:Int)%10000000000000000000:=by push_cast;rfl
      omega
     have cp:aF aA zs=((n/cW:Nat):Int):=by rw[a5.1];push_cast;rfl
     have dk:rn<cW:=by unfold cW;omega
     obtain⟨g',eg, -, -, -,M,ae⟩:=ho.parts (by rw[ac.out];omega);simp only[Option.some.injEq,Addr.mk.injEq] at eg;obtain⟨rfl, -, -⟩:=eg;have cz:=aB cp;have bh:=aB cc;clear hv a5 cp cc HV ax;go_wp2_with fail;refine(eM _ zs (nl n) am _ ac.out (Rd.mk M.lt ae) b6 (by omega)).mono ?_;rintro e w3 ⟨rfl,rfl⟩;have k1:=lT hz cz.out;have r1:Cells .u64 wr g 0 (dg (n/cW)):=by rw[<-k1,(nM zs).1];exact ae.take _
     have l1:(dg (n/cW)).length<=am:=by rw[<-k1];have:=lU zs;have:=ac.out;omega
     have o1:OwnN wr w.heap.size (.slice (some ⟨g,0,none⟩) (trimL zs).length am) (dg (n/cW)):=by rw[k1];exact OwnN.of M r1 b0 l1 da
     clear k1 r1 l1;have df:wr.ownsRow w.heap.size 181 1 (.slice Z b.length S) b.length ((jT b).map (Value.int .u64)):=by
      have:=X;unfold OwnN at this;rw[p5] at this;exact this
     have d6:=a2.size;have a6:=M.lt;generalize (trimL zs).length=tl at *;go_wp2_with (at_builtin;refine fE rfl rfl 181 _ 1 8 Tryz.underlying57 fO rfl (by decide) w.heap.size (.slice Z b.length S) b.length _ rfl (df.alloc _) [Value.int .u64 rn] rfl (by simp) (j0 _ _ _) (by simp[Value.oneCell']) (by omega) (by omega) (by simp;omega) ?_;intro q1 w4 K D J);have c5:Below w.heap.size w w4:=(a2.alloc (by omega) _).grown D (by simp;omega) (fun a I=>(X.lt a I).1);go_wp2_with fail;go_roundg (n/cW)
     case measure=>
      have:=HK.out;have:=Nat.div_lt_self (show 0<n by omega) (show 1<cW by decide);omega
     case rel=>
      refine⟨n/cW,b++[rn],rfl,?_,?_,?_,?_,?_,?_,aG (Nat.div_le_self _ _) b7,by rw[aY,List.length_singleton];omega,c5⟩
      ·exact World.ownsRow.kept (World.ownsRow.alloc o1 _) D (.inr (fun e=>ah g rfl e.symm))
      ·unfold OwnN;rw[OH,List.map_append,aY,p5];exact K
      ·intro a I e;have:g=a:=by simpa [Value.ownBlock] using I
       subst this;rcases J with h|h
       ·rw[h] at e;exact ah g rfl e
       ·rw[h] at e;simp at e;omega
      ·intro c hc;rcases List.mem_append.1 hc with h|h
       ·exact bw c h
       ·rw[List.mem_singleton] at h;subst h;exact dk
      ·unfold Hid;rw[OF,aY,List.length_singleton,cU,bh.out];have m:=Nat.div_add_mod n cW;have h2:=HX.out;generalize cW^b.length=Q at *;have h3:Q*n=Q*(cW*(n/cW)+n%cW):=by rw[m]
       rw[h2,h3];grind
      ·unfold Hid;by_cases h0:n/cW=0
       ·right;right;rw[List.getLast?_append];simp;have m:=Nat.div_add_mod n cW;have h2:=bh.out;rw[h0] at m;omega
       ·exact .inl h0
