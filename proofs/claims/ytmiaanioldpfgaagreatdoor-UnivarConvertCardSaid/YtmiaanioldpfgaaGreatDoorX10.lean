/- Laws. -/
import Derived.Test.YtmiaanioldpfgaaGreatDoorX09
set_option linter.all false
set_option maxHeartbeats 8000000
set_option maxRecDepth 99999
namespace Go.Proofs.YtmiaanioldpfgaaGreatDoor
open Go.RowKit Sos Tryz
variable{B c g i j k n:Nat}{w w':World}{a b v:Value}{bs l:List UInt8}{t:TypeId}{cs:List Nat}
def TxtAt(w:World)(B:Nat)(v:Value)(bs:List UInt8):Prop:=w.ownsRow B 5 1 v bs.length (Lib.byteCells bs)
def GlobB(B:Nat)(w:World):Prop:=∀w',Below B w w'->Glob w'
def GlobB.on(h:GlobB B w)(b:Below B w w'):GlobB B w':=fun c a=>h c (b.trans a)
def GlobB.here(h:GlobB B w):Glob w:=h w (aG _ _)
def Glob.globB(h:Glob w):GlobB w.1.size w:=fun _ a=>h.be a
def TxtAt.lt(h:TxtAt w B v bs):∀g,v.ownBlock=some g->B<=g∧g<w.1.size:=World.ownsRow.lt h
def TxtAt.be(h:TxtAt w B v bs)(a:Below w.1.size w w'):TxtAt w' B v bs:=by
 refine World.ownsRow.kept h (rL a none) ?_;cases v.ownBlock with
 |none=>exact .inl rfl
 |some g=>exact .inr (by simp)
def TxtAt.slice(h:TxtAt w B v bs):∃A c,v= .slice A bs.length c:=by
 rcases h.2 with ⟨rfl,e⟩|⟨g,a,b,rfl,_⟩
 ·exact⟨none,0,by rw[e]⟩
 ·exact⟨_,a,rfl⟩
def IF(a b:List UInt8):Lib.byteCells (a++b)=Lib.byteCells a++Lib.byteCells b:=by simp[Lib.byteCells]
def IG(l:List UInt8):∀u∈Lib.byteCells l,u.oneCell'=true:=by
 intro u a;simp only[Lib.byteCells,List.mem_map] at a;obtain⟨b,_,rfl⟩:=a;rfl
def nF:(Tryz.prog.info? 5).map (fun i=>(i.zero,i.size,i.bytes))=some (some (.int .u8 0),1,1):=by kernel_rfl
def dL:Nat:=10000000000000000000
def ezM:dL=10^19:=by decide
def TE:dL<BN:=by decide
def fR(cs:List Nat):Nat:=cs.foldr (fun c a=>c+dL*a) 0
def TF(cs:List Nat)(c:Nat):fR (cs++[c])=fR cs+dL^cs.length*c:=by
 induction cs with
 |nil=>simp[fR]
 |cons d cs e=>
  have a:fR (d :: (cs++[c]))=d+dL*fR (cs++[c]):=rfl;have b:fR (d :: cs)=d+dL*fR cs:=rfl;rw[bz4,a,b,e,eG,dH];grind
def TG(cs:List Nat)(i:Nat)(h:i<cs.length):fR (cs.drop i)=cs.getD i 0+dL*fR (cs.drop (i+1)):=by
 rw[j5 h];show cs[i]+dL*fR (cs.drop (i+1))=_
 simp[aR h]
def mR(cs:List Nat):List Int:=cs.map (fun (c:Nat)=>(c:Int))
def rV(cs:List Nat):(mR cs).length=cs.length:=by simp[mR]
def TH(cs:List Nat)(c:Nat):mR (cs++[c])=mR cs++[(c:Int)]:=by simp[mR]
def TI(cs:List Nat)(i:Nat):(mR cs).getD i 0=((cs.getD i 0:Nat):Int):=by
 simp only[mR,eF,iK];cases cs[i]? <;>rfl
def IH{x:Nat}(h:dL^k<=x):k<=2*nl x:=by
 rcases dE (2*nl x) k with a|a
 ·exfalso;have c:=cyD x;have b:BN^nl x<=(dL^2)^nl x:=aqN (by decide) _;rw[<-azL] at b;have d:dL^(2*nl x)<=dL^k:=fT (by decide) (by omega);omega
 ·exact a
def II(g:Nat):∀(vs:List Value) (o:Nat) (w:World),w.grownBy (w.setCells g o vs) (some g)
 |[],_,w=>World.grownBy.refl w _
 |v :: r,o,w=>AI (nV (w:=w) ⟨g,o,none⟩ v) (II g r (o+1) _)
def Shape.setCells{g n:Nat}{t:TypeId}(b:Nat):∀(vs:List Value) (o:Nat) (w:World),Shape w g t n->Shape (w.setCells b o vs) g t n
 |[],_,_,h=>h
 |v :: r,o,w,h=>Shape.setCells b r (o+1) _ (h.set ⟨b,o,none⟩ v)
def Shape.isSome(h:Shape w g t n)(c:j<n):(w.cell? ⟨g,j,none⟩).isSome=true:=by
 obtain⟨a,b,hn⟩:=h;rw[cell_of_row w g j a _ (0,0) b];simp;omega
def Shape.be(h:Shape w g t n)(a:Below B w w')(b:g<B):Shape w' g t n:=h.ke (a.block g b)
def TJ(a:Nat)(w:World)(t:TypeId)(g:Shape w a t 20)(l:List UInt8)(q:l.length<=20):
  Apps w (.slice (some ⟨a,0,none⟩) 0 20) l (fun o w'=>o= .slice (some ⟨a,0,none⟩) l.length 20∧VC w' a 0 (Lib.byteCells l)∧w.grownBy w' (some a)∧Shape w' a t 20):=by
 refine fqJ _ _ _ _ ?_;intro d n x e m;obtain⟨i,h,r,k,p⟩:=info_parts nF;have c:=g.be e g.lt
 have f:=run_append_room_src (P:=prog) d 137 n 137 5 i underlying137 h a 0 0 20 x l.length (Lib.byteCells l) (by rw[k];exact m) (by omega)
  (fun j b=>by rw[Lib.byteCells_length] at b;rw[show 0+0*i.size+j=j by omega];exact c.isSome (by omega)) (fun j _=>c.soft.free _)
 rw[show 0+0*i.size=0 by omega,bA] at f;refine⟨_,_,f,rfl,?_,AI (rL e _) (II a _ 0 d),Shape.setCells a _ 0 d c⟩;intro j v hv;have b:j<(Lib.byteCells l).length:=(List.getElem?_eq_some_iff.1 hv).1;have:=World.cell?_setCells_in a (Lib.byteCells l) 0 d (fun j b=>by rw[Lib.byteCells_length] at b;rw[bA];exact c.isSome (by omega)) j b;rw[this,<-hv,aR b]
def TK{wd:Nat}(a:c≠0):List.replicate (max (Lib.decDigits c).length wd-(Lib.decDigits c).length) 48++Lib.decDigits c=dJ wd c:=by
 unfold dJ;rw[if_neg a,if_neg a,Lib.decDigits_length];congr 2<;>omega
def dzK(a:c<dL):List.replicate (19-(Lib.decDigits c).length) 48++Lib.decDigits c=dJ 19 c:=by
 refine GY ((Digs.zeros _).append (oL c)) (by rw[pF,GW,mQ];omega) ?_;have b:Lib.nDigits c<=19:=rS (by rw[<-ezM];exact a) (by decide);rw[bN,dB,Lib.decDigits_length];split<;>omega
def TM{a H:Nat}(b:H≠0)(e:c<dL):dJ (a-19*(k+1)) H++dJ 19 c=dJ (a-19*k) (c+dL*H):=by
 have:=GZ (w:=a-19*k) (hi:=H) (lo:=c) (d:=19) (by rw[<-ezM];exact e) (.inl b);rw[show c+dL*H=H*10^19+c by rw[ezM];grind,this];congr 2<;>omega
def TN(n:Nat):Lib.nDigits n<=20*nl n+1:=by
 refine rS ?_ (by omega);have b:=cyD n;have a:BN^nl n<=(10^20)^nl n:=aqN (by decide) _;rw[<-azL] at a;have c:10^(20*nl n)<=10^(20*nl n+1):=fT (by decide) (by omega);omega
def IJ(w n:Nat):(dJ w n).length<=w+20*nl n+1:=by
 rw[cyI];have:=TN n;split<;>omega
def TO(i:Nat):fR (cs.drop i)<=fR cs:=by
 induction i generalizing cs with
 |zero=>exact aE
 |succ i a=>
  cases cs with
  |nil=>simp
  |cons c cs=>
   rw[bz6];have b:fR (c :: cs)=c+dL*fR cs:=rfl;have d:1*fR cs<=dL*fR cs:=dK _ (by decide);have:=a (cs:=cs);omega
def fqI(h:cs.getLast?≠some 0)(hi:i<cs.length):fR (cs.drop i)≠0:=by
 induction cs generalizing i with
 |nil=>simp at hi
 |cons c cs a=>
  cases i with
  |succ i=>
   rw[bz6];cases cs with
   |nil=>simp at hi
   |cons d cs=>exact a (by simpa using h) (by simpa using hi)
  |zero=>
   have b:fR (c :: cs)=c+dL*fR cs:=rfl;rw[azZ,b];cases cs with
   |nil=>
    simp at h;simp[fR];exact h
   |cons d cs=>
    have:=a (i:=0) (by simpa using h) (by simp);rw[azZ] at this;have e:0<dL*fR (d :: cs):=aqZ (by decide) (by omega);omega
def TxtAt.more{o:Obj}(j:w'.ownsRow B 5 1 b (bs.length+l.length) (Lib.byteCells bs++Lib.byteCells l))(a:(w.alloc o).grownBy w' v.ownBlock)(c:b.ownBlock=v.ownBlock∨b.ownBlock=some (w.alloc o).1.size):
  TxtAt w' B b (bs++l)∧TxtTo w v w' b:=by
 refine⟨by unfold TxtAt;rw[IF,bN];exact j,⟨a.os,a.tape,a.output,aH (by simp) a.size,fun i d f=>(a.block i (by simp;omega) f).trans (Below.heap_alloc w o i d)⟩,fun g e=> ?_⟩;rcases c with h|h
 ·left;rw[<-h];exact e
 ·right;rw[h] at e;simp at e;omega
def TxtAt.more'(d:w'.ownsRow B 5 1 a (bs.length+l.length) (Lib.byteCells bs++Lib.byteCells l))(c:w.grownBy w' v.ownBlock)(b:a.ownBlock=v.ownBlock∨a.ownBlock=some w.1.size):
  TxtAt w' B a (bs++l)∧TxtTo w v w' a:=by
 refine⟨by unfold TxtAt;rw[IF,bN];exact d,c,fun g e=> ?_⟩;rcases b with h|h
 ·left;rw[<-h];exact e
 ·right;rw[h] at e;simp at e;omega
def TxtTo.beside{d:Value}{zs:List Int}(h:TxtTo w a w' b)(k:OwnN w B d zs)(l:Shape w c t n)(j:Apart a d)(i:a.ownBlock≠some c):
  OwnN w' B d zs∧Shape w' c t n∧Apart b d∧b.ownBlock≠some c:=by
 refine⟨k.grown h.1 j,l.grown h.1 i,h.apart j (fun g e=>(k.lt g e).2),fun e=> ?_⟩;rcases h.2 c e with f|f
 ·exact i f
 ·have:=l.lt;omega
def IK(w:World)(B b:Nat)(d c:Value)(bs:List UInt8)(cs:List Nat)(e k:Nat)(p f:Value)(wr:World):Prop:=
 ∃a,((k=cs.length∧f= .bool true∧a=bs)∨(k<cs.length∧f= .bool false∧a=bs++dJ (e-19*k) (fR (cs.drop k))))∧TxtAt wr B p a∧TxtTo w d wr p∧OwnN wr w.1.size c (mR cs)∧Shape wr b 246 20∧
  Apart p c∧p.ownBlock≠some b∧k<=cs.length
def dzL(B:Nat)(tv:Value)(bs:List UInt8)(x o:Nat)(vx:Value)(w:World)(hG:GlobB B w)(hB:B<=w.1.size)(ht:TxtAt w B tv bs)(hx:NatAt w vx x)(d7:nl x<=1099511627776)(d4:o<=17592186044416)(dq:bs.length<=17592186044416):
  Calls prog 187 #[tv,vx,.int .i64 o] w fun e w'=>∃v,e= .returned v∧TxtAt w' B v (bs++dJ o x)∧TxtTo w tv w' v:=by
 go_enter func187,ntmps187;go_wp2_with fail;refine(qH x _ _ hx (by unfold aJ;omega)).mono ?_;rintro e w1 ⟨vw,rfl,cl,bq⟩;go_wp2_with fail;go_loopg [7,8] x (fun k p q wr=>∃(n:Nat) (b:List Nat),Hid (n=k)∧OwnN wr w.1.size p (dg n)∧OwnN wr w.1.size q (mR b)∧Apart p q∧(∀c∈b,c<dL)∧Hid (x=fR b+dL^b.length*n)∧Hid (n≠0∨b=[]∨b.getLast?≠some 0)∧n<=x∧b.length<=2*nl x+1∧Below w.1.size w wr)
 case atStart=>
  exact⟨x,[],rfl,cl,OwnN.nil _ _,(fun g _ h=>by cases h),(fun c hc=>by cases hc),(by simp[Hid,fR]),Or.inr (Or.inl rfl),aE,dC _,bq⟩
 case round=>
  obtain⟨n,b,HK,hp,hq,ah,bw,HX,HZ,b7,dv,ap⟩:=hrel;clear cl bq;have d3:=cK b7;by_cases b4:n=0
  ·subst b4;have al:=HX.out;rw[azP,gQ] at al;have cn:b=[]∨b.getLast?≠some 0:=by rcases HZ.out with h|h;exact absurd rfl h;exact h
   have ay:=aB al;have bi:=aB cn;clear al cn HX HZ HK;obtain⟨Aw,cw,b9⟩:=hp.slice;rw[aK,dO] at b9;subst b9;obtain⟨Z,S,ak⟩:=hq.slice;rw[rV] at ak;subst ak;have d5:=ap.size;have a7:=hq.lt;obtain⟨C,az⟩:∃C,C=wr.1.size:=⟨_,rfl⟩;have c6:w.1.size<=C:=by omega
   have c8:∀a,(Value.slice Z b.length S).ownBlock=some a->a≠C:=fun a I=>by have:=(a7 a I).2;omega
   have au:=ht.lt;have cb:IK w B C tv (.slice Z b.length S) bs b o b.length tv (.bool true) (wr.alloc (.cells (Array.replicate 20 (Value.int .u8 0)) 246)):=by
    have br:=ap.alloc ap.size (.cells (Array.replicate 20 (Value.int .u8 0)) 246);refine⟨bs,.inl ⟨rfl,rfl,rfl⟩,ht.be br,TxtTo.be br,World.ownsRow.alloc hq _,⟨_,by rw[az];exact heap_alloc_new wr _,by simp⟩,?_,?_,aE⟩
    ·intro a I e;have:=(au a I).2;have:=(a7 a e).1;omega
    ·intro e;have:=(au _ e).2;omega
   have cy:=aB au;clear hp hq ah a7 au ht;go_wp2_with fail;rw[<-az] at *;clear az;go_loopg [0,12,13] b.length (fun k p f i wr=>i= .int .i64 ((k:Int)-1)∧IK w B C tv (.slice Z b.length S) bs b o k p f wr)
   case atStart=>exact⟨rfl,cb⟩
   case round=>
    obtain⟨rfl,c0,bt,av,af,X,M,bo,aj,d1⟩:=hrel;clear cb;cases gk with
    |zero=>
     have b2:((0:Nat):Int)-1= -1:=by omega
     simp only[b2];clear b2;rcases bt with ⟨P,rfl,a0⟩|⟨P,rfl,rfl⟩
     ·have a1:=a0.symm;subst a1;have bx:b=[]:=bX P.symm;have al:x=0:=by rw[ay.out,bx];rfl
      subst al;have c1:B<=wr.1.size:=aH hB af.1.size;clear X bx P;go_wp2_with fail;generalize u0=tx at *;go_loopg [0,82] o (fun N p i F=>∃j,Hid (j+N=o)∧i= .int .i64 j∧TxtAt F B p (bs++List.replicate j 48)∧TxtTo wr tx F p)
      case atStart=>exact⟨0,by unfold Hid;omega,rfl,by simpa using av,TxtTo.refl _ _⟩
      case round=>
       obtain⟨j,A,rfl,ad,z⟩:=hrel;have b3:j<=o:=by have:=A.out;omega
       have s:(bs++List.replicate j (48:UInt8)).length=bs.length+j:=by rw[bN,dB]
       have an:B<=wr.1.size:=aH c1 z.1.size;cases gk with
       |succ N=>
        have hj:(j:Int)<o:=by have:=A.out;omega
        have Y:wr.ownsRow B 5 1 u0 (bs.length+j) (Lib.byteCells (bs++List.replicate j 48)):=by
         have:=ad;unfold TxtAt at this;rw[s] at this;exact this
        have R:=aB s;clear s;go_wp2_with (at_builtin;refine gM rfl rfl 5 _ 1 1 underlying137 nF rfl (by decide) B u0 (bs.length+j) _ rfl (Y.alloc _) [Value.int .u8 48] rfl (by simp) (F9 _ _ _) (by simp[Value.oneCell']) (by omega) (by omega) (by simp;omega) ?_;intro q1 w6 K D J);have u:=TxtAt.more (bs:=bs++List.replicate j 48) (l:=[48]) (by rw[R.out];exact K) D J;go_wp2;go_roundg N
        case measure=>omega
        case rel=>
         refine⟨j+1,by have:=A.out;unfold Hid;omega,by go_num,?_,z.trans u.2⟩;rw[aqW,<-eK];exact u.1
       |zero=>
        obtain rfl:j=o:=by have:=A.out;omega
        clear s;go_wp2;go_ret;exact⟨_,rfl,by rw[SO];exact ad,af.trans z⟩
     ·have dn:Hid (fR (b.drop 0)=x):=by unfold Hid;rw[ay.out];rfl
      go_wp2;go_ret;refine⟨_,rfl,?_,af⟩;have:=av;rw[azP,byA,dn.out] at this;exact this
    |succ k=>
     obtain⟨gc,rfl,dx, -, -,cd,bv⟩:=X.parts (by rw[rV];omega);have g1:=bv k (by rw[rV];omega);rw[bA,TI] at g1;have aq:b.getD k 0<dL:=bw _ (by rw[eF,aR (by omega)];exact aq0 _);have bf:=aB (TG b k (by omega));generalize bu:b.getD k 0=G at *;have ai:((k+1:Nat):Int)-1=(k:Int):=by omega
     simp only[ai];have b1:gc≠C:=c8 gc rfl;have a3:G<BN:=by8 aq TE;have bk:Below B w wr:=af.belowB hB (fun a I=>(cy.out a I).1);have bm:Glob wr.drew:=hG _ bk.drew;have bn:=TJ C wr.drew 246 M (Lib.decDigits G) (wT a3);have bp:=IN _ G wr.drew _ a3 bm bn;have de:gc<wr.drew.1.size:=cd.lt;have dy:(0:Int)<=(k:Int):=by omega
     have d0:(k:Int)<(b.length:Int):=by omega
     have dm:∀W,(Instr.sliceAt 246 (.pointer (some ⟨C,0,none⟩)) none (some (.int .i64 0)) none).run prog W= .ok (.slice (some ⟨C,0,none⟩) 0 20) W:=fun W=>by kernel_rfl
     have ct:=aB bu;have hL:=wT a3;have bg:=aB (fun (hc:G≠0) (wd:Nat)=>TK (wd:=wd) hc);have aw:=aB (dzK aq);have c3:1<=(Lib.decDigits G).length:=by rw[Lib.decDigits_length];exact Lib.nDigits_pos G
     clear ai bn bu bv bk bm;generalize Lib.decDigits G=T at *;go_wp2_with fail
     go_region_held3 (fun w'=>w'.cell? ⟨gc,k,none⟩=some (.int .u64 G)) (first|go_keep|(exact(World.cell?_of_block (a:=⟨gc,k,none⟩) (O.block gc de (fun e=>b1 (by injection e)))).trans g1)) (first
      |(go_at_call 158;refine bp.mono ?_;rintro e5 w5 ⟨v5,rfl,rfl,ck,O,ar⟩))
     clear bp dm;have cj:TxtAt w5 B u0 c0:=World.ownsRow.kept (w:=wr.drew) av O (.inr aj);have b8:OwnN w5 w.1.size (.slice (some ⟨gc,0,none⟩) b.length S) (mR b):=OwnN.grown (w:=wr.drew) X O (fun g e=>by injection e with e;subst e;intro e2;exact b1 (by simpa [Value.ownBlock] using e2));have ci:TxtTo w tv w5 u0:=af.step (w1:=wr) ⟨O.os,O.tape,O.output,O.size,O.block⟩ c6;have bj:B<=w5.1.size:=aH hB (aH af.1.size O.size);obtain⟨L,ag⟩:∃L,Hid (T.length=L):=⟨_,rfl⟩;simp only[ag.out] at hL c3 bg aw⊢;clear av X af O g1 M cd;rcases bt with ⟨P,rfl,a0⟩|⟨P,rfl,rfl⟩
     ·have a1:=a0.symm;subst a1;obtain⟨E,cg,ab⟩:∃E:Nat,max (L:Int) ((o:Int)-19*(k:Int))=(E:Int)∧Hid (E=max L (o-19*k)):=⟨max L (o-19*k),by omega,rfl⟩;have c9:G≠0:=by
       have m:=bi.out;rcases m with m|m
       ·rw[m] at P;simp at P
       ·rw[<-ct.out];intro e;apply m;rw[byO,show b.length-1=k by omega,aR (by omega)];rw[eF,aR (by omega)] at e;simpa using e
      have cv:Hid (fR (b.drop k)=G):=by
       unfold Hid;rw[bf.out,gO (by omega)];simp[fR]
      have c4:L<=E:=by have:=ab.out;omega
      obtain⟨d,dc,HD⟩:∃d:Nat,(E:Int)-(L:Int)=(d:Int)∧Hid (d=E-L):=⟨E-L,by omega,rfl⟩;have a4:d<=17592186044436:=by have:=HD.out;have:=ab.out;omega
      go_wp2_with fail;generalize u0=tx at *;go_loopg [0,71] d (fun N p i F=>∃j,Hid (j+N=d)∧i= .int .i64 j∧TxtAt F B p (bs++List.replicate j 48)∧TxtTo w5 tx F p)
      case atStart=>exact⟨0,by unfold Hid;omega,rfl,by simpa using cj,TxtTo.refl _ _⟩
      case round=>
       obtain⟨j,A,rfl,ad,z⟩:=hrel;have b3:j<=d:=by have:=A.out;omega
       have s:(bs++List.replicate j (48:UInt8)).length=bs.length+j:=by rw[bN,dB]
       have an:B<=wr.1.size:=aH bj z.1.size;cases gk with
       |succ N=>
        have hj:(j:Int)<d:=by have:=A.out;omega
        have Y:wr.ownsRow B 5 1 u0 (bs.length+j) (Lib.byteCells (bs++List.replicate j 48)):=by
         have:=ad;unfold TxtAt at this;rw[s] at this;exact this
        have R:=aB s;clear s;go_wp2_with (at_builtin;refine gM rfl rfl 5 _ 1 1 underlying137 nF rfl (by decide) B u0 (bs.length+j) _ rfl (Y.alloc _) [Value.int .u8 48] rfl (by simp) (F9 _ _ _) (by simp[Value.oneCell']) (by omega) (by omega) (by simp;omega) ?_;intro q1 w6 K D J);have u:=TxtAt.more (bs:=bs++List.replicate j 48) (l:=[48]) (by rw[R.out];exact K) D J;go_wp2;go_roundg N
        case measure=>omega
        case rel=>
         refine⟨j+1,by have:=A.out;unfold Hid;omega,by go_num,?_,z.trans u.2⟩;rw[aqW,<-eK];exact u.1
       |zero=>
        obtain rfl:j=d:=by have:=A.out;omega
        have U:=z.beside b8 ar bo aj;have bc:=ck.grown z.1 ar.lt aj;have Y:wr.ownsRow B 5 1 u0 (bs.length+j) (Lib.byteCells (bs++List.replicate j 48)):=by
         have:=ad;unfold TxtAt at this;rw[s] at this;exact this
        have R:=aB s;clear s;have a9:Src wr (some ⟨C,0,none⟩) (Lib.byteCells T):= .inr ⟨C,0,rfl,bc⟩;go_wp2_with (at_builtin;refine gM rfl rfl 5 _ 1 1 underlying137 nF rfl (by decide) B u0 (bs.length+j) _ rfl Y (Lib.byteCells T) rfl (by rw[Lib.byteCells_length,ag.out,az9]) a9 (IG T) (by omega) (by omega) an ?_;intro q1 w6 K D J);have u:=TxtAt.more' (bs:=bs++List.replicate j 48) (l:=T) (by rw[R.out,ag.out];exact K) D J;have V:=u.2.beside U.1 U.2.1 U.2.2.1 U.2.2.2;have ba:=(ci.trans z).trans u.2;go_wp2;go_roundg k
        case measure=>omega
        case rel=>
         refine⟨rfl,_,.inr ⟨by omega,rfl,rfl⟩,?_,ba,V.1,V.2.1,V.2.2.1,V.2.2.2,by omega⟩;have:=u.1;rw[HD.out] at this;rw[ab.out,eK,bg.out c9] at this;rw[cv.out];exact this
     ·obtain⟨E,cg,ab⟩:∃E:Nat,(19:Int)=(E:Int)∧Hid (E=19):=⟨19,rfl,rfl⟩;have hH:fR (b.drop (k+1))≠0:=by
       rcases bi.out with m|m
       ·rw[m] at P;simp at P
       ·exact fqI m P
      have c2:fR (b.drop (k+1))<=x:=by rw[ay.out];exact TO _
      have dp:L<=19:=by
       have m:=congrArg List.length aw.out;have h2:Lib.nDigits G<=19:=rS (by rw[<-ezM];exact aq) (by decide);rw[cyI,bN,dB,ag.out] at m;split at m<;>omega
      generalize fR (b.drop (k+1))=H at *;obtain⟨bl,cr,dr⟩:∃bl,Hid ((bs++dJ (o-19*(k+1)) H).length=bl)∧bl<=57174604644353:=by
       refine⟨_,rfl,?_⟩;have m:=IJ (o-19*(k+1)) H;have h2:=cK c2;rw[bN];omega
      clear cg ab;clear E;have ab:Hid ((19:Nat)=19):=rfl;have c4:L<=19:=by have:=ab.out;omega
      obtain⟨d,dc,HD⟩:∃d:Nat,(19:Int)-(L:Int)=(d:Int)∧Hid (d=19-L):=⟨19-L,by omega,rfl⟩;have a4:d<=17592186044436:=by have:=HD.out;have:=ab.out;omega
      go_wp2_with fail;generalize u0=tx at *;go_loopg [0,71] d (fun N p i F=>∃j,Hid (j+N=d)∧i= .int .i64 j∧TxtAt F B p ((bs++dJ (o-19*(k+1)) H)++List.replicate j 48)∧TxtTo w5 tx F p)
      case atStart=>exact⟨0,by unfold Hid;omega,rfl,by simpa using cj,TxtTo.refl _ _⟩
      case round=>
       obtain⟨j,A,rfl,ad,z⟩:=hrel;have b3:j<=d:=by have:=A.out;omega
       have s:((bs++dJ (o-19*(k+1)) H)++List.replicate j (48:UInt8)).length=bl+j:=by rw[bN,dB,cr.out]
       have an:B<=wr.1.size:=aH bj z.1.size;cases gk with
       |succ N=>
        have hj:(j:Int)<d:=by have:=A.out;omega
        have Y:wr.ownsRow B 5 1 u0 (bl+j) (Lib.byteCells ((bs++dJ (o-19*(k+1)) H)++List.replicate j 48)):=by
         have:=ad;unfold TxtAt at this;rw[s] at this;exact this
        have R:=aB s;clear s;go_wp2_with (at_builtin;refine gM rfl rfl 5 _ 1 1 underlying137 nF rfl (by decide) B u0 (bl+j) _ rfl (Y.alloc _) [Value.int .u8 48] rfl (by simp) (F9 _ _ _) (by simp[Value.oneCell']) (by omega) (by omega) (by simp;omega) ?_;intro q1 w6 K D J);have u:=TxtAt.more (bs:=(bs++dJ (o-19*(k+1)) H)++List.replicate j 48) (l:=[48]) (by rw[R.out];exact K) D J;go_wp2;go_roundg N
        case measure=>omega
        case rel=>
         refine⟨j+1,by have:=A.out;unfold Hid;omega,by go_num,?_,z.trans u.2⟩;rw[aqW,<-eK];exact u.1
       |zero=>
        obtain rfl:j=d:=by have:=A.out;omega
        have U:=z.beside b8 ar bo aj;have bc:=ck.grown z.1 ar.lt aj;have Y:wr.ownsRow B 5 1 u0 (bl+j) (Lib.byteCells ((bs++dJ (o-19*(k+1)) H)++List.replicate j 48)):=by
         have:=ad;unfold TxtAt at this;rw[s] at this;exact this
        have R:=aB s;clear s;have a9:Src wr (some ⟨C,0,none⟩) (Lib.byteCells T):= .inr ⟨C,0,rfl,bc⟩;go_wp2_with (at_builtin;refine gM rfl rfl 5 _ 1 1 underlying137 nF rfl (by decide) B u0 (bl+j) _ rfl Y (Lib.byteCells T) rfl (by rw[Lib.byteCells_length,ag.out,az9]) a9 (IG T) (by omega) (by omega) an ?_;intro q1 w6 K D J);have u:=TxtAt.more' (bs:=(bs++dJ (o-19*(k+1)) H)++List.replicate j 48) (l:=T) (by rw[R.out,ag.out];exact K) D J;have V:=u.2.beside U.1 U.2.1 U.2.2.1 U.2.2.2;have ba:=(ci.trans z).trans u.2;go_wp2;go_roundg k
        case measure=>omega
        case rel=>
         refine⟨rfl,_,.inr ⟨by omega,rfl,rfl⟩,?_,ba,V.1,V.2.1,V.2.2.1,V.2.2.2,by omega⟩;have:=u.1;rw[HD.out] at this;rw[eK,aw.out,eK,TM hH aq] at this;rw[bf.out];exact this
  ·have b5:=gS b4;obtain⟨g,am,rfl,b0,b6,da,M,ae⟩:=hp.at_ (by rw[aK];exact b5);simp only[aK] at hp b6 ah⊢;have i1:(0:Int)<(nl n:Int):=by omega
   have du:b.length<=2*nl x:=by
    refine IH ?_;have m:=HX.out;have h2:dL^b.length*1<=dL^b.length*n:=eV _ (by omega);omega
   obtain⟨Z,S,ak⟩:=hq.slice;rw[rV] at ak;subst ak;have dt:decide (0<nl n)=true:=by simpa using b5
   go_wp2_with fail
   go_loopg [9,10] (nl n) (fun k t i F=>∃(r:Int) (zs:List Int),i= .int .i64 ((k:Int)-1)∧t= .int .u64 r∧k<=nl n∧0<=r∧r<10000000000000000000∧Hid (zs.length=nl n)∧InR aA zs∧Hid (zs.take k=(dg n).take k)∧Hid (aF aA (zs.drop k)*10000000000000000000+r=aF aA ((dg n).drop k))∧
    OwnN F w.1.size (.slice (some ⟨g,0,none⟩) (nl n) am) zs∧OwnN F w.1.size (.slice Z b.length S) (mR b)∧Below w.1.size w F)
   case atStart=>
    refine⟨0,dg n,rfl,rfl,aE,by decide,by decide,aK n,cI n,rfl,?_,hp,hq,ap⟩;unfold Hid;rw[gO (by rw[aK];exact aE)];simp
   case round=>
    obtain⟨r,zs,rfl,rfl,d2,a8,ca,ac,hz,ax,HV,ho,X,a2⟩:=hrel;clear hp hq ae M;cases gk with
    |succ k=>
     have HO:=aB ho;obtain⟨g',eg, -, -, -,M,ae⟩:=ho.parts (by rw[ac.out];omega);simp only[Option.some.injEq,Addr.mk.injEq] at eg;obtain⟨rfl, -, -⟩:=eg;have g1:=ae k (by rw[ac.out];omega);have co:zs.getD k 0=(dg n).getD k 0:=by
      have m:=congrArg (fun l=>l.getD k (0:Int)) ax.out;simp only[eF,fC,if_pos (aqC k)] at m;simpa [eF] using m
     rw[bA,co] at g1;have cm:=(cI n).getD aQ k;have ce:=fun q r' h=>GK (zs:=zs) (xs:=dg n) (j:=k) (q:=q) (r':=r') (y:=10000000000000000000) (by rw[aK];omega) (by rw[ac.out];omega) h HV.out;have a6:g<wr.1.size:=M.lt;generalize (dg n).getD k 0=xd at *;have cx:=aB ce;have ai:((k+1:Nat):Int)-1=(k:Int):=by omega
     simp only[ai];have HQ:=aB X;clear ce ae co ai ho X;go_wp2_with fail;refine(wJ r xd 10000000000000000000 a8 ca cm.1 cm.2 (by decide) _).mono ?_;rintro e w2 ⟨q,r',rfl,db,a4,di,dj,bz,nd,rfl⟩;have ao:Below wr.1.size wr (wr.drewN nd):=kI (aG _ _) _;have c7:Below w.1.size w (wr.drewN nd):=kI a2 _;generalize wr.drewN nd=w2 at *;have cu:=aB bz;clear bz;have g3:w2.cell? ⟨g,k,none⟩=_:=(ao.cell (p:=⟨g,k,none⟩) a6).trans g1;have dl:=M.soft.be ao a6;have dw:=fun j=>dl.free j;clear g1;have dh:∀a,(Value.slice Z b.length S).ownBlock=some a->a≠g:=fun a I e=>ah g rfl (by rw[<-e];exact I);go_wp2;go_roundg k
     case measure=>omega
     case rel=>
      refine⟨r',zs.set k q,rfl,rfl,by omega,di,dj,?_,hz.set db a4 k,?_,cx.out q r' cu.out,(HO.out.be ao).set (by rw[ac.out];omega) q,?_,c7.setCell (by simpa using b0) _⟩
      ·unfold Hid;rw[eM];exact ac.out
      ·unfold Hid;rw[List.take_set_of_le aE];have m:=congrArg (List.take k) ax.out;rw[List.take_take,List.take_take,y8 (by omega)] at m;exact m
      ·refine World.ownsRow.kept (HQ.out.be ao) (nV (w:=w2) ⟨g,k,none⟩ _) (.inr (fun e=>dh g e rfl))
    |zero=>
     have hv:=HV.out;simp only[azZ,cU] at hv;have a5:=wI hv a8 ca;obtain⟨rn,rfl⟩:=j7 a8;have cc:rn=n%dL:=by
      have:=a5.2;have e:((n%dL:Nat):Int)=(n:Int)%10000000000000000000:=by push_cast;rfl
      omega
     have cp:aF aA zs=((n/dL:Nat):Int):=by rw[a5.1];push_cast;rfl
     have dk:rn<dL:=by unfold dL;omega
     obtain⟨g',eg, -, -, -,M,ae⟩:=ho.parts (by rw[ac.out];omega);simp only[Option.some.injEq,Addr.mk.injEq] at eg;obtain⟨rfl, -, -⟩:=eg;have cz:=aB cp;have bh:=aB cc;clear hv a5 cp cc HV ax;go_wp2_with fail;refine(gC _ zs (nl n) am _ ac.out (Rd.mk M.lt ae) b6 (by omega)).mono ?_;rintro e w3 ⟨rfl,rfl⟩;have k1:=oE hz cz.out;have r1:Cells .u64 wr g 0 (dg (n/dL)):=by rw[<-k1,(qI zs).1];exact ae.take _
     have l1:(dg (n/dL)).length<=am:=by rw[<-k1];have:=oF zs;have:=ac.out;omega
     have o1:OwnN wr w.1.size (.slice (some ⟨g,0,none⟩) (trimL zs).length am) (dg (n/dL)):=by rw[k1];exact OwnN.of M r1 b0 l1 da
     clear k1 r1 l1;have df:wr.ownsRow w.1.size 143 1 (.slice Z b.length S) b.length ((mR b).map (Value.int .u64)):=by
      have:=X;unfold OwnN at this;rw[rV] at this;exact this
     have d6:=a2.size;have a6:=M.lt;generalize (trimL zs).length=tl at *;go_wp2_with (at_builtin;refine gM rfl rfl 143 _ 1 8 underlying75 gZ rfl (by decide) w.1.size (.slice Z b.length S) b.length _ rfl (df.alloc _) [Value.int .u64 rn] rfl (by simp) (F9 _ _ _) (by simp[Value.oneCell']) (by omega) (by omega) (by simp;omega) ?_;intro q1 w4 K D J);have c5:Below w.1.size w w4:=(a2.alloc (by omega) _).grown D (by simp;omega) (fun a I=>(X.lt a I).1);go_wp2;go_roundg (n/dL)
     case measure=>
      have:=HK.out;have:=by6 (show 0<n by omega) (show 1<dL by decide);omega
     case rel=>
      refine⟨n/dL,b++[rn],rfl,?_,?_,?_,?_,?_,?_,aH (azK _ _) b7,by rw[bN,iJ];omega,c5⟩
      ·exact World.ownsRow.kept (World.ownsRow.alloc o1 _) D (.inr (fun e=>ah g rfl e.symm))
      ·unfold OwnN;rw[TH,aq7,bN,rV];exact K
      ·intro a I e;have:g=a:=by simpa [Value.ownBlock] using I
       subst this;rcases J with h|h
       ·rw[h] at e;exact ah g rfl e
       ·rw[h] at e;simp at e;omega
      ·intro c hc;rcases List.mem_append.1 hc with h|h
       ·exact bw c h
       ·rw[by4] at h;subst h;exact dk
      ·unfold Hid;rw[TF,bN,iJ,dH,bh.out];have m:=iD n dL;have h2:=HX.out;generalize dL^b.length=Q at *;have h3:Q*n=Q*(dL*(n/dL)+n%dL):=by rw[m]
       rw[h2,h3];grind
      ·unfold Hid;by_cases h0:n/dL=0
       ·right;right;rw[bz7];simp;have m:=iD n dL;have h2:=bh.out;rw[h0] at m;omega
       ·exact .inl h0
