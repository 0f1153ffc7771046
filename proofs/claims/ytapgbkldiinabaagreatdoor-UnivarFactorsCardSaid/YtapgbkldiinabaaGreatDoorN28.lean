/- Laws. -/
import Derived.Test.YtapgbkldiinabaaGreatDoorRows
import Derived.Test.YtapgbkldiinabaaGreatDoorN27
import Derived.ProofKit
import Derived.LaidMore
import Derived.OpenShut
import Derived.Stop.Joined
import Derived.SliceStrings
import Derived.Lib.LaidTab
import Derived.Carry
set_option linter.all false
set_option maxHeartbeats 8000000
set_option maxRecDepth 99999
namespace Go.Proofs.YtapgbkldiinabaaGreatDoor
open Go.RowKit Sos Go.Proofs.Tryz
def bxA{w:World}{s d:Bool}{A a:Option Addr}{l c b c':Nat}{q:Rat}(h:NQ w (.agg #[.bool s,.slice A l c,.bool d,.slice a b c']) q):QsAt (w.alloc (.cells #[.bool s,.slice A l c,.bool d,.slice a b c'] 95)) (.slice (some ⟨w.heap.size,0,none⟩) 1 1) [q]:=by
 have g:Below w.heap.size w (w.alloc (.cells #[.bool s,.slice A l c,.bool d,.slice a b c'] 95)):=(aG _ _).alloc aE _
 have f:OwnQ (w.alloc (.cells #[.bool s,.slice A l c,.bool d,.slice a b c'] 95)) w.heap.size [q]:=
  ⟨[[.bool s,.slice A l c,.bool d,.slice a b c']],⟨Bx.new w [.bool s,.slice A l c,.bool d,.slice a b c'] 95,fun r j=>by rw[List.mem_singleton.1 j];rfl⟩,aE,fun i x e=>by
   cases i with
   |zero=>injection e with e;subst e;exact⟨s,A,l,c,d,a,b,c',rfl,h.be g⟩
   |succ i=>simp at e⟩
 exact f.nums 1 aE
def ZB(B:Nat)(w:List Int)(F:List Rat)(es:List (List Int)):Prop:=F=[1]∧es=[]∨∃r a g,RfO B r a g es∧DvW w r∧F=b6 r
def RfO.short{B:Nat}{r a g:List Int}{es:List (List Int)}(h:RfO B r a g es):es.length<r.length∧es≠[]:=by
 induction h with
 |last f j c d h i n=>exact⟨f,by simp⟩
 | @step r a g b m e es f j c d l h i k t o=>
  have p:=(RfO.step f j c d l h i k t).long;have q:=(K7 c.tr j.tr d.tr d.ne i).2 c.ne;exact⟨by rw[eG];omega,by simp⟩
def bqM{B:Nat}{O r:List Int}{es:List (List Int)}(h:ZB B O (b6 r) es)(he:es.length<=8)(D:DvW O r)(hN:∀p,DvW O p->(∀n∈p,nl n.natAbs+1<=B)∧p.length<=8)(h2:2<=B)(U:B<=10000000)(A:List Rat)(pA:Prp A r)(kA:∀q∈A,RL B q)(v:Value)(w:World)(hv:QsAt w v A):
  Calls prog 33 #[v] w (cy1 w (es.map b6)):=by
 obtain⟨A0,c0,rfl,az⟩:=hv.form;have aj:=fun W T=>DB A (.slice A0 A.length c0) W T B kA (by omega) (fun _=>pA.ne D.ne) (by have:=(hN _ D).2;have:=pA.1;omega) (by omega);rw[qT pA] at aj;have ak:∀W,Calls prog 57 #[.int .i64 1] W (eS W 1):=fun W=>r7 1 W (by decide);have Q:Hid (ZB B O (b6 r) es):=h;obtain⟨L,al⟩:∃L,es.map b6=L:=⟨_,rfl⟩;have K:Hid (([]:List (List Rat))++es.map b6=L):=al;rw[al];clear al;have P:Hid (([]:List (List Rat)).length+es.length<=8):=by show 0+es.length<=8;omega
 have HN:=aB hN;have ay:=fun W=>(RowsAt.nil QsAt W w.heap.size 54:QQs W w.heap.size 54 (.slice none 0 0) []);unfold C8 at aj;unfold cy1;generalize b6 r=F at *;clear h he D hN pA kA;go_enter func33,ntmps33;go_wp2_with fail;refine(aj _ hv).mono ?_;rintro e1 w1 ⟨v1,rfl,h1,c⟩;obtain⟨A1,c1,rfl,a0⟩:=h1.form;clear aj hv;go_wp2_with fail;go_loopg [3,4] es.length (fun k vo vf wr=>∃(F:List Rat) (es:List (List Int)) (s:List (List Rat)),Hid (es.length=k)∧QQs wr w.heap.size 54 vo s∧QsAt wr vf F∧Hid (ZB B O F es)∧Hid (s++es.map b6=L)∧Hid (s.length+es.length<=8)∧Below w.heap.size w wr)
 case atStart=>exact⟨F,es,[],rfl,ay _,h1,Q,K,P,c⟩
 case round=>
  clear ay h1 c Q K P a0 az;obtain⟨F,es,s,Hk,d,hF,Q,K,P,c⟩:=hrel;generalize wr=wy at *;obtain⟨AF,cF,rfl,a3⟩:=hF.form;obtain⟨Ao,co,rfl,a4⟩:=d.form;rcases Q.out with ⟨rfl,rfl⟩|⟨r,a,g,hR,D,rfl⟩
  ·have hE:s=L:=by have:=K.out;rwa [List.map_nil,fH] at this
   subst hE;go_wp2;go_ret;exact⟨_,rfl,d,c⟩
  ·obtain⟨G2,N1,e,E,rfl,c1,c2,C,ax⟩:=hR.round D HN.out h2 U;obtain⟨q1,Z,pa,N,hE,ha⟩:=hR.facts;obtain⟨da,dg⟩:=RfO.quoW D pa N ha;have M:=HN.out _ D;have bG:=HN.out _ dg;have kR:∀n∈r,nl n.natAbs<=B:=fun n hn=>by have:=M.1 n hn;omega
   have kG:∀n∈g,nl n.natAbs<=B:=fun n hn=>by have:=bG.1 n hn;omega
   have d1:=fun v W h=>bxB Z kR (by omega) M.2 U v W h;have d2:=fun v u W h T=>bxC Z hE M.1 h2 M.2 U v u W h T;have d3:=fun v u W h T=>bx1 Z pa N ha kR kG (by omega) M.2 U v u W h T;have d4:=fun v W h=>bxB N kG (by omega) bG.2 U v W h;have HX:Hid (ZB B O (b6 g) E):=by
    rcases ax with ⟨x,y⟩|⟨x,b,g2,y⟩
    ·exact .inl ⟨azX N x,y⟩
    ·exact .inr ⟨g,b,g2,y,x,rfl⟩
   have HG:Hid ((b6 g).length=g.length):=(uD N.tr).1;have q0:(1:Int)<((b6 r).length:Int):=by have:=(uD Z.tr).1;omega
   have av:Hid (s++[b6 e]++E.map b6=L):=by have:=K.out;rw[fM] at this;unfold Hid;rw[<-this];simp
   have au:Hid (E.length+1=_):=Hk;have ad:Hid (s.length+E.length+1<=8):=by have:=P.out;rw[eG] at this;unfold Hid;omega
   rw[<-HG.out] at C;unfold C8 at d1 d2 d4 c1;unfold yC at d3 c2 C;clear hR D da dg M bG kR kG Z pa N hE ha ax Q K P Hk HG q1;generalize fW (b6 r)=D1 at *;generalize fW (b6 g)=D2 at *;generalize b6 r=F at *;generalize b6 g=G at *;generalize b6 a=A1 at *;generalize b6 e=z at *;go_wp2_with fail;refine(d1 _ _ hF).mono ?_;rintro e2 w2 ⟨v2,rfl,aw,am⟩;replace hF:=hF.be am;replace d:=QQs.be d am;replace c:=aC c am;go_wp2_with fail;refine(d2 _ _ _ hF aw).mono ?_;rintro e3 w3 ⟨v3,rfl,f,an⟩;replace hF:=hF.be an;replace d:=QQs.be d an;replace c:=aC c an;go_wp2_with fail;refine(d3 _ _ _ hF f).mono ?_;rintro e4 w4 ⟨v4,u4,rfl,i, -,ao⟩;replace f:=f.be ao;replace d:=QQs.be d ao;replace c:=aC c ao;clear d1 d2 d3 hF aw;go_wp2_with fail;refine(d4 _ _ f).mono ?_;rintro e5 w5 ⟨v5,rfl,h5,ae⟩;replace f:=f.be ae;replace i:=i.be ae;replace d:=QQs.be d ae;replace c:=aC c ae;go_wp2_with fail;refine(c1 _ _ _ f h5).mono ?_;rintro e6 w6 ⟨v6,rfl,h6,af⟩;replace f:=f.be af;replace i:=i.be af;replace d:=QQs.be d af;replace c:=aC c af;go_wp2_with fail;refine(c2 _ _ _ f h6).mono ?_;rintro e7 w7 ⟨v7,u7,rfl,h7, -,ag⟩;replace f:=f.be ag;replace i:=i.be ag;replace d:=QQs.be d ag;replace c:=aC c ag;clear d4 c1 c2 h5 h6;obtain⟨A3,k3,rfl,a2⟩:=f.form;by_cases p:G.length<=1
   ·rw[if_pos p] at C;have q1:(G.length:Int)<=1:=by omega
    clear h7 p;unfold eS at ak;go_wp2_with fail;refine(ak _).mono ?_;rintro e8 w8 ⟨v8,rfl,h8,ah⟩;obtain⟨s5,A5,k5,c5,s6,A6,k6,c6,rfl⟩:=h8.form;replace f:=f.be ah;replace i:=i.be ah;replace d:=QQs.be d ah;replace c:=aC c ah;have ai:Below w8.heap.size w8 (w8.alloc (.cells #[.bool s5,.slice A5 k5 c5,.bool s6,.slice A6 k6 c6] 95)):=(aG _ _).alloc aE _;have hn:=bxA h8;replace f:=f.be ai;replace i:=i.be ai;replace d:=QQs.be d ai;replace c:=aC c ai;clear ak h8;go_wp2_with fail;refine(C _ _ _ i hn).mono ?_;rintro e9 j ⟨v9,u9,rfl,l, -,I⟩;replace f:=f.be I;replace d:=QQs.be d I;replace c:=aC c I;obtain⟨H,J,rfl,ap⟩:=l.form;have m:Below j.heap.size j (j.alloc (.cells #[.slice H z.length J] 54)):=(aG _ _).alloc aE _;have R:=Bx.new j [.slice H z.length J] 54;replace l:=l.be m;replace f:=f.be m;replace d:=QQs.be d m;have a1:w.heap.size<=j.heap.size:=c.size;replace c:=aC c m;have S:=R.cell 0 rfl;obtain⟨ac,o,X,Y⟩:=id d;have ar:ac.length<=8:=by have:=ad.out;omega
    clear C i ap;go_wp2_with (at_builtin;refine K4 rfl rfl 54 24 underlying64 ML w.heap.size _ ac rfl o j.heap.size (.slice H z.length J) rfl S ⟨_,_,_,rfl⟩ (by omega) (by unfold maxLen;omega) c.size ?_;intro v8 w8 V aq t);have zf:=QQs.push o X Y l V t;have zy:=f.grown o (by decide) t;have zz:=K5 c t o aE;clear d f l m R S V aq t o X Y ar c;go_roundg E.length
    case rel=>exact⟨G,E,s++[z],rfl,zf,zy,HX,av,(by have:=ad.out;unfold Hid;rw[cY,iJ];omega),zz⟩
    case measure=>have:=au.out;omega
   ·rw[if_neg p] at C;have q1:¬(G.length:Int)<=1:=by omega
    clear p ak;go_wp2_with fail;refine(C _ _ _ i h7).mono ?_;rintro e9 j ⟨v9,u9,rfl,l, -,I⟩;replace f:=f.be I;replace d:=QQs.be d I;replace c:=aC c I;obtain⟨H,J,rfl,ap⟩:=l.form;have m:Below j.heap.size j (j.alloc (.cells #[.slice H z.length J] 54)):=(aG _ _).alloc aE _;have R:=Bx.new j [.slice H z.length J] 54;replace l:=l.be m;replace f:=f.be m;replace d:=QQs.be d m;have a1:w.heap.size<=j.heap.size:=c.size;replace c:=aC c m;have S:=R.cell 0 rfl;obtain⟨ac,o,X,Y⟩:=id d;have ar:ac.length<=8:=by have:=ad.out;omega
    clear C i ap;go_wp2_with (at_builtin;refine K4 rfl rfl 54 24 underlying64 ML w.heap.size _ ac rfl o j.heap.size (.slice H z.length J) rfl S ⟨_,_,_,rfl⟩ (by omega) (by unfold maxLen;omega) c.size ?_;intro v8 w8 V aq t);have zf:=QQs.push o X Y l V t;have zy:=f.grown o (by decide) t;have zz:=K5 c t o aE;clear d f l m R S V aq t o X Y ar c;go_roundg E.length
    case rel=>exact⟨G,E,s++[z],rfl,zf,zy,HX,av,(by have:=ad.out;unfold Hid;rw[cY,iJ];omega),zz⟩
    case measure=>have:=au.out;omega
def DvW.refl{w:List Int}(h:Pp w):DvW w w:=⟨h.ne,h.tr,h.pr,aE,[1],fun i=>(CO _ i).symm⟩
def bqK{w:List Int}{a:Nat}(d:Pp w)(e:∀n∈w,nl n.natAbs<=a)(b:w.length<=8)(f:a<=10):∀p,DvW w p->(∀n∈p,nl n.natAbs+1<=1300000)∧p.length<=8:=fun p c=>
 ⟨fun n hn=>by have:=c.nums d.ne d.tr e b (by decide) n hn;omega,aH c.len b⟩
def bqL{B q:Nat}{w a j g Q:List Int}{es l:List (List Int)}(c:Pp w)(h:RfO q w a j es)(b:pO B w (bB w) g)(f:QuoOf w g Q)(v:Sqf B Q g l):l.map b6=es.map b6:=by
 obtain⟨E, -,F,G,k,y⟩:=h.facts;have n:=lZ w;have i:=lE c.tr;unfold pO at b;rw[if_neg (by omega),XC c.pr] at b;have z:bB w≠[]:=fun e=>by rw[e] at n;simp at n;omega
 have m:=XA b c.pr (.inr (xZ (nI i z)));have D:=P7 b c.tr (gV i);have d:Pp g:=⟨(fun e=>by rw[e] at m;cases m),D,m⟩;have r:DvE (aX g) (aT 1 j):=axV b (gV i) _ (P6 (JS k).1) (P6 (JS k).2);have s:DvE (aX j) (aT 1 g):=axV k (gV i) _ (P6 (JS b).1) (P6 (JS b).2);have o:=bxE d.ne d.tr r s;have A:Aso w w:=⟨1,by decide,fun x=>by rw[Rat.one_mul]⟩;have u:=azY A o d.ne d.tr (fun x=>pQ f.id_ x) (fun x=>pQ y x);have C:Q≠[]:=fun t=>by
  obtain⟨x,p⟩:=GA c.ne c.tr;rw[p3,pQ f.id_,t,DS,Rat.zero_mul] at p;exact p rfl
 exact bqX h ⟨C,f.trim,by2 c.pr f.id_⟩ d u o v
def RfO.all{B:Nat}{w r a g:List Int}{es:List (List Int)}(h:RfO B r a g es):DvW w r->∀e∈es,DvW w e:=by
 induction h with
 |last l p i j h c q=>intro b e d;rw[List.mem_singleton.1 d];exact(RfO.quoW b i j c).1
 |step l p i j o h c d t m=>
  intro b x f;obtain⟨k,dg⟩:=RfO.quoW b i j c;obtain⟨-, -,n, -⟩:=t.facts;rcases List.mem_cons.1 f with rfl|f
  ·exact(RfO.quoW k o n d).1
  ·exact m dg x f
end Go.Proofs.YtapgbkldiinabaaGreatDoor
namespace Go.Proofs.YtapgbkldiinabaaGreatDoor
open Sos
def bq2(c:Rat)(f:Nat->Rat)(i:Nat):conv (cf [c]) f i=c*f i:=by
 rw[gL (p':=fun k=>if k=0 then c else 0) (q':=f) (fun k=>by cases k<;>simp[cf]) (fun _=>rfl),qE,if_pos (dC i)];rfl
def m9(p q:List Rat):Nat->List Rat
 |0=>[]
 |k+1=>aW aV (oA (aW aV (eF (m9 p q k) q)) 1 [cf p (p.length-1-k)])
def cxX(p q:List Rat):∀k,(m9 p q k).length<=k*(q.length+1)
 |0=>dC _
 |k+1=>by
  have c:=cxX p q k;have b:=bxG (Q:=m9 p q k) (B:=q);have a:=oY aV (oA (aW aV (eF (m9 p q k) q)) 1 [cf p (p.length-1-k)]);rw[bqH,iJ] at a;show(aW aV _).length<=_
  rw[Nat.succ_mul];omega
def bq3(p q:List Rat):∀k,aN (m9 p q k)
 |0=>fun a h=>by cases h
 |_+1=>jS _
def azU{a b:List Rat}{c d:List Int}{D E:Int}(e:∀i,((cf c i:Int):Rat)=cf a i*D)(f:∀i,((cf d i:Int):Rat)=cf b i*E)(g:c.length=a.length):∀k i,(E:Rat)*((cf (pD c d E k) i:Int):Rat)=(E:Rat)^k*D*cf (m9 a b k) i
 |0,i=>by show(E:Rat)*((cf [] i:Int):Rat)=_*cf [] i;rw[eR,eR,Rat.intCast_zero,gX,gX]
 |k+1,i=>by
  have l:=azU e f g k;show(E:Rat)*((cf (R5 d (pD c d E k) (cf c (c.length-1-k)) (E^k)) i:Int):Rat)=(E:Rat)^(k+1)*D*cf (aW aV (oA (aW aV (eF (m9 a b k) b)) 1 [cf a (a.length-1-k)])) i
  unfold R5;have h:((cf [cf c (c.length-1-k)] i:Int):Rat)=cf [cf a (a.length-1-k)] i*D:=by
   rw[g];cases i with
   |zero=>exact e _
   |succ i=>rw[bV (by simp),bV (by simp)];simp
  have m:(E:Rat)*conv (fun j=>((cf (pD c d E k) j:Int):Rat)) (fun j=>((cf d j:Int):Rat)) i=(E:Rat)^k*D*E*conv (cf (m9 a b k)) (cf b) i:=by
   rw[<-t6,gL l (fun j=>(f j).trans (Rat.mul_comm _ _)),t6,rF];grind
  rw[iS,XY,NZ,iS,iS,xW,iS,aqH,Rat.intCast_add,eJ,Rat.intCast_pow,oD,h,Rat.pow_succ];grind
def bx3{a b x:Rat}(d:x≠0)(h:a=b*x):a/x=b:=by
 have f:=gW (a:=a) d;have e:(a/x-b)*x=0:=by grind
 rcases Rat.mul_eq_zero.1 e with c|c
 ·grind
 ·exact absurd c d
def bq4{a b:List Rat}{c d:List Int}{D E:Int}(e:∀i,((cf c i:Int):Rat)=cf a i*D)(f:∀i,((cf d i:Int):Rat)=cf b i*E)(j:c.length=a.length)(g:D≠0)(h:E≠0)(k i:Nat):cf (m9 a b k) i=((E*cf (pD c d E k) i:Int):Rat)/((E^k*D:Int):Rat):=by
 have l:((E^k*D:Int):Rat)≠0:=gJ (Int.mul_ne_zero (Int.pow_ne_zero h) g);refine(bx3 l ?_).symm;rw[eJ,azU e f j,eJ,Rat.intCast_pow];grind
def bq5{a b:List Rat}{D E:Int}{j k:Nat}(e:ComDen a D j)(f:ComDen b E k)(l:a≠[]):eQ (pD (cC a D) (cC b E) E a.length) (D*E^(a.length-1))=m9 a b a.length:=by
 obtain⟨m,c⟩:∃m,a.length=m+1:=⟨a.length-1,by have:=List.length_pos_iff.2 l;omega⟩;have o:D≠0:=by have:=e.pos;omega
 have g:E≠0:=by have:=f.pos;omega
 have hF:D*E^(a.length-1)≠0:=Int.mul_ne_zero o (Int.pow_ne_zero g);refine oZ (VN hF (by rw[c];exact jS _)) (bq3 a b _) (fun i=> ?_);have h:=azU (JC a D e.dvd) (JC b E f.dvd) (oN a D) a.length i;rw[xN];refine bx3 (gJ hF) ?_;generalize ((cf (pD (cC a D) (cC b E) E a.length) i:Int):Rat)=x at *;generalize cf (m9 a b a.length) i=y at *;rw[c,Rat.pow_succ] at h;rw[c,show m+1-1=m by omega,eJ,Rat.intCast_pow];have p:=gJ g;have n:(E:Rat)*(x-y*(D*(E:Rat)^m))=0:=by grind
 rcases Rat.mul_eq_zero.1 n with d|d
 ·exact absurd d p
 ·grind
def U8{A:List Rat}{K:Nat}(d:∀q∈A,RL K q):∃D,ComDen A D (max 1 (A.length*K)):=by
 induction A with
 |nil=>exact⟨1,by decide,(fun q b=>by cases b),aH (cJ (m:=1) (by unfold BN;decide)) (Nat.le_max_left _ _)⟩
 |cons q A e=>
  have b:=(d q (iC ..)).2;have k:=q.den_pos;by_cases h:A=[]
  ·subst h;exact⟨(q.den:Int),by omega,fun x a=>by rw[List.mem_singleton.1 a];exact Int.dvd_refl _,by rw[dD,iJ,Nat.one_mul];omega⟩
  ·obtain⟨D,c⟩:=e (fun q b=>d q (j8 _ b));have i:Nat.lcm D.natAbs q.den≠0:=Nat.lcm_ne_zero (by have:=c.pos;omega) q.den_nz;have g:=List.length_pos_iff.2 h;have hn:=c.nl_;have f:1<=K:=xR (d q (iC ..));have j:=Nat.mul_le_mul g f;refine⟨((Nat.lcm D.natAbs q.den:Nat):Int),by omega,fun x a=> ?_,?_⟩
   ·rcases List.mem_cons.1 a with rfl|a
    ·exact Int.ofNat_dvd.2 (Nat.dvd_lcm_right _ _)
    ·exact Int.ofNat_dvd.2 (Nat.dvd_trans (Int.ofNat_dvd_left.1 (c.dvd x a)) (Nat.dvd_lcm_left _ _))
   ·rw[dD,eG,Nat.succ_mul];have:=VK D.natAbs q.den;omega
def bx4{a b:List Rat}(e:∀q∈a,RL 1 q)(f:∀q∈b,RL 1 q)(r:a.length<=8)(s:b.length<=8){k:Nat}(p:k<=8):∀q∈m9 a b k,RL 300 q:=fun q j=>by
 obtain⟨D,c⟩:=U8 e;obtain⟨E,d⟩:=U8 f;have g:D≠0:=by have:=c.pos;omega
 have h:E≠0:=by have:=d.pos;omega
 have t:=c.nl_;have u:=d.nl_;have l:=sA a D 1 9 e (by omega);have m:=sA b E 1 9 f (by omega);have n:=azT (E:=E) (K:=10) l m (by omega) (by rw[oN];omega) k (by omega);have o:=azS E k 9 (by omega);obtain⟨i,hi,rfl⟩:=List.mem_iff_getElem.1 j;rw[<-fZ hi,bq4 (JC a D c.dvd) (JC b E d.dvd) (oN a D) g h];refine pM ?_ ?_ (by decide)
 ·exact aH (gT _ _ 9 _ (by omega) (iU n i)) (by omega)
 ·exact aH (gT _ _ _ 9 o (by omega)) (by omega)
def bq6{N M:List Int}{x y:Int}(D:0<x)(E:0<y)(R:aN N)(d:N≠[])(P:aN M)(K:M≠[])(A:N.length=M.length)(h:∀i,cf N i*x=cf M i*y):aS N=aS M:=by
 have S:=nI R d;have T:=nI P K;have L:=xZ S;have O:=xZ T;have I:=lW N;have J:=lW M;have H:(aS N).length=(aS M).length:=by rw[dF,dF,A]
 obtain⟨a,l⟩:∃a:Int,(bN N:Int)*x=a:=⟨_,rfl⟩;obtain⟨b,o⟩:∃b:Int,(bN M:Int)*y=b:=⟨_,rfl⟩;have u:0<a:=by rw[<-l];exact Int.mul_pos (by omega) D
 have U:0<b:=by rw[<-o];exact Int.mul_pos (by omega) E
 have t:∀i,cf (aS N) i*a=cf (aS M) i*b:=fun i=>by
  rw[<-l,<-o,<-Int.mul_assoc,<-Int.mul_assoc,I,J];exact h i
 have G:∀i,((cf (aS N) i:Int):Rat)*a=((cf (aS M) i:Int):Rat)*b:=fun i=>by
  rw[<-eJ,<-eJ,t]
 have m:=gJ (show a≠0 by omega);have e:=gW (a:=(b:Rat)) m
 obtain⟨q, -,C⟩:=YS (xs:=aS N) (g:=aS M) (Q:=[(b:Rat)/a]) O (fun i=>by
  rw[bq2];have c:(((cf (aS N) i:Int):Rat)-(b:Rat)/a*((cf (aS M) i:Int):Rat))*a=0:=by have:=G i;grind
  rcases Rat.mul_eq_zero.1 c with f|f
  ·grind
  ·exact absurd f m)
 have hn:(b:Rat)/a=((cf q 0:Int):Rat):=C 0;generalize cf q 0=n at *;have B:n*a=b:=by
  rw[hn,<-eJ] at e;exact Rat.intCast_inj.1 e
 have V:0<n:=by
  rcases Int.lt_or_le 0 n with k|k
  ·exact k
  ·have:=eH k (fP u);rw[Int.zero_mul] at this;omega
 have r:∀i,cf (aS N) i=n*cf (aS M) i:=fun i=>by
  have s:=t i;rw[<-B] at s;refine Int.eq_of_mul_eq_mul_right (show a≠0 by omega) ?_;rw[s,Int.mul_left_comm,Int.mul_assoc]
 have p:n.natAbs∣bN (aS N):=CM (fun z F=>by
  obtain⟨j,w,rfl⟩:=List.mem_iff_getElem.1 F;rw[<-fZ w,r];exact Int.dvd_mul_of_dvd_left (Int.natAbs_dvd.2 (Int.dvd_refl n)))
 rw[L] at p;have d:n=1:=by have:=Nat.dvd_one.1 p;omega
 refine List.ext_getElem H (fun j v c=> ?_);rw[<-fZ v,<-fZ c,r,d,Int.one_mul]
def bx5{A:List Rat}{D a:Int}{K d:Nat}(h:ComDen A D K)(b:ComDen A a d)(t:aN A)(c:A≠[]):aS (cC A D)=aS (cC A a):=
 bq6 b.pos h.pos (oO h.pos h.dvd t) (fun e=>c ((azG A D).1 e)) (oO b.pos b.dvd t) (fun e=>c ((azG A a).1 e)) (by rw[oN,oN]) (fun i=>by
  have f:=JC A D h.dvd i;have g:=JC A a b.dvd i;refine Rat.intCast_inj.1 ?_;rw[eJ,eJ,f,g];grind)
def bq7{A:List Rat}{D:Int}{K:Nat}(h:ComDen A D K)(t:aN A)(d:A≠[])(b:∀q∈A,RL 1 q)(e:A.length<=8):∀n∈aS (cC A D),nl n.natAbs<=10:=by
 obtain⟨c,a⟩:=U8 b;rw[bx5 h a t d];exact gU (fun n hn=>aH (sA A c 1 9 b (aH a.nl_ (by omega)) n hn) (by omega))
end Go.Proofs.YtapgbkldiinabaaGreatDoor
namespace Go.Proofs.YtapgbkldiinabaaGreatDoor
open Go.RowKit Sos Go.Proofs.Tryz
def bq1(p q:List Rat)(J K:Value)(w:World)(z:QsAt w J p)(C:QsAt w K q)(H:∀x∈p,RL 1 x)(n:∀x∈q,RL 1 x)(lp:p.length<=8)(lq:q.length<=8):
  Calls prog 29 #[J,K] w (C8 w (m9 p q p.length)):=by
 obtain⟨A,c,rfl,hc⟩:=z.form;obtain⟨A',c',rfl,ah⟩:=C.form;have N:Hid (∀k,k<=8->(∀x∈m9 p q k,RL 300 x)∧(m9 p q k).length<=72):=fun k t=>⟨bx4 H n lp lq t,aH (cxX p q k) (aH (Nat.mul_le_mul t (show q.length+1<=9 by omega)) (by decide))⟩;have D:∀W,Calls prog 57 #[.int .i64 1] W (eS W 1):=fun W=>r7 1 W (by decide);have a:=aG w.heap.size w;go_enter func29,ntmps29;go_wp2_with fail;go_loopg [5,6] p.length (fun k vo vi wr=>∃j,Hid (j+k=p.length)∧vi= .int .i64 ((k:Int)-1)∧QsAt wr vo (m9 p q j)∧Below w.heap.size w wr)
 case atStart=>exact⟨0,by unfold Hid;omega,rfl,QsAt.nil _,a⟩
 case round=>
  clear a;obtain⟨j,e,rfl,i,a⟩:=hrel;generalize wr=wy at *;obtain⟨Ao,co,rfl,ai⟩:=i.form;cases gk with
  |zero=>
   have hj:j=p.length:=e.out;subst hj;have y:((0:Nat):Int)-1= -1:=by omega
   rw[y];clear y;go_wp2;go_ret;exact⟨_,rfl,i,a⟩
  |succ k=>
   have ae:=e.out;have af:k<p.length:=by omega
   have r:((k+1:Nat):Int)-1=(k:Int):=by omega
   have k0:(0:Int)<=(k:Int):=by omega
   have aj:(k:Int)<(p.length:Int):=by omega
   rw[r];obtain⟨m,I⟩:=N.out j (by omega);have E:aW aV (oA (aW aV (eF (m9 p q j) q)) 1 [cf p k])=m9 p q (j+1):=by
    show _=aW aV (oA (aW aV (eF (m9 p q j) q)) 1 [cf p (p.length-1-j)])
    rw[show p.length-1-j=k by omega]
   have F:=fun W u v h f=>bqB (m9 p q j) q u v W h f 300 m (CW n (by decide)) (by decide) (by omega) (by omega) (by have:=dK (2*300+1) I;omega);have G:∀x∈aW aV (eF (m9 p q j) q),RL 50000 x:=fun x l=>bU (bq9 m (CW n (by decide)) (by decide) x (rC l)) (by have:=dK (2*300+1) (show(m9 p q j).length+q.length<=80 by omega);omega);have lT:=bxG (Q:=m9 p q j) (B:=q);have d:=fun W u v x h f U=>KX (aW aV (eF (m9 p q j) q)) 1 [cf p k] u v x W h f U 50000 1 G (fun x l=>by rw[List.mem_singleton.1 l];exact bU (lV H (iG aE) k) (by decide)) rY (by decide) (by omega) (by simp) (by decide);rw[E] at d;obtain⟨P,s3,L,k3,R,s4,M,k4,S,rfl,ad,T,hi⟩:=(z.be a).cell af;have ag:=C.be a;unfold eS at D;unfold C8 at F d;obtain⟨o,g⟩:∃o,m9 p q (j+1)=o:=⟨_,rfl⟩;rw[g] at d;have O:=aB g;clear E G lT m I ae r g;generalize aW aV (eF (m9 p q j) q)=TM at *;generalize m9 p q j=IJ at *;generalize cf p k=pk at *;go_wp2_with fail
   go_region_held3 (fun w'=>R4 w' P (k*4) (.bool s3) (.slice L k3 R) (.bool s4) (.slice M k4 S))
    (with_reducible exact T.up ad)
    (first
     |(go_at_call 56;refine(F _ _ _ i.up ag.up).mono ?_;rintro e5 w5 ⟨v5,rfl,V,Y⟩;have:=St.mk Y)
     |(go_at_call 57;refine(D _).mono ?_;rintro e6 w6 ⟨v6,rfl,s,Z⟩;obtain⟨s5,A5,k5,c5,s6,A6,k6,c6,rfl⟩:=s.form;have:=St.mk Z)
     |(go_at_call 55;refine(d _ _ _ _ V.up s.up (bxA hi.up).up).mono ?_;rintro e9 w9 ⟨v9,rfl,X,ac⟩;have:=St.mk ac))
   all_goals (
    go_wp2;go_roundg k
    case rel=>exact⟨j+1,by have:=e.out;unfold Hid;omega,rfl,by rw[O.out];exact X,bJ (b:=w9) a⟩
    case measure=>omega)
def xA(w:World)(a b:List (List UInt8)):Ending->World->Prop:=if vl a=true∧vl b=true then G8 w ((m9 (aU a) (aU b) a.length).map cW) 0 else G8 w [] 1
def cyB{n m:Nat}(hn:n<=8)(c:m<=8): -65<=((n:Int)-1)*((m:Int)-1)∧((n:Int)-1)*((m:Int)-1)<=49:=by
 rcases iB n with h|h
 ·subst h;have a:(((0:Nat):Int)-1)*((m:Int)-1)=1-(m:Int):=by omega
  omega
 ·obtain⟨p,rfl⟩:∃p,n=p+1:=⟨n-1,by omega⟩;have e:((p+1:Nat):Int)-1=(p:Int):=by omega
  rw[e];rcases iB m with h|h
  ·subst h;have a:(p:Int)*(((0:Nat):Int)-1)= -(p:Int):=by omega
   omega
  ·obtain⟨q,rfl⟩:∃q,m=q+1:=⟨m-1,by omega⟩;have a:((q+1:Nat):Int)-1=(q:Int):=by omega
   rw[a,<-Int.natCast_mul];have b:p*q<=7*7:=Nat.mul_le_mul (by omega) (by omega);omega
def bq0(a b:List (List UInt8))(z B:Value)(w:World)(p:StrsAt w z a)(r:StrsAt w B b)(U:a.length<=8)(V:b.length<=8)(s:∀l∈a,l.length<=6)(t:∀l∈b,l.length<=6):
  Calls prog 8 #[z,B] w (xA w a b):=by
 have g:∀q∈aU a,RL 1 q:=pI (fun l c=>aH (s l c) (by decide));have i:∀q∈aU b,RL 1 q:=pI (fun l c=>aH (t l c) (by decide));have H:=bqA a b z B w p r (by omega) (by omega) (fun l c=>aH (s l c) (by decide)) (fun l c=>aH (t l c) (by decide)) 1 g i (by decide);obtain⟨A,ca,rfl,hc⟩:=p.form;obtain⟨Z,cb,rfl,ac⟩:=r.form;have F:=VS a;have T:=VS b;go_enter func8,ntmps8;go_wp2_with fail;refine H.mono ?_;rintro e1 w1 ⟨v1,u1,rfl,f,j,d⟩;clear H;by_cases hv:(vl a&&vl b)=true
 ·obtain⟨x,y⟩:vl a=true∧vl b=true:=by simpa using hv
  rw[hv];have k:Hid (vl a=true∧vl b=true):=⟨x,y⟩;rw[tW x] at f;rw[tW y] at j;obtain⟨A1,c1,rfl, -⟩:=f.form;obtain⟨A2,c2,rfl, -⟩:=j.form;obtain⟨J,K⟩:=cyB (show(aU a).length<=8 by omega) (show(aU b).length<=8 by omega);have G:=fun W u v h O=>bq1 (aU a) (aU b) u v W h O g i (by omega) (by omega);have Y:=fun W v h=>bx8 (m9 (aU a) (aU b) (aU a).length) v W h 300 (bx4 g i (by omega) (by omega) (by omega)) (by decide) (by have:=cxX (aU a) (aU b) (aU a).length;have:=Nat.mul_le_mul (show(aU a).length<=8 by omega) (show(aU b).length+1<=9 by omega);omega);have L:=aB F;clear hv x y g i s t;obtain⟨m,D⟩:∃X:Int,X=((aU a).length:Int)-1:=⟨_,rfl⟩;obtain⟨n,E⟩:∃X:Int,X=((aU b).length:Int)-1:=⟨_,rfl⟩;rw[<-D,<-E] at J K;have ae:wrap64 (((aU a).length:Int)-1)=m:=by unfold wrap64;omega
  have af:wrap64 (((aU b).length:Int)-1)=n:=by unfold wrap64;omega
  obtain⟨e,o⟩:∃e,e=m*n:=⟨_,rfl⟩;rw[<-o] at J K;have ag:wrap64 (m*n)=e:=by rw[<-o];unfold wrap64;omega
  have ad:¬(64:Int)<e:=by omega
  clear o F T p r D E U V;generalize C:m9 (aU a) (aU b) (aU a).length=M at *;have N:=aB C;clear C;go_wp2_with fail;refine(G _ _ _ f j).mono ?_;rintro e4 w4 ⟨v4,rfl,P,R⟩;replace d:=aC d R;clear G;go_wp2_with fail;refine(Y _ _ P).mono ?_;rintro e5 w5 ⟨v5,rfl,Q,S⟩;go_wp2;go_ret2;unfold xA;rw[if_pos k.out,<-L.out,N.out];exact⟨_,rfl,Q,aC d S⟩
 ·have k:Hid (¬(vl a=true∧vl b=true)):=fun h=>hv (by rw[h.1,h.2];rfl);have I:(vl a&&vl b)=false:=by simpa using hv
  rw[I];clear hv I f j;go_wp2;go_ret2;unfold xA;rw[if_neg k.out];exact⟨_,rfl,StrsAt.nil _ _ _,d⟩
def dM(a:List (List UInt8)):Int:=if vl a=true then (if a=[] then 5 else 0) else 1
def uL(a:List (List UInt8)):dM a=0∧vl a=true∧a≠[]∨dM a=1∧vl a=false∨dM a=5∧vl a=true∧a=[]:=by
 unfold dM;cases vl a with
 |false=>exact .inr (.inl ⟨rfl,rfl⟩)
 |true=>
  by_cases h:a=[]
  ·exact .inr (.inr ⟨by rw[if_pos rfl,if_pos h],rfl,h⟩)
  ·exact .inl ⟨by rw[if_pos rfl,if_neg h],rfl,h⟩
def DC(a:List (List UInt8)):dM a=0∧vl a=true∧(oP a).length≠0∧oP a=aU a∨dM a=1∧vl a=false∧oP a=[]∨dM a=5∧vl a=true∧oP a=[]:=by
 have f:(aU a).length=a.length:=cH _;rcases uL a with ⟨c,b,d⟩|⟨c,b⟩|⟨c,b,d⟩
 ·exact .inl ⟨c,b,by rw[tW b,f];exact fun e=>d (cG e),tW b⟩
 ·exact .inr (.inl ⟨c,b,xO b⟩)
 ·exact .inr (.inr ⟨c,b,by rw[tW b,d];rfl⟩)
def az6(w:World)(a:List (List UInt8))(rows:List (List (List UInt8)))(e:Ending)(w':World):Prop:=∃v,e= .returned (.tuple #[v,.int .i64 (dM a)])∧TsAt w' w.heap.size 22 v rows∧Below w.heap.size w w'
def bxO(b:List (List UInt8))(L:List (List Rat))(v:Value)(w:World)(hv:StrsAt w v b)(y:b.length<=8)(S:∀l∈b,l.length<=6)
  (hF:dM b=0->∀v W,QsAt W v (aU b)->Calls prog 33 #[v] W (cy1 W L))(s:dM b≠0->L=[])(lL:L.length<=8)(p:∀X∈L,X.length<=8∧∀q∈X,RL 1300000 q):
  Calls prog 10 #[v] w (az6 w b (tG L)):=by
 obtain⟨A,c,rfl,hc⟩:=hv.form;have ae:∀q∈aU b,RL 1 q:=pI (fun l y=>aH (S l y) (by decide));have e:=fun W h=>VQ b (.slice A b.length c) W h (by omega) (fun l y=>aH (S l y) (by decide)) (fun q hq=>bU (ae q hq) (by decide));have am:=DC b;unfold qP at e;unfold az6;clear ae S;generalize dM b=E at *;rcases am with ⟨rfl,f,h0,i⟩|⟨rfl,f,i⟩|⟨rfl,f,i⟩
 ·rw[i] at e h0;rw[f] at e;have U:=fun W v h=>hF rfl v W h;have q0:(((aU b).length:Int)==0)=false:=by rw[beq_eq_false_iff_ne];omega
  unfold cy1 at U;generalize aU b=Q at *;have ap:=fun X W v h (hX:X∈L)=>bx8 X v W h 1300000 (p X hX).2 (by decide) (by have:=(p X hX).1;omega);have HK:=aB p;clear hF s i f p h0;go_enter func10,ntmps10;go_wp2_with fail;refine(e _ hv).mono ?_;rintro e1 w1 ⟨v1,rfl,g,m⟩;obtain⟨Y,c1,rfl, -⟩:=g.form;clear e;go_wp2_with fail;refine(U _ _ g).mono ?_;rintro e2 r ⟨v2,rfl,h2,ag⟩;obtain⟨A2,c2,rfl,av⟩:=h2.form;have M:=aC m ag;have d:=aG r.heap.size r;clear U m ag g;go_wp2_with fail;go_loopg [6,8] L.length (fun k vo vi wr=>∃j:Nat,Hid (j+k=L.length)∧vi= .int .i64 j∧TsAt wr r.heap.size 22 vo (tG (L.take j))∧Below r.heap.size r wr)
  case atStart=>exact⟨0,by unfold Hid;omega,rfl,RowsAt.nil _ _ _ _,d⟩
  case round=>
   clear d;obtain⟨j,D,rfl,n,d⟩:=hrel;generalize wr=wy at *;have ay:(0:Int)<=(j:Int):=by omega
   obtain⟨Af,au,rfl,aw⟩:=n.form;cases gk with
   |zero=>
    have hj:j=L.length:=D.out;subst hj;have Z:Hid (tG (L.take L.length)=tG L):=by unfold Hid;rw[List.take_length]
    rw[Z.out] at n⊢;clear Z;go_wp2;go_ret2;exact⟨_,rfl,n.mono' M.size,aC M d⟩
   |succ k=>
    have an:j<L.length:=by have:=D.out;omega
    have az:(j:Int)<(L.length:Int):=by omega
    obtain⟨a,x⟩:∃a,L[j]? =some a:=⟨_,aR an⟩;have af:=dG x;obtain⟨bb,u,e2,al,hu,O⟩:=(QQs.be h2 d).at_ x;subst e2;obtain⟨Au,cu,rfl,ax⟩:=O.form;have F:=aB (bqP x);have ac:Hid ((tG (L.take j)).length=j):=by unfold Hid tG;rw[cH,bK];omega
    have aq:=fun W v h=>ap a W v h af;obtain⟨R1,J⟩:∃R,tG (L.take (j+1))=R:=⟨_,rfl⟩;rw[J] at F;have ak:=aB J;clear J;generalize tG (L.take j)=R0 at *;clear x af;go_wp2_with fail;refine(aq _ _ O).mono ?_;rintro e3 t ⟨v3,rfl,o,ah⟩;obtain⟨C,H,rfl, -⟩:=o.form;obtain⟨G,K⟩:∃T,a.map cW=T:=⟨_,rfl⟩;rw[K] at o⊢;rw[K] at F;clear K;have N:Below t.heap.size t (t.alloc (.cells #[.slice C G.length H] 22)):=(aG _ _).alloc aE _;have X:=Bx.new t [.slice C G.length H] 22;have ad:=X.cell 0 rfl;have I:=aC ah N;replace o:=o.be N;replace n:=n.be I;replace d:=aC d I;obtain⟨ar,z,B,aj⟩:=id n;go_wp2_with (at_builtin;refine K4 rfl rfl 22 24 underlying28 aqU r.heap.size _ ar rfl z t.heap.size (.slice C G.length H) rfl ad ⟨_,_,_,rfl⟩ (by rw[B,ac.out];omega) (by rw[B,ac.out];unfold maxLen;omega) d.size ?_;intro v8 w8 ai ao P);have V:=TsAt.push z B aj o ai P;have zz:=K5 d P z aE;rw[<-F.out] at V;obtain⟨A8,c8,rfl, -⟩:=V.form;clear ai ao P z B aj n X ad N I o d O hu al;go_wp2;go_roundg k
    case rel=>exact⟨j+1,by have:=D.out;unfold Hid;omega,by go_num,by rw[ak.out];exact V,zz⟩
    case measure=>omega
 ·obtain rfl:=s (by decide);rw[f] at e;clear hF s i f p lL;go_enter func10,ntmps10;go_wp2_with fail;refine(e _ hv).mono ?_;rintro e1 w1 ⟨v1,rfl,g,m⟩;obtain⟨Y,c1,rfl, -⟩:=g.form;go_wp2;go_ret2;exact⟨_,rfl,RowsAt.nil _ _ _ _,m⟩
 ·obtain rfl:=s (by decide);rw[i,f] at e;clear hF s i f p lL;go_enter func10,ntmps10;go_wp2_with fail;refine(e _ hv).mono ?_;rintro e1 w1 ⟨v1,rfl,g,m⟩;obtain⟨Y,c1,rfl, -⟩:=g.form;go_wp2;go_ret2;exact⟨_,rfl,RowsAt.nil _ _ _ _,m⟩
def bxP{y Q c:List Int}(b:Pp y)(e:∀i,cf y i=conv (cf Q) (cf c) i):Q≠[]:=fun d=>by
 obtain⟨x,a⟩:=GA b.ne b.tr;rw[p3,pQ e,d,DS,Rat.zero_mul] at a;exact a rfl
def QuoOf.dvw{w y Q c:List Int}(a:DvW w y)(b:Pp c)(h:QuoOf y c Q):DvW w Q∧DvW w c:=
 RfO.quoW a ⟨bxP a.pp h.id_,h.trim,by2 a.pr h.id_⟩ b h.id_
def Sqf.all{B:Nat}{w p r:List Int}{l:List (List Int)}(h:Sqf B p r l):DvW w p->DvW w r->∀f∈l,DvW w f:=by
 induction h with
 |done=>intro _ _ f a;cases a
 |step n g i j t k=>
  intro b c f a;obtain⟨d, -, -, -⟩:=bxD b.pp c.pp g;have e:=QuoOf.dvw b d i;have m:=QuoOf.dvw c d j;rcases List.mem_cons.1 a with rfl|a
  ·exact e.1
  ·exact k e.2 m.1 f a
def aq1{B:Nat}{w g:List Int}(b:Pp w)(a:pO B w (bB w) g):Pp g∧Dv (cf w) g:=by
 have i:=lZ w;have f:=lE b.tr;unfold pO at a;rw[if_neg (by omega),XC b.pr] at a;have h:aS (bB w)=[]∨bN (aS (bB w))=1:=by
  by_cases d:bB w=[]
  ·exact .inl (cG (by rw[dF,d];rfl))
  ·exact .inr (xZ (nI f d))
 have c:=XA a b.pr h;exact⟨⟨(fun e=>by rw[e] at c;cases c),P7 a b.tr (gV f),c⟩,(JS a).1⟩
def cxC{W:World}(r:Glob W){w:List Int}{e N K B:Nat}(b:Pp w)(t:∀n∈w,nl n.natAbs<=e)(u:w.length<=N)(o:N<=1000)(s:e+2*N*(e+1)+2<=K)(p:(K+1)*3^N<=B)(q:5*B+8<=aJ):
  ∃es,(w.length=1∧es=[]∨∃a g,RfO B w a g es)∧∀d g Q l,pO d w (bB w) g->QuoOf w g Q->Sqf d Q g l->l.map b6=es.map b6:=by
 have v:=List.length_pos_iff.2 b.ne;by_cases m:1<w.length
 ·obtain⟨a,g,es,h, -⟩:=bqU r b.ne b.tr t u o s p q w.length w aE (DvW.refl b) m;exact⟨es,.inr ⟨a,g,h⟩,fun d g Q l i c f=>bqL b h i c f⟩
 ·refine⟨[],.inl ⟨by omega,rfl⟩,fun d g Q l i c f=> ?_⟩;obtain⟨j, -⟩:=aq1 b i;have x:=(K7 c.trim b.tr j.tr j.ne c.id_).2 (bxP b c.id_);have y:=List.length_pos_iff.2 j.ne;cases f with
  |done=>rfl
  |step k=>omega
def cxD{w:List Int}{b N K B:Nat}(a:Pp w)(c:∀n∈w,nl n.natAbs<=b)(i:w.length<=N)(j:N<=1000)(f:b+1<=K)(d:(K+1)*3^N<=B):GcdFit K B w (bB w):=by
 have k:=List.length_pos_iff.2 a.ne;have g:=lZ w;refine⟨a.tr,lE a.tr,fun n hn=>aH (c n hn) (by omega),fun n hn=>aH (pL c (by omega) n hn) f,fun h=>by omega,fun _=> ?_,by omega,by omega⟩;have e:(K+1)*(w.length-(bB w).length+2)*3^(bB w).length=(K+1)*3^w.length:=by
  rw[g,show w.length-(w.length-1)+2=3 by omega,iW,dN 3,<-dH,show(w.length-1).succ=w.length by omega]
 rw[e];exact aH (eV _ (cO (by decide) i)) d
def cxE{w g:List Int}{c N K B:Nat}(a:Pp w)(o:∀n∈w,nl n.natAbs<=c)(q:w.length<=N)(l:N<=1000)(m:c+2*N*(c+1)+1<=K)(p:pO B w (bB w) g):∃Q n,QuoOf w g Q∧(∀x∈g,nl x.natAbs<=K)∧(∀x∈Q,nl x.natAbs<=K)∧g.length<=1073741824∧n<=1073741824∧az5 w n Q g:=by
 obtain⟨b,k⟩:=aq1 a p;obtain⟨e,s,t,j,r,f⟩:=bx2 b.pr b.tr a.tr a.ne k;obtain⟨d,dg⟩:=(DvW.refl a).quo t j e b.tr b.pr r f;have i:=fun {x:List Int} (h:DvW w x) (n:Int) (hn:n∈x)=>aH (h.nums a.ne a.tr o q l n hn) m;exact⟨s,s.length+g.length,⟨j,e,b.tr,f⟩,i dg,i d,by have:=dg.len;omega,by have:=dg.len;have:=d.len;omega,d,dg,rfl,by omega⟩
def cxF(l:List (List Int)):l.map tH=tG (l.map b6):=by unfold tG;rw[List.map_map];rfl
def bxQ{A:List Rat}{D:Int}{K:Nat}(h:ComDen A D K)(t:aN A)(a:A≠[]):Pp (aS (cC A D))∧(aS (cC A D)).length=A.length∧Prp A (aS (cC A D)):=by
 have c:cC A D≠[]:=fun e=>a ((azG _ D).1 e);have tn:=oO h.pos h.dvd t;have b:(aS (cC A D)).length=A.length:=by rw[dF,oN]
 exact⟨⟨fun e=>a (cG (by rw[<-b,e];rfl)),gV tn,xZ (nI tn c)⟩,b,nM (uE h t)⟩
def cxG(a:List (List UInt8))(es:List (List Int))(d:Int)(H i N r K B:Nat)(x:Value)(w:World)(S:Glob w)(U:StrsAt w x a)(la:a.length<=N)(ac:N<=65)(Z:∀l∈a,l.length<=1073741824)(A:∀q∈aU a,RL i q)(hv:vl a=true)(y:a≠[])(z:ComDen (aU a) d H)(le:es.length<=1073741824)
  (p:∀n∈aS (cC (aU a) d),nl n.natAbs<=r)(J:i<=1024)(c2:66*i+1<=K)(s:r+2*N*(r+1)+1<=K)(L:K<=1073741824)(M:(K+1)*3^N<=B)(O:(K+1)*(N+2)*3^(N/2+1)<=B)(P:5*B+8<=aJ)
  (E:∀B g Q l,pO B (aS (cC (aU a) d)) (bB (aS (cC (aU a) d))) g->QuoOf (aS (cC (aU a) d)) g Q->Sqf B Q g l->l.map b6=es.map b6):
  Calls prog 9 #[x] w fun e w'=>∃v,e= .returned (.tuple #[v,.int .i64 0])∧TsAt w' w.heap.size 22 v (tG (es.map b6))∧Below w.heap.size w w':=by
 have G:=(pJ hv).2.2;have I:=VS a;have F:aU a≠[]:=fun e=>y (cG (by rw[<-I,e];rfl));have u:∀D K,ComDen (aU a) D K->aS (cC (aU a) D)=aS (cC (aU a) d):=fun D K h=>bx5 h z G F;obtain⟨c,lw, -⟩:=bxQ z G F;have T:=fun D (h:ComDen (aU a) D (1+65*i))=>sA _ D i _ A h.nl_;generalize aS (cC (aU a) d)=m at *;refine(aqT a x w S U (by omega) i (fun _=>Z) (fun _=>A) J hv y K B (by omega) L P (az5 m) (cx4 c.ne c.tr p (show m.length<=N by omega) (by omega) s O) (fun D k=> ?_) (fun D Q g l k b j o=> ?_)).mono ?_
 ·rw[u D _ k];exact⟨fun n hn=>aH (T D k n hn) (by omega),cxD c p (show m.length<=N by omega) (by omega) (by omega) M,fun g b=>cxE c p (show m.length<=N by omega) (by omega) s b⟩
 ·rw[u D _ k] at b j;have X:=congrArg List.length (E _ g Q l b j o);rw[cH,cH] at X;obtain⟨Y, -⟩:=aq1 c b;obtain⟨R,dg⟩:=QuoOf.dvw (DvW.refl c) Y j
  exact⟨by omega,fun f W=>by
   have t:=o.all R dg f W;exact⟨t.ne,by have:=t.len;omega,fun n hn=>aH (t.nums c.ne c.tr p (show m.length<=N by omega) (by omega) n hn) s⟩⟩
 ·rintro e w' ⟨D,k,v,g,Q,l,rfl,C,b,j,o,V⟩;rw[u D _ k] at b j;rw[cxF,E _ g Q l b j o] at C;exact⟨v,rfl,C,V⟩
def cxH(a:List (List UInt8))(u:Value)(w:World)(H:Glob w)(p:StrsAt w u a)(P:a.length<=8)(t:∀l∈a,l.length<=6)(k:dM a≠0):
  Calls prog 9 #[u] w fun e w'=>∃v,e= .returned (.tuple #[v,.int .i64 (dM a)])∧TsAt w' w.heap.size 22 v []∧Below w.heap.size w w':=by
 obtain⟨A,c,rfl,O⟩:=p.form;have n:∀q∈aU a,RL 1 q:=pI (fun l i=>aH (t l i) (by decide));have f:=I8 a (.slice A a.length c) w H p (by omega) (fun _ l i=>aH (t l i) (by decide)) 1 66 (fun _=>n) (by decide) (by unfold aJ;omega);have r:=uL a;obtain⟨E,m⟩:∃E,dM a=E:=⟨_,rfl⟩;rw[m] at r k⊢;clear m n;rcases r with ⟨rfl, -, -⟩|⟨rfl,d⟩|⟨rfl,d,o⟩
 ·exact absurd rfl k
 ·skip;go_enter func9,ntmps9;go_wp2_with fail;refine f.mono ?_;rintro G N ⟨L,M,x,D,rfl,j,h,g,b⟩;obtain⟨y,C,rfl,I⟩:=j.form;obtain⟨K,z,J,F,rfl⟩:=h.form;rw[d];clear g f;go_wp2;go_ret2;exact⟨_,rfl,RowsAt.nil _ _ _ _,b.alloc b.size _⟩
 ·have B:=aB o;clear o;go_enter func9,ntmps9;go_wp2_with fail;refine f.mono ?_;rintro G N ⟨L,M,x,D,rfl,j,h,g,b⟩;obtain⟨y,C,rfl,I⟩:=j.form;obtain⟨K,z,J,F,rfl⟩:=h.form;obtain⟨s, -⟩:=g d;have Q:((x.length:Int)==0)=true:=by rw[s,B.out];rfl
  rw[d];clear g f s;go_wp2;go_ret2;exact⟨_,rfl,RowsAt.nil _ _ _ _,b.alloc b.size _⟩
def Q8(a b:List (List UInt8)):List (List UInt8):=if vl a=true∧vl b=true then (m9 (aU a) (aU b) a.length).map cW else []
def V5(a b:List (List UInt8)):Int:=if vl a=true∧vl b=true then 0 else 1
def bxR{a b:List (List UInt8)}(d:a.length<=8)(f:b.length<=8):(Q8 a b).length<=1099511627776:=by
 unfold Q8;split
 ·have c:=cxX (aU a) (aU b) a.length;rw[VS] at c;have e:=Nat.mul_le_mul d (show b.length+1<=9 by omega);rw[cH];omega
 ·simp
def bxS{w:World}{a b:List (List UInt8)}{e:Ending}{w':World}(h:xA w a b e w'):G8 w (Q8 a b) (V5 a b) e w':=by
 unfold xA at h;unfold Q8 V5;by_cases hv:vl a=true∧vl b=true
 ·rw[if_pos hv] at h⊢;rw[if_pos hv];exact h
 ·rw[if_neg hv] at h⊢;rw[if_neg hv];exact h
def bxT{w:World}{a b:List (List UInt8)}{K:Nat}(p:a.length<=8)(q:b.length<=8){e:Ending}{w':World}(h:aqX w a b K e w'):G8 w (Q8 a b) (V5 a b) e w':=by
 obtain⟨v,n,T,rfl,d,f,i,j, -,k⟩:=h;unfold Q8 V5;by_cases hv:vl a=true∧vl b=true
 ·rw[if_pos hv,if_pos hv];by_cases c:a=[]
  ·obtain⟨rfl,rfl⟩:=j hv.1 hv.2 c;subst c;exact⟨v,rfl,d,f⟩
  ·have o:PX a.length b.length=true:=by
    unfold PX;exact decide_eq_true (Int.le_trans (cyB p q).2 (by decide))
   obtain⟨rfl,D,E,l,m,rfl⟩:=k hv.1 hv.2 c o;have g:=bq5 l m (fun e=>c (cG (by rw[<-VS,e];rfl)));rw[VS] at g;rw[g] at d;exact⟨v,rfl,d,f⟩
 ·rw[if_neg hv,if_neg hv];obtain⟨rfl,rfl⟩:=i hv;exact⟨v,rfl,d,f⟩
def bxU{W:World}(L:Glob W)(a:List (List UInt8))(p:a.length<=8)(m:∀l∈a,l.length<=6):∃R:List (List (List UInt8)),R.length<=1024∧(∀l∈R,l.length<=1024)
  ∧(∀w v,Glob w->StrsAt w v a->Calls prog 9 #[v] w fun e w'=>∃v,e= .returned (.tuple #[v,.int .i64 (dM a)])∧TsAt w' w.heap.size 22 v R∧Below w.heap.size w w')
  ∧∀w v,StrsAt w v a->Calls prog 10 #[v] w (az6 w a R):=by
 by_cases j:dM a=0
 ·have M:=uL a;obtain⟨-,hv,x⟩:=M.resolve_right (fun h=>by rcases h with ⟨h, -⟩|⟨h, -⟩<;>rw[j] at h<;>cases h);have o:∀q∈aU a,RL 1 q:=pI (fun l b=>aH (m l b) (by decide));have E:=(pJ hv).2.2;have G:=VS a;have C:aU a≠[]:=fun e=>x (cG (by rw[<-G,e];rfl));obtain⟨D,r⟩:=U8 o;obtain⟨i,U,T⟩:=bxQ r E C;have t:=bq7 r E C o (by omega);obtain⟨c,hF,O⟩:=cxC (N:=8) (K:=188) (B:=1300000) L i t (by omega) (by decide) (by decide) (by decide) (by unfold aJ;decide);have y:=bqK i t (by omega) (by decide);obtain⟨hF,z,u⟩:ZB 1300000 (aS (cC (aU a) D)) (b6 (aS (cC (aU a) D))) c∧c.length<=8∧∀e∈c,DvW (aS (cC (aU a) D)) e:=by
   rcases hF with ⟨J,rfl⟩|⟨F,g,h⟩
   ·exact⟨.inl ⟨azX i J,rfl⟩,by decide,fun e u=>by cases u⟩
   ·exact⟨.inr ⟨_,F,g,h,DvW.refl i,rfl⟩,by have:=h.short.1;omega,h.all (DvW.refl i)⟩
  have A:∀X∈c.map b6,X.length<=8∧∀q∈X,RL 1300000 q:=fun X k=>by
   obtain⟨e,P,rfl⟩:=List.mem_map.1 k;have d:=u e P;obtain⟨H,I⟩:=y e d;exact⟨by rw[(uD d.tr).1];exact I,CU (fun n hn=>by have:=H n hn;omega) (by decide)⟩
  refine⟨tG (c.map b6),by unfold tG;rw[cH,cH];omega,fun l b=> ?_,fun w v s f=> ?_,fun w v f=> ?_⟩
  ·unfold tG at b;obtain⟨X,k,rfl⟩:=List.mem_map.1 b;rw[cH];have:=(A X k).1;omega
  ·rw[j];exact cxG a c D _ 1 8 10 300 20000000 v w s f p (by decide) (fun l b=>aH (m l b) (by decide)) o hv x r (by omega) t (by decide) (by decide) (by decide) (by decide) (by decide) (by decide) (by unfold aJ;decide) O
  ·refine bxO a (c.map b6) v w f p m (fun _ v W S=>bqM hF z (DvW.refl i) y (by decide) (by decide) (aU a) T (fun q Q=>bU (o q Q) (by decide)) v W S) (fun h=>absurd j h) (by rw[cH];exact z) A
 ·refine⟨[],by decide,(fun l b=>by cases b),fun w v s f=>cxH a v w s f p m j,fun w v f=> ?_⟩;exact bxO a [] v w f p m (fun h=>absurd h j) (fun _=>rfl) (by decide) (fun X k=>by cases k)
def bxV(a b:List (List UInt8))(H I:Value)(w:World)(j:Glob w)(f:StrsAt w H a)(g:StrsAt w I b)(V:∀l∈a,l.length<=9223372036854775807)(X:∀l∈b,l.length<=9223372036854775807):
  Calls prog 3 #[H,I] w fun e w'=>e= .returned (.bool true)∧Below w.heap.size w w':=by
 obtain⟨A,c,rfl,hc⟩:=f.form;obtain⟨Q,S,rfl,ad⟩:=g.form;have m:=bzP f g 22;have d:Below w.heap.size w (w.alloc (.cells #[.slice A a.length c,.slice Q b.length S] 22)):=(aG _ _).alloc aE _
 have Z:=fun W v (m:azQ W v [a,b])=>show Calls prog 5 #[.int .i64 8,.int .i64 6,v] W fun e w'=>e= .returned (.bool (G7 8 6 [a,b]))∧W=w' from bzO 8 6 [a,b] v W m (by decide) (by decide) (by show 2<=1073741824;decide) (fun p m=>by
  simp only[List.mem_cons,List.not_mem_nil,or_false] at m;rcases m with rfl|rfl
  ·exact V
  ·exact X)
 clear V X;go_enter func3,ntmps3;go_wp2_with fail;replace f:=f.be d;replace g:=g.be d;generalize w.alloc (.cells #[.slice A a.length c,.slice Q b.length S] 22)=W at *;refine(Z _ _ m).mono ?_;rintro e1 w1 ⟨rfl,rfl⟩;clear Z m;cases hs:G7 8 6 [a,b] with
 |false=>
  clear hs;go_wp2_with fail;refine(aq2 _ (j.be d)).mono ?_;rintro e9 w9 ⟨rfl,M⟩;go_wp2;go_ret;exact⟨rfl,aC d M⟩
 |true=>
  obtain⟨t,x⟩:=aqW hs (p:=a) (by simp);obtain⟨D,G⟩:=aqW hs (p:=b) (by simp);have T:∀q∈aU a,RL 1 q:=pI (fun l k=>aH (x l k) (by decide));have U:∀q∈aU b,RL 1 q:=pI (fun l k=>aH (G l k) (by decide));have N:=fun W v u j h o=>(bzR a b v u W j h o (by omega) (by omega) 1 (fun _ l k=>aH (x l k) (by decide)) (fun _ l k=>aH (G l k) (by decide)) (fun _=>T) (fun _=>U) (by decide)).mono (fun e w' h=>bxT t D h);have O:=fun W v u h o=>(bq0 a b v u W h o t D x G).mono (fun e w' h=>bxS h);obtain⟨R,lR,kR,p2,P⟩:=bxU j a t x;have Y:=fun B B' H I W h o=>bqO R B B' H I W h o lR kR;have lT:=bxR t D;unfold G8 at N O;unfold az6 at P;clear hs x G t D T U lR kR;generalize Q8 a b=L at *;generalize V5 a b=E at *;generalize dM a=F at *;go_wp2_with fail;refine(N _ _ _ (j.be d) f g).mono ?_;rintro e2 w2 ⟨v2,rfl,i,J⟩;replace f:=f.be J;replace g:=g.be J;replace d:=aC d J;clear N;go_wp2_with fail;refine(O _ _ _ f g).mono ?_;rintro e3 w3 ⟨v3,rfl,r,z⟩;replace f:=f.be z;replace g:=g.be z;replace i:=i.be z;replace d:=aC d z;clear O;go_wp2_with fail;refine(p2 _ _ (j.be d) f).mono ?_;rintro e4 w4 ⟨v4,rfl,n,s⟩;obtain⟨A4,c4,rfl, -⟩:=n.form;replace f:=f.be s;replace g:=g.be s;replace i:=i.be s;replace r:=r.be s;replace d:=aC d s;clear p2;go_wp2_with fail;refine(P _ _ f).mono ?_;rintro e5 w5 ⟨v5,rfl,y,C⟩;obtain⟨A5,c5,rfl, -⟩:=y.form;replace i:=i.be C;replace r:=r.be C;replace n:=n.be C;replace d:=aC d C;clear P f g;go_wp2_with fail;refine(V9 L _ _ _ i r lT).mono ?_;rintro e6 w6 ⟨rfl,K⟩;replace n:=n.be K;replace y:=y.be K;replace d:=aC d K;go_wp2_with fail;refine(Y _ _ _ _ _ n y).mono ?_;rintro e7 w7 ⟨rfl,ac⟩;replace d:=aC d ac;clear Y;go_wp2_with fail;refine(aq2 _ (j.be d)).mono ?_;rintro e9 w9 ⟨rfl,M⟩;go_wp2;go_ret;exact⟨rfl,aC d M⟩
end Go.Proofs.YtapgbkldiinabaaGreatDoor
namespace Go.Proofs.YtapgbkldiinabaaGreatDoor
open Go.ChangeShapes Go.WideShapes Go.ChangeAt Go.WideMaps Go.WideElems Go.RowKit Go.Proofs.Tryz
def own:ownKnob Tryz.prog.godebug=none:=by kernel_rfl
def LZ:laidOutB prog=true:=by kernel_rfl
def ayO:Tryz.prog.cellsOf 9=1:=by kernel_rfl
def ayP:Tryz.prog.globalNamed "math/bits.deBruijn64tab" =some 1:=by kernel_rfl
def ayQ:Tryz.prog.globalNamed "internal/strconv.uint64pow10" =some 0:=by kernel_rfl
def ayR:(Tryz.prog.globals[1]?).map (·.type)=some 204:=by kernel_rfl
def ayS:(Tryz.prog.globals[0]?).map (·.type)=some 194:=by kernel_rfl
def ayT:Tryz.prog.cellsOf 204=64:=by kernel_rfl
def ayU:Tryz.prog.cellsOf 194=20:=by kernel_rfl
def ayV:Tryz.prog.cellsOf 5=1:=by kernel_rfl
def ayW:Tryz.prog.cellsOf 82=1:=by kernel_rfl
def uX:List (String×DataW Unit):=[("math/bits.deBruijn32tab",Rows.laid_math_bits_deBruijn32tab),("math/bits.deBruijn64tab",Rows.laid_math_bits_deBruijn64tab),("internal/strconv.uint64pow10",Rows.laid_internal_strconv_uint64pow10)]
def ayX(os:Os)(args:Array Value):laidMetH prog uX ((World.doorLaid prog 400 os).forCall (fun _ _=>0) ⟨#[],args,[]⟩).memory:=
 laidMetH_of_parts3 (fuel:=8) (laidMet_of_run' 8 (by kernel_rfl) (by kernel_rfl)) (by kernel_rfl) (by kernel_rfl)
def ayY:(Rows.laid_math_bits_deBruijn64tab:DataW Unit)=Lib.tabData .u8 (Lib.deBruijn64tab.map (fun z:Nat=>(z:Int))):=by rfl
def ayZ:(Rows.laid_internal_strconv_uint64pow10:DataW Unit)=Lib.tabData .u64 Lib.pow10Tab:=by rfl
def az0{W:World}(h:laidMetH prog uX W):Glob W:=by
 rw[MakeChecks.laidMetH_plain _ _ _ (by kernel_rfl)] at h;obtain⟨D,⟨t,H,n,q,A,E,x,y,z,w,⟨u,I,o,r,B,F,c,i,l,a,⟨v,J,p,s,C,G,f,k,m,b,_,_⟩,_⟩,_⟩,_,_⟩:=h;obtain rfl:=Option.some.inj (ayP.symm.trans c);obtain rfl:=Option.some.inj (ayQ.symm.trans f);obtain rfl:=Option.some.inj (ayR.symm.trans i);obtain rfl:=Option.some.inj (ayS.symm.trans k);rw[ayY] at a;rw[ayZ] at b;have d:=Lib.cells_of_tab underlying204 underlying5 ayV ayT a;have e:=Lib.cells_of_tab underlying194 underlying82 ayW ayU b;refine⟨fun j g=> ?_,?_⟩
 ·have:=World.var?_cell c l j;rw[this,<-Array.getElem?_toList,d];simp[List.getElem?_map,List.getElem?_eq_getElem g]
 ·unfold Lib.TabIs;rw[m,<-e]
def az1{H:Type}{enc:TypeId×Value->H}{W:World}{p:Option Addr}{c k fuel:Nat}{x:DataW H×List MemPlace}
  (w:DataW.trod enc prog W 0 (fun _=>true) true fuel 22 [.slice p c k]=some x):
  ∃t:List (List UInt8),StrsAt W (.slice p c k) t∧∀l∈t,l.length<=9223372036854775807:=by
 rcases open_strings underlying22 underlying9 ayO w with ⟨d,C⟩|⟨a,G,E,o,d,_,y,F,D,C,m,B⟩
 ·simp at d;obtain⟨rfl,rfl,rfl⟩:=d;exact⟨[],StrsAt.nil _ _ _,fun l h=>by cases h⟩
 ·simp at d;obtain⟨rfl,rfl,rfl⟩:=d;simp only[if_true] at D;obtain⟨b,f,u⟩:=a;have n:((o.take c).map (·.data.toList)).length=c:=by simp;omega
  refine⟨(o.take c).map (·.data.toList),⟨some ⟨b,f,u⟩,k,by rw[n],by rw[n];exact y,?_⟩,fun l h=> ?_⟩
  ·rcases Nat.eq_zero_or_pos c with q|q
   ·left;rw[q];rfl
   ·right;have A:u=none:=by simpa [Addr.add] using World.cell?_spot (m 0 (by omega))
    subst A;refine⟨b,f,rfl,?_,fun i l j=> ?_⟩
    ·have g:=m 0 (by omega);exact block_lt_of_cell (a:=⟨b,f,none⟩) (by simpa [Addr.add] using g)
    ·have r:=(List.getElem?_eq_some_iff.1 j).1;rw[n] at r;have g:=m i (by omega);have v:(⟨b,f,none⟩:Addr).add i=⟨b,f+i,none⟩:=by unfold Addr.add;split<;>simp_all
     rw[v] at g;rw[g];rw[List.getElem?_map,List.getElem?_take_of_lt r,List.getElem?_eq_getElem (by omega)] at j;simp only[Option.map_some,Option.some.injEq] at j;subst j;simp[List.getD,List.getElem?_eq_getElem (show i<o.length by omega)]
  ·obtain⟨s,z,rfl⟩:=List.mem_map.1 h;have:=B s (List.mem_of_mem_take z);unfold maxLen at this;have e:s.data.toList.length=s.size:=Array.length_toList;rw[e];exact this
def az2{H:Type}{enc:TypeId×Value->H}{P:Program}{f:Func}{s:ChangeSpec}{W e:World}{args:Array Value}{y:TypeId}{d:List (DataW H)}{a:List MemPlace}
  (g:DataW.Whole enc P f.params.toList s.vars false W args.toList d [] a)(hv:s.vars=[])(q:f.resultTypes= #[y])(v:P.underlying y=some .bool)
  (i:s.fn H d={ results:=[.lit (.bool true)],args:=d })
  (A:∀sp:Nat->Bool,(∀p∈a,sp p.block=true)->DataW.TrodAll enc P e 0 sp true f.params.toList args.toList d a)(l:Below W.heap.size W e):
  s.post enc P f false true false false W args (.bool true) e:=by
 have o:∀p∈a,p.block<W.heap.size:=fun p c=>g.lt p c;have C:∀p∈a,(fun b=>decide (b<W.heap.size)) p.block=true:=fun p c=>by simpa using o p c
 have u:∀(b:Nat) (sp:Nat->Bool) (m:Bool),DataW.TrodAll enc P e b sp m f.resultTypes.toList ((Value.bool true).resultList f.resultTypes.size) (s.fn H (d++[])).results []:=fun b sp m=>by
  rw[List.append_nil,i,q];exact trodAll_mk1 (shut_bool v _)
 have k:∀sp:Nat->Bool,(∀p∈a,sp p.block=true)->DataW.TrodAll enc P e 0 sp true f.params.toList args.toList (s.fn H (d++[])).args a:=fun sp h=>by
  rw[List.append_nil,i];exact A sp h
 have w:∀sp:Nat->Bool,DataW.TrodVars enc P e sp s.vars (s.fn H (d++[])).vars []:=fun sp=>by
  rw[List.append_nil,i,hv];exact rfl
 refine⟨d,[],a,[],a,[],g,u _ _ _,k _ C,w _,World.keptBut_mono (fun p c=>⟨c,.inr (.inl c)⟩) (l.frame (·∈a)),fun _=> ?_⟩;obtain⟨_,_,_,_,_,E,hn⟩:=g;refine⟨fun j t r B D=> ?_,_,_,([]++a)++[],⟨[]++a,[],trodAll_append (k _ (fun _ _=>rfl)) (u _ _ _),w _,rfl,fun b x c=> ?_,fun z=>by cases z⟩,fun p c _=>by simpa using c⟩
 ·exact ok_one (by rw[q]) rfl (okWide_bool_mk v true) j t r B D
 ·have n:MemPlace.cell b x∈a:=by simpa using c
  rw[l.frozen (o _ n)];exact E b x n
