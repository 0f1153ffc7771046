/- Laws. -/
import Derived.Test.YtjgbleapffgbcaaGreatDoorV25
set_option linter.all false
set_option maxHeartbeats 8000000
set_option maxRecDepth 99999
namespace Go.Proofs.YtjgbleapffgbcaaGreatDoor
open Go.RowKit Sos Tryz
def rZ(ns:List Int):Rat:=((jE (ns.take (ns.length-1)):Int):Rat)/(((cf ns (ns.length-1)).natAbs:Int):Rat)+1
def IY{ns:List Int}{K:Nat}(b:∀n∈ns,nl n.natAbs<=K)(a:1<=K):RL (2*K+2) (rZ ns)∧RL K (((jE (ns.take (ns.length-1)):Int):Rat)/(((cf ns (ns.length-1)).natAbs:Int):Rat)):=by
 have h:=pM (KJ b (ns.length-1)) (show nl (((cf ns (ns.length-1)).natAbs:Int)).natAbs<=K by rw[dD];exact iU b _) a;exact⟨bU (wW h (bU rY a)) (by omega),h⟩
def IZ(x y:Rat)(a b:Value)(w:World)(_:Glob w)(f:RatAt w a x)(g:RatAt w b y)(i:y.den=1)(K:Nat)(d:RL K x)(c:RL K y)(e:10*K+40<=aJ):Calls prog 63 #[a,b] w (iF w (x+y)):=by
 by_cases h:x.den=1
 ·exact J7 x y a b w f g h i K d c e
 ·exact J8 x y a b w f g h i K d c e
def UK(ns:List Int)(v:Value)(w:World)(o:Glob w)(hv:WholeAt w v ns)(Q:ns≠[])(ht:aN ns)(K:Nat)(y:∀n∈ns,nl n.natAbs<=K)(hl:ns.length<=65)(h1:1<=K)(ao:K<=1073741824):
  Calls prog 43 #[v] w (iF w (rZ ns)):=by
 obtain⟨A,c,rfl,hc⟩:=hv.form;have ax:=List.length_pos_iff.2 Q;obtain⟨m,hm⟩:∃m,ns.length-1=m:=⟨_,rfl⟩;have am:(ns.length:Int)-1=(m:Int):=by omega
 have Z:=fun W=>JO ns.length c A W (by omega);simp only[am] at Z;have H:=fun W h=>wS ns (.slice A ns.length c) W h Q (by omega);have bl:=iU y m;obtain⟨-,J⟩:=IY y h1;have al:cf ns m≠0:=by rw[<-hm];exact(dR Q).1 ht
 have bG:=fun j=>KJ y j;unfold rZ;rw[hm] at H J⊢;have S:=fun W v h=>J3 (cf ns m) v W h;have ac:=fun W u v o h p=>I3 (jE (ns.take m)) ((cf ns m).natAbs:Int) u v W o h p K (bG m) (by rw[dD];exact bl) (by unfold aJ;omega);have ad:=fun W=>UQ 1 W (by decide) (by decide);have U:=fun W u v o h p=>IZ (((jE (ns.take m):Int):Rat)/(((cf ns m).natAbs:Int):Rat)) ((1:Int):Rat) u v W o h p rfl K J (bU rY h1) (by unfold aJ;omega);have M:(1:Rat)=((1:Int):Rat):=rfl;rw[M];have az:(0:Int)<=(m:Int):=by omega
 have a0:(m:Int)<=(c:Int):=by omega
 unfold dW at H S;unfold iF at ac ad U;unfold iF;generalize (((jE (ns.take m):Int):Rat)/(((cf ns m).natAbs:Int):Rat))=F at *;generalize ((1:Int):Rat)=a2 at *;generalize cf ns m=cl at *;clear J bl M al;obtain⟨W,eW,a,R,G⟩:=eL w [.bool false,.slice none 0 0,.bool false,.slice none 0 0] 76 [.bool false,.slice none 0 0] 60;have cM:=aa R.g4 G.g2;go_enter func43,ntmps43;go_wp2_with fail;(try rw[eW]);clear eW;refine(Z _).mono ?_;rintro M w1 ⟨rfl,rfl⟩;have af:IntBx w1 (w.1.size+1) (jE (ns.take 0)):=⟨_,_,_,_,G,IntAt.zero _⟩;clear G;go_wp2_with fail;go_loopg [12] m (fun k i wr=>∃j,Hid (j+k=m)∧i= .int .i64 j∧IntBx wr (w.1.size+1) (jE (ns.take j))∧Bx wr w.1.size [.bool false,.slice none 0 0,.bool false,.slice none 0 0] 76∧Below w.1.size w wr)
 case atStart=>exact⟨0,by unfold Hid;omega,rfl,af,R,a⟩
 case round=>
  clear af R a;obtain⟨j,t,rfl,⟨s,B,l,d,G,f⟩,R,a⟩:=hrel;generalize wr=wy at *;have au:(0:Int)<=(j:Int):=by omega
  cases gk with
  |zero=>
   obtain rfl:j=m:=t.out;have cG:=G.g2;go_wp2_with fail
   go_region_held3 (fun w'=>C2 w' (w.1.size+1) (.bool s) (.slice B l d))
    (first|(with_reducible exact G.up.k2)|(with_reducible exact fQ (by omega) (fQ (by omega) (fQ (by omega) (fQ (by omega) G.up.k2)))))
    (first
     |(go_at_call 37;refine(H _ (hv.be a).up).mono ?_;rintro e3 w3 ⟨v3,rfl,e,z⟩;obtain⟨s3,I,k3,L,rfl⟩:=e.form;have:=St.mk z)
     |(go_at_call 38;refine(S _ _ e.up).mono ?_;rintro N w4 ⟨v4,rfl,h4,C⟩;obtain⟨s4,A4,k4,c4,rfl⟩:=h4.form;have:=St.mk C)
     |(go_at_call 39;refine(ac _ _ _ (o.be a).up f.up h4.up).mono ?_;rintro e5 w5 ⟨v5,rfl,h5,g⟩;obtain⟨s5,A5,k5,c5,s6,A6,k6,c6,rfl⟩:=h5.form;have:=St.mk g)
     |(go_at_call 97;refine(ad _).mono ?_;rintro e7 w7 ⟨v7,rfl,h7,aj⟩;obtain⟨s7,A7,k7,c7,s8,A8,k8,c8,rfl⟩:=h7.form;have:=St.mk aj)
     |(go_at_call 63;refine(U _ _ _ (o.be a).up h5.up h7.up).mono ?_;rintro e9 w9 ⟨v9,rfl,h9,ak⟩;obtain⟨s1,A1,k1,c1,s2,A2,k2,c2,rfl⟩:=h9.form;have:=St.mk ak;have R9:=R.up (b:=w9);have an:=R9.g4))
   all_goals (
    go_wp2_with fail;obtain⟨W6,x,R6,V,hk,ff⟩:=R9.put4 (bJ (b:=w9) a) aE (.bool s1) (.slice A1 k1 c1) (.bool s2) (.slice A2 k2 c2) rfl rfl;rw[x];exact aM (v:= .agg #[.bool s1,.slice A1 k1 c1,.bool s2,.slice A2 k2 c2]) (by simp[results,results43,go_sem,R6.k4]) rfl ⟨_,rfl,h9.ke hk,V⟩)
  |succ k=>
   have aw:j<m:=by have:=t.out;omega
   have av:(j:Int)<(m:Int):=by omega
   obtain⟨n,hn⟩:∃n,ns[j]? =some n:=⟨_,aR (by omega)⟩;have ag:=KH hn;have kn:=y n (dG hn);obtain⟨b,s',B',l',d',ah,ar,g0,g1,E⟩:=(hv.be a).at_ hn;subst ah;have T:=fun W v h=>J3 n v W h;have D:=fun W u v h p=>BX (n.natAbs:Int) (jE (ns.take j)) u v W h p (by rw[dD];omega) (aH (bG j) (by omega));have ae:=aB ag;unfold dW at T;unfold eO at D;obtain⟨P,hP⟩:∃P,bZ (n.natAbs:Int) (jE (ns.take j))=P:=⟨_,rfl⟩;have ai:=kJ (n.natAbs:Int) (jE (ns.take j));rw[hP] at D ai;clear ag hn H S ac ad U Z hP;generalize jE (ns.take j)=O at *;obtain⟨w2,e2,r,X⟩:=bI wy [.bool s',.slice B' l' d'] 60;replace G:=G.be r;replace R:=R.be r;replace f:=f.be r;replace E:=E.be r;replace a:=aC a r;have cX:=X.k2;go_wp2_with fail;(try rw[e2]);(try clear e2);refine(T _ _ E).mono ?_;rintro e3 w3 ⟨v3,rfl,e,z⟩;obtain⟨s3,I,k3,L,rfl⟩:=e.form;obtain⟨w4,N,C,Y⟩:=bI w3 [.bool s3,.slice I k3 L] 60;have q:=aC z C;replace G:=G.be q;replace R:=R.be q;replace f:=f.be q;replace e:=e.be C;replace a:=aC a q;have cY:=aa Y.k2 G.k2;clear cX X E g0 g1;go_wp2_with fail;(try rw[N]);(try clear N);refine(D _ _ _ e f).mono ?_;rintro e5 w5 ⟨rfl,g⟩;replace Y:=Y.be g;replace G:=G.be g;replace R:=R.be g;replace f:=f.be g;replace e:=e.be g;replace a:=aC a g;have aq:=Y.lt;have a1:=q.size;have cY:=aa Y.k2 G.g2;clear T D;by_cases ay:O<(n.natAbs:Int)
   ·obtain rfl:P=1:=by omega
    go_wp2_with fail;obtain⟨W6,x,G6,V,hk,ff⟩:=G.put2 a (by omega) (.bool s3) (.slice I k3 L) rfl rfl;rw[x];clear x;go_roundg k
    case rel=>exact⟨j+1,by have:=t.out;unfold Hid;omega,by go_num,⟨_,_,_,_,G6,by rw[ae.out,if_pos (show O<(n.natAbs:Int) by omega)];exact e.ke hk⟩,ff R (by omega),V⟩
    case measure=>omega
   ·have ap:¬(0:Int)<P:=by omega
    go_wp2;go_roundg k
    case rel=>exact⟨j+1,by have:=t.out;unfold Hid;omega,by go_num,⟨_,_,_,_,G,by rw[ae.out,if_neg (show¬O<(n.natAbs:Int) by omega)];exact f⟩,R,a⟩
    case measure=>omega
end Go.Proofs.YtjgbleapffgbcaaGreatDoor
namespace Go.Proofs.YtjgbleapffgbcaaGreatDoor
open Sos
variable{a s w:List Int}
def jF(A:List Rat):Rat:=Y6 (cf A (A.length-1)) (A.take (A.length-1))+1
def czJ{A:List Rat}(h:Prp A a)(l:aN a)(i:a≠[]):rZ a=jF A:=by
 obtain⟨c,j,rfl⟩:=h.eq_smul;have f:=(dR i).1 l;have k:(1:Rat)/c≠0:=by
  intro e;have:(1:Rat)/c*c=1:=by rw[gW j]
  rw[e,aqQ] at this;exact absurd this (by decide)
 have g:=Z2 f k (a.take (a.length-1));have b:∀n:Int,(n:Rat)/(1/c)=c*(n:Rat):=fun n=>by grind
 have d:(a.take (a.length-1)).map (fun n:Int=>(n:Rat)/(1/c))=(aT c a).take (a.length-1):=by
  unfold aT;rw[<-List.map_take];exact by3 (fun n _=>b n)
 rw[b,d] at g;unfold rZ jF;rw[fX,dS,g]
def ZE:aT 1 [-2,0,1]=[-2,0,1]:=by
 unfold aT;simp only[fM,aqJ,azF];rfl
def D6:Prp [-2,0,1] [-2,0,1]:=by
 have h:=jY (c:=1) (l:=[-2,0,1]) (by decide) (oB rfl);rw[show([-2,0,1]:List Int).map (fun n:Int=>(1:Rat)*(n:Rat))=[-2,0,1] from ZE] at h;exact h
def ZF:jF [-2,0,1]=3:=by
 rw[<-czJ D6 (oB rfl) (by simp)];have a:jE (([-2,0,1]:List Int).take (([-2,0,1]:List Int).length-1))=2:=by decide
 have b:((cf ([-2,0,1]:List Int) (([-2,0,1]:List Int).length-1)).natAbs:Int)=1:=by decide
 unfold rZ;rw[a,b];have c:((2:Int):Rat)=2:=rfl;have d:((1:Int):Rat)=1:=rfl;rw[c,d];grind
def ZG:Pw 3 2:=by
 refine⟨by decide,fun m a=> ?_⟩;rcases(show m=0∨m=1 by omega) with rfl|rfl<;>decide
def ZH{c:List (List Int)}(f:Prp [-2,0,1] w)(h:Cn 110079 w s c):ExK 110079 y7 (fun x=>aY 0 ((s :: c).map (fun a=>aP a 0 x))) (fun x=>aP s 0 x) (((-((2:Int)^2):Int)):Rat) ((((2:Int)^2:Int)):Rat) [(-4,0),(0,4)]:=by
 have b:(((-((2:Int)^2):Int)):Rat)= -4:=by decide
 have d:((((2:Int)^2:Int)):Rat)=4:=by decide
 rw[b,d];have k:=fun x=>h.same KQ (by decide) (by decide) f D6 0 x;obtain⟨l,m,n⟩:=Z6;obtain⟨g,i,j⟩:=Z7;refine(Z3 ⟨?_,?_,?_⟩ ⟨fun e=> ?_,fun e=> ?_,fun e=> ?_⟩).mono (by decide)
 ·exact(k (-4)).1.trans l
 ·exact(k 0).1.trans m
 ·exact(k 4).1.trans n
 ·rw[(k (-4)).2,g] at e;exact absurd e (by decide)
 ·rw[(k 0).2,i] at e;exact absurd e (by decide)
 ·rw[(k 4).2,j] at e;exact absurd e (by decide)
end Go.Proofs.YtjgbleapffgbcaaGreatDoor
namespace Go.Proofs.YtjgbleapffgbcaaGreatDoor
open Go.RowKit Sos Tryz
variable{W w w' w1:World}{B K a b g k o:Nat}{f s1 z:Bool}{bs c:List UInt8}{C:List (List Rat)}{e:Ending}{Q S d:List Rat}{i j u u0 u1 v:Value}{X q x y:Rat}{P R t t':TypeId}{D n:Int}{l:List (Rat×Rat)}{cs r:List Value}{T ls:List (List UInt8)}
def RatBx(w:World)(g:Nat)(f:Rat):Prop:=∃s1 A1 k1 c1 s2 A2 k2 c2,Bx w g [.bool s1,.slice A1 k1 c1,.bool s2,.slice A2 k2 c2] 76∧RatAt w (.agg #[.bool s1,.slice A1 k1 c1,.bool s2,.slice A2 k2 c2]) f
def RatBx.be{f:Rat}(h:RatBx w g f)(a:Below w.1.size w w'):RatBx w' g f:=by
 obtain⟨s1,A1,k1,c1,s2,A2,k2,c2,b,c⟩:=h;exact⟨s1,A1,k1,c1,s2,A2,k2,c2,b.be a,c.be a⟩
def RatBx.lt{f:Rat}(h:RatBx w g f):g<w.1.size:=by
 obtain⟨s1,A1,k1,c1,s2,A2,k2,c2,a,b⟩:=h;exact a.lt
section
variable {W0 w:World}{g:Nat}{s1 s2:Bool}{A1 A2:Option Addr}{k1 c1 k2 c2:Nat}{f:Rat}{v:Value}{ns:List Int}
end
def ChT.last{a:List Int}{b c:Rat}(h:ChT B a b [] c C):C=[]:=by
 cases h with
 |done=>rfl
 |step d=>exact absurd rfl d
def ChT.split{a b:List Int}{g c:Rat}(h:ChT B a g b c C)(d:b≠[]):∃r' f C2,C=aT c b :: C2∧ChT B b c r' f C2∧r'.length<b.length∧(∀Q R,DivQ (aT g a) (aT c b) Q R->aW aV (oA [] (-1) R)=aT f r')∧cf (aT c b) (b.length-1)≠0:=by
 cases h with
 |done=>exact absurd rfl d
 |step d h e m l k j n hn t=>
  refine⟨_,_,_,rfl,t,by rw[l];exact h.r_lt,fun Q R i=>CS d h e m k j i,?_⟩;rw[dS];exact m6 e.2.1 (gJ ((dR d).1 e.2.2))
def ChT.trim{a b:List Int}{e c:Rat}(h:ChT B a e b c C):aN (aT c b):=by
 cases h with
 |done=>exact fun x f=>by simp[aT] at f
 |step i h d m l k j g hn t=>exact CQ (.inl d.2.1) d.2.2
def ChT.nums{a b:List Int}{d c:Rat}(h:ChT B a d b c C)(e:∀X∈C,∀q∈X,RL K q):∀q∈aT c b,RL K q:=by
 cases h with
 |done=>exact fun q f=>by simp[aT] at f
 |step j h g n m l k i hn t=>exact e _ iC
def REnd(w:World)(v:Value)(f:Bool)(x:Rat):Prop:=∃s1 a e c h b g d,v= .agg #[.bool f,.bool s1,.slice a e c,.bool h,.slice b g d]∧NQ w (.agg #[.bool s1,.slice a e c,.bool h,.slice b g d]) x
def REnd.be(h:REnd w v f x)(g:Below w.1.size w w'):REnd w' v f x:=by
 obtain⟨k,a,i,c,l,b,j,d,e,h⟩:=h;exact⟨k,a,i,c,l,b,j,d,e,h.be g⟩
def REnd.up{a b:World}[u:Up a b](h:REnd a v f x):REnd b v f x:=h.be u.out
def kL(w:World)(B:Bool)(E:Int)(e:Ending)(w':World):Prop:=e= .returned (.tuple #[.bool B,.int .i64 E])∧Below w.1.size w w'
def AL(w:World)(B:Bool)(e:Ending)(w':World):Prop:=e= .returned (.bool B)∧Below w.1.size w w'
def RetNg.bo{P:Prop}{B:Bool}(a:B=true↔P)(h:RetNg w P e w'):AL w B e w':=by
 obtain⟨b,rfl,c,h⟩:=h;have e:b=B:=Bool.eq_iff_iff.2 (c.trans a.symm);exact⟨by rw[e],h⟩
structure Lg(ls:List (List UInt8)):Prop where
 vl:vl ls=true
 len:ls.length<=9
 txt:∀l∈ls,l.length<=1073741824
 rl:∀q∈aU ls,RL 2293 q
def OB(w:World)(a:List (List UInt8))(e:Ending)(w':World):Prop:=∃A c g b f d D,e= .returned (.tuple #[.slice A (cC (aU a) D).length c,.agg #[.bool g,.slice b f d],.int .i64 0])∧ComDen (aU a) D 20638∧WholeAt w' (.slice A (cC (aU a) D).length c) (cC (aU a) D)∧Below w.1.size w w'
def Lg.read{a:List (List UInt8)}(h:Lg a)(v:Value)(w:World)(b:Glob w)(hv:StrsAt w v a):Calls prog 30 #[v] w (VB w a 20638):=
 VD a v w b hv (by have:=h.len;omega) (fun _=>h.txt) 2293 20638 9 (fun _=>h.rl) (fun _=>h.len) (by decide) (by decide) (by unfold aJ;decide)
def dz5(a:List (List UInt8))(q:Lg a)(E:a≠[])(v:Value)(w:World)(p:Glob w)(hv:StrsAt w v a):Calls prog 35 #[v] w (OB w a):=by
 obtain⟨A,c,rfl,hc⟩:=hv.form;have l:=fun W p hv=>q.read (.slice A a.length c) W p hv;have S:(aU a).length=a.length:=cH _;have s:=q.vl;unfold OB;unfold VB at l;rw[s] at l;clear q;obtain⟨W,C,d,R⟩:=bI w [.bool false,.slice none 0 0] 60;have N:=R.g2;go_enter func35,ntmps35;go_wp2_with fail;(try rw[C]);clear C;refine(l _ (p.be d) (hv.be d)).mono ?_;rintro Z U ⟨v1,ad,xs,D,rfl,f,i,K,G⟩;obtain⟨u,y,rfl,P⟩:=f.form;obtain⟨o,g,n,h,rfl⟩:=i.form;replace R:=R.be G;replace d:=aC d G;have ac:=R.lt;obtain⟨V,z,j,F⟩:=bI U [.bool o,.slice g n h] 60;replace R:=R.be j;replace f:=f.be j;replace i:=i.be j;replace d:=aC d j;have Y:=F.k2;have N:=aa R.g2 F.k2;clear l;obtain⟨rfl,k⟩:=K trivial;have Q:(cC (aU a) D).length=a.length:=by rw[oN,S]
 have H:(cC (aU a) D).length≠0:=fun e=>E (bX (by omega));have J:=oO k.pos k.dvd (pJ s).2.2;have O:=f.apart (fun e=>H (by rw[e];rfl)) J R (IntAt.zero _);have T:(((cC (aU a) D).length:Int)==0)=false:=by rw[beq_eq_false_iff_ne];omega
 have M:=aB k;clear K s E k Q H J;obtain⟨t,r⟩:∃t,cC (aU a) D=t:=⟨_,rfl⟩;have x:=aB r;rw[r] at f T P⊢;clear r;go_wp2_with fail;(try rw[z]);(try clear z);go_region
 all_goals (
  go_wp2_with fail;obtain⟨-,I⟩:=IntBx.stored (w:=V) (b:=w.1.size) (m:=0) ⟨_,_,_,_,R,IntAt.zero _⟩ i;have L:=f.step I O;clear I;obtain⟨X,B,R,d,hk,ff⟩:=R.put2 d (by omega) (.bool o) (.slice g n h) rfl rfl;rw[B] at L;rw[B];exact aM (v:= .tuple #[.slice u t.length y,.agg #[.bool o,.slice g n h],.int .i64 0]) (by simp[results,results35,go_sem,R.k2]) rfl ⟨u,y,o,g,n,h,D,by rw[x.out],M.out,by rw[x.out];exact L.drew,d.drew⟩)
def AP(w:World)(a:List (List UInt8))(e:Ending)(w':World):Prop:=∃D s c,ComDen (aU a) D 20638∧Sqp 9000000000 (aS (cC (aU a) D)) s∧Sy s∧StT 9000000000 s (aS (bB s)) c∧e= .returned (.tuple #[.int .i64 (fF s c (-1) 0 1 0),.int .i64 0])∧Below w.1.size w w'
def dz6(a:List (List UInt8))(l:Lg a)(H:a≠[])(v:Value)(w:World)(d:Glob w)(hv:StrsAt w v a):
  Calls prog 64 #[v,.string ⟨([]:List UInt8).toArray⟩,.string ⟨([]:List UInt8).toArray⟩] w (AP w a):=by
 obtain⟨A,c,rfl,hc⟩:=hv.form;have Q:=fun W d h=>dz5 a l H (.slice A a.length c) W d h;have p:=fun W d=>J2 [] (-1) W d (by decide);have q:=fun W d=>J2 [] 1 W d (by decide);have i1:lC [] (-1)= -1:=rfl;have i2:lC [] 1=1:=rfl;have i3:m5 []=0:=rfl;have i4:nJ []=true:=rfl;have an:=l.len;have ac:=l.rl;have ag:(aU a).length=a.length:=cH _;have tA:=(pJ l.vl).2.2;unfold OB at Q;unfold J1 at p q;unfold AP;simp only[i1,i2,i3,i4] at p q;clear i1 i2 i3 i4 l;go_enter func64,ntmps64;go_wp2_with fail;refine(Q _ d hv).mono ?_;rintro e1 w1 ⟨A1,c1,s2,A2,k2,c2,D,rfl,o,i,f⟩;obtain⟨w2,e2,J,F⟩:=bI w1 [.bool s2,.slice A2 k2 c2] 60;replace f:=aC f J;replace i:=i.be J;clear Q;have cF:=F.k2;go_wp2_with fail;(try rw[e2]);(try clear e2);refine(p _ (d.be f)).mono ?_;rintro e3 w3 ⟨v3,rfl,g,K⟩;obtain⟨V,t,R,B,Z,x,S,C,rfl⟩:=g.form;obtain⟨w4,e4,L,X⟩:=bI w3 [.bool V,.slice t R B,.bool Z,.slice x S C,.int .i64 (-1)] 107;replace g:=g.be L;have I:=aC K L;replace f:=aC f I;replace i:=i.be I;have cX:=X.k5;clear p;go_wp2_with fail;(try rw[e4]);(try clear e4);refine(q _ (d.be f)).mono ?_;rintro e5 w5 ⟨v5,rfl,j,M⟩;obtain⟨s6,y,T,E,s7,z,U,G,rfl⟩:=j.form;obtain⟨w6,e6,N,Y⟩:=bI w5 [.bool s6,.slice y T E,.bool s7,.slice z U G,.int .i64 1] 107;replace j:=j.be N;have k:=aC M N;replace g:=g.be k;replace X:=X.be k;replace i:=i.be k;replace f:=aC f k;have cX:=X.k5;have cY:=Y.k5;clear q I k;have ad:(cC (aU a) D).length=a.length:=by rw[oN,ag]
 have ae:cC (aU a) D≠[]:=fun e=>H (bX (by rw[<-ad,e];rfl));have ai:=oO o.pos o.dvd tA;have af:=fun n hn=>aH (sA _ D 2293 _ ac o.nl_ n hn) (show 2293+20638<=23000 by decide);have ah:=fun W d h=>dzC (cC (aU a) D) (.slice A1 (cC (aU a) D).length c1) W d h ai ae (by omega) af;have O:=fun s W u d h (m:Sqp 9000000000 (aS (cC (aU a) D)) s) (r:Sy s) g j=>dxP s (-1) 1 0 0 u (.agg #[.bool V,.slice t R B,.bool Z,.slice x S C,.int .i64 (-1)]) (.agg #[.bool s6,.slice y T E,.bool s7,.slice z U G,.int .i64 1]) W d h m.ts m.ne r g j (by decide) (by decide) (iG (by decide)) (iG (by decide));unfold BA at O;have HF:Hid (ComDen (aU a) D 20638):=o;clear o ad ae ai af ac ag J K L M N H tA;obtain⟨ns,P⟩:∃ns,cC (aU a) D=ns:=⟨_,rfl⟩;have aj:=aB P;rw[P] at i ah O⊢;clear P;go_wp2_with fail;(try rw[e6]);(try clear e6)
 go_region_held3 (fun w'=>C5 w' w3.1.size (.bool V) (.slice t R B) (.bool Z) (.slice x S C) (.int .i64 (-1))∧C5 w' w5.1.size (.bool s6) (.slice y T E) (.bool s7) (.slice z U G) (.int .i64 1)) (with_reducible exact⟨X.up.k5,Y.up.k5⟩)
  (first
   |(go_at_call 36;refine(ah _ (d.be f).up i.up).mono ?_;rintro e7 w7 ⟨v7,s,rfl,h7,m,r,ak⟩;have:=St.mk ak)
   |(go_at_call 110;refine(O s _ _ (d.be f).up h7.up m r g.up j.up).mono ?_;rintro e9 w9 ⟨n,rfl,n1,n2,n3,n4,al⟩;have:=St.mk al))
 all_goals (
  obtain⟨c',am,rfl⟩:=n4 (by unfold jO;rw[if_pos (.inl (by decide))];rfl);go_wp2;go_ret2;exact⟨D,s,c',HF.out,by rw[aj.out];exact m,r,am,rfl,bJ (b:=w9) f⟩)
def dz7(a:List (List UInt8))(j:Lg a)(b:a≠[])(v:Value)(w:World)(i:Glob w)(hv:StrsAt w v a):Calls prog 20 #[v] w (AP w a):=by
 obtain⟨A,c,rfl,m⟩:=hv.form;have h:=dz6 a j b (.slice A a.length c) w i hv;unfold AP at *;go_enter func20,ntmps20;go_wp2_with fail;refine h.mono ?_;rintro l n ⟨D,s,c,d,e,f,g,rfl,k⟩;go_wp2;go_ret2;exact⟨D,s,c,d,e,f,g,rfl,k⟩
def dxM(f:List (List UInt8))(a:List UInt8)(B:Bool)(k:Lg f)(s:nJ a=true)(x:∀D,ComDen (aU f) D 20638->∀W v u,Glob W->WholeAt W v (cC (aU f) D)->EndAt W u (lC a (-1)) (m5 a)->Calls prog 68 #[v,u] W (AL W B))(v:Value)(w:World)(d:Glob w)(hv:StrsAt w v f)(ha:a.length<=18):
  Calls prog 23 #[v,.string ⟨a.toArray⟩] w (kL w B 0):=by
 obtain⟨A,c,rfl,hc⟩:=hv.form;have j:=fun W d h=>k.read (.slice A f.length c) W d h;have i:=fun W d=>J2 a (-1) W d (by omega);unfold VB at j;unfold J1 at i;unfold kL;rw[k.vl] at j;rw[s] at i;clear k s;generalize lC a (-1)=I at *;generalize m5 a=xa at *;go_enter func23,ntmps23;go_wp2_with fail;refine(j _ d hv).mono ?_;rintro e1 S ⟨v1,ac,xs,D,rfl,e,K,y,b⟩;obtain⟨U,V,rfl, -⟩:=e.form;obtain⟨P,z,M,G,rfl⟩:=K.form;obtain⟨w2,l,o,F⟩:=bI S [.bool P,.slice z M G] 60;replace e:=e.be o;replace b:=aC b o;obtain⟨rfl,r⟩:=y trivial;clear j y;have Y:=F.k2;go_wp2_with fail;(try rw[l]);(try clear l);refine(i _ (d.be b)).mono ?_;rintro e3 T ⟨v3,rfl,g,p⟩;obtain⟨Q,C,N,H,R,E,O,J,rfl⟩:=g.form;obtain⟨w4,m,q,X⟩:=bI T [.bool Q,.slice C N H,.bool R,.slice E O J,.int .i64 I] 107;replace g:=g.be q;have n:=aC p q;replace e:=e.be n;replace b:=aC b n;have Z:=X.k5;clear i;have t:=x D r;unfold AL at t;clear x r;generalize cC (aU f) D=ns at *;go_wp2_with fail;(try rw[m]);(try clear m);refine(t _ _ _ (d.be b) e g).mono ?_;rintro e5 w5 ⟨rfl,L⟩;go_wp2;go_ret2;exact⟨rfl,aC b L⟩
def dxN(a:List (List UInt8))(B:Bool)(b:Lg a)(d:∀D,ComDen (aU a) D 20638->∀W v u,Glob W->WholeAt W v (cC (aU a) D)->EndAt W u (-1) 0->Calls prog 68 #[v,u] W (AL W B))(v:Value)(w:World)(f:Glob w)(hv:StrsAt w v a):
  Calls prog 17 #[v] w (kL w B 0):=by
 obtain⟨A,c,rfl,i⟩:=hv.form;have e:=dxM a [] B b rfl d (.slice A a.length c) w f hv (by decide);unfold kL at e;unfold kL;clear d b;go_enter func17,ntmps17;go_wp2_with fail;refine e.mono ?_;rintro h j ⟨rfl,g⟩;go_wp2;go_ret2;exact⟨rfl,g⟩
section
variable {P:Program}{ops:Array Oper}{rest:List Oper}{o:Oper}{a:Act}{Q:Exit->Act->World->Prop}{w:World}
def exS(t ut f e:TypeId)(i:TypeInfo)(b:P.underlying t=some (.slice e))(c:P.underlying ut=some (.int .i64))(hi:P.info? e=some i)(g n:Nat):
  (Builtin.append_ #[t,ut] f #[.slice (some ⟨g,0,none⟩) n n,.int .i64 0]).run P w= .ok (.slice (some ⟨g,0,none⟩) n n) w:=by
 have d:IntKind.i64.wrap 0=0:=IntWalk.i64_in _ (by omega);simp[Builtin.append_,run_underlying b,run_underlying c,sizeOf,typeInfo,hi,asInt,asIntOf,d,storeCells]
def exT(t ut F e:TypeId)(i:TypeInfo)(z:Value)(B:P.underlying t=some (.slice e))(C:P.underlying ut=some (.int .i64))(hi:P.info? e=some i)(E:i.zero=some z)(G:z.cells.size=i.size)(A:0<i.size)
  (g n k:Nat)(b:List Value)(u:b.length=n*i.size)(y:∀j v,b[j]? =some v->w.cell? ((⟨g,0,none⟩:Addr).add j)=some v)
  (r:0<k)(x:n+k<=1073741824)(c:i.bytes<=64):
  (Builtin.append_ #[t,ut] F #[.slice (some ⟨g,0,none⟩) n n,.int .i64 (k:Int)]).run P w=
   .ok (.slice (some ⟨w.1.size,0,none⟩) (n+k) (grownCap w (n+k) n e)) (w.drew.alloc (.cells (b.toArray++Builtin.zeroCells z.cells k++Builtin.zeroCells z.cells (grownCap w (n+k) n e-(n+k))) e)):=by
 have D:IntKind.i64.wrap (k:Int)=(k:Int):=IntWalk.i64_in _ (by omega);have hn:¬(n+k<=n):=by omega
 have f:¬((k:Int)<0):=by omega
 have l:¬(281474976710656<(k:Int)*(i.bytes:Int)):=by
  have h:k*i.bytes<=1073741824*64:=aqK (by omega) c;have d:((k*i.bytes:Nat):Int)<=281474976710656:=by omega
  rw[az8] at d;omega
 have p:¬(9223372036854775807<((n:Int)+(k:Int))):=by omega
 have m:¬(281474976710656<Builtin.nextslicecap (n+k) n*i.bytes):=by
  have:=growslice_fits (need:=n+k) (old:=n) (bytes:=i.bytes) (by omega) (by
   have:(n+k)*i.bytes<=1073741824*64:=aqK x c;omega)
  omega
 have s:¬(k*i.size=0):=by
  have:=aqZ r A;omega
 have q:=run_firstCells_some (P:=P) w.drew i.size n ⟨g,0,none⟩ n n b u (by simpa using y);simp[Builtin.append_,run_underlying B,run_underlying C,sizeOf,typeInfo,zeroValue,hi,E,asInt,asIntOf,D,hn,f,l,p,m,Question.forced,q,newRow,grownCap];exact fun h=>absurd h s
def dyW(M:o.guard=none){s x:Operand}{ut:TypeId}(D:o.op= .call { callee:= .builtin .append,args:= #[s,x],argTypes:= #[t,ut] })
  (e:TypeId)(z:Value)(b bytes:Nat)(G:P.underlying t=some (.slice e))(H:P.underlying ut=some (.int .i64))(hi:(P.info? e).map (fun i=>(i.zero,i.size,i.bytes))=some (some z,b,bytes))(q:z.cells.size=b)(W:0<b)(U:bytes<=64)
  (g n k:Nat)(E:a.eval s= .slice (some ⟨g,0,none⟩) n n){K:Int}(I:a.eval x= .int .i64 K)(J:K=(k:Int))(N:n+k<=1073741824)(rows:List (List Value))(l:Rw w g b rows e)(hn:n<=rows.length)
  (h:∀g' u w' T,(g'=g∧w'=w∨w.1.size<=g')->Rw w' g' b (rows.take n++List.replicate k z.cells.toList++T) e->Below w.1.size w w'->n+k<=u->
   wpList P ops Q rest (a.put o.dst (.slice (some ⟨g',0,none⟩) (n+k) u)) w'):wpList P ops Q (o :: rest) a w:=by
 obtain⟨i,A,R,F,V⟩:=info_parts hi;subst J;refine wpList_plain M fun C y=> ?_;unfold Oper.wp;rcases iB k with f|f
 ·subst f;have p:=exS (P:=P) (w:=w) t ut o.type e i G H A g n;simp only[execOp,D,resolve,invoke,builtin,Sem.run_bind,Sem.run_pure,Result.andThen_ok,bxC,fM,aqJ,E,I,Int.natCast_zero,p];refine y _ _ (h g n w (rows.drop n) (.inl ⟨rfl,rfl⟩) ?_ (aG _ _) aE);rw[aq8,fH,List.take_append_drop];exact l
 ·have S:∀m,(Builtin.zeroCells z.cells m).toList=(List.replicate m z.cells.toList).flatten:=fun m=>O7 z.cells m (by omega);have B:∀r∈rows.take n,r.length=b:=fun r h=>l.2 r (lH h)
  have p:=exT (P:=P) (w:=w) t ut o.type e i z G H A R (by rw[q,F]) (by omega) g n k (rows.take n).flatten (by rw[mX B,bK,F];congr 1;omega) (fun j v hv=>by
   have L:(⟨g,0,none⟩:Addr).add j=⟨g,j,none⟩:=by unfold Addr.add;split<;>simp_all
   rw[L];refine l.1.cell j ?_;have:rows.flatten=(rows.take n).flatten++(rows.drop n).flatten:=by rw[<-byL,List.take_append_drop]
   rw[this,gA ((List.getElem?_eq_some_iff.1 hv).1)];exact hv) f N (by omega)
  simp only[execOp,D,resolve,invoke,builtin,Sem.run_bind,Sem.run_pure,Result.andThen_ok,bxC,fM,aqJ,E,I,p];refine y _ _ (h w.1.size _ _ (List.replicate (grownCap w (n+k) n e-(n+k)) z.cells.toList) (.inr aE) ?_ ((aG w.1.size w).drew.alloc aE _) (grownCap_ge _ _ _ _));refine⟨?_,fun r O=> ?_⟩
  ·unfold Bx;rw[show w.1.size=w.drew.1.size from rfl,heap_alloc_new w.drew _];congr 2;apply Array.ext';simp only[bx5,byL,S]
  ·rcases List.mem_append.1 O with c|c
   ·rcases List.mem_append.1 c with d|d
    ·exact B r d
    ·rw[byK d];simpa using q
   ·rw[byK c];simpa using q
end
def OwnR.zeros{n:Nat}{rows y:List (List Value)}(v:RRow w rows d)(B:d.length=n)(hn:n<=rows.length)(u:Keep w w')
  (h:Rw w' g 4 (rows.take n++List.replicate k [.bool false,.slice none 0 0,.bool false,.slice none 0 0]++y) 76):OwnR w' g (d++List.replicate k 0):=by
 refine⟨_,h,by simp;omega,fun i q b=> ?_⟩;have f:(rows.take n).length=n:=by rw[bK];omega
 rcases dE i n with e|e
 ·rw[gA (by omega)] at b;obtain⟨s,A,l,c,z,m,x,p,r,t⟩:=v i q b;refine⟨s,A,l,c,z,m,x,p,?_,t.ke u⟩;rw[eK,gA (by omega),fC,if_pos e];exact r
 ·rw[fK (by omega)] at b;have j:=(List.getElem?_eq_some_iff.1 b).1;rw[dB] at j;rw[j6,if_pos j] at b;injection b with b;subst b;refine⟨false,none,0,0,false,none,0,0,?_,RatAt.zero _⟩;rw[eK,fK (by omega),gA (by rw[dB,f];omega),j6,if_pos (by rw[f];omega)]
def RetOp(w:World)(op:Rat->Rat->Rat)(a b:List (List UInt8))(e:Ending)(w':World):Prop:=
 if vl a=true∧vl b=true then RetPoly w (aW aV (eX op (aU a) (aU b))) e w' else∃c,e= .returned (.tuple #[c,.int .i64 1])∧StrsAt w' c []∧Below w.1.size w w'
def dyV(F:Nat)(hF:F=63∨F=65)(op:Rat->Rat->Rat)(a b:List (List UInt8))(va vb:Value)(w:World)(o:Glob w)(ha:StrsAt w va a)(af:StrsAt w vb b)(a6:a.length<=1073741824)(a7:b.length<=1073741824)(K:Nat)
  (a3:a.length<=65->∀l∈a,l.length<=1073741824)(a4:b.length<=65->∀l∈b,l.length<=1073741824)(ax:a.length<=65->∀q∈aU a,RL K q)(ay:b.length<=65->∀q∈aU b,RL K q)(bw:1<=K)(hK:2*K+1<=1073741824)(a9:∀x y,RL K x->RL K y->RL (2*K+1) (op x y))(a8:∀x y v u W,Glob W->RatAt W v x->RatAt W u y->RL K x->RL K y->Calls prog F #[v,u] W (iF W (op x y))):
  Calls prog 62 #[va,vb,.func (.func F) #[] #[]] w (RetOp w op a b):=by
 obtain⟨A,c,rfl,hc⟩:=ha.form;obtain⟨A',c',rfl,b1⟩:=af.form;go_enter func62,ntmps62;go_wp2_with fail;refine(TT a _ _ o ha a6 a3).mono ?_;rintro e1 w1 ⟨v1,rfl,S,I⟩;go_wp2_with fail;refine(TT b _ _ (o.be I) (af.be I) a7 a4).mono ?_;rintro e2 w2 ⟨v2,rfl,T,ag⟩;have r:=aC I ag;by_cases f:vl a=true
 ·by_cases p:vl b=true
  ·obtain⟨gx,rfl,U,X⟩:=S f;obtain⟨gy,rfl,b5,Y⟩:=T p;have bk:=(pJ f).1;have bm:=(pJ p).1;have HR:Hid (∀e E,RetPoly w (aW aV (eX op (aU a) (aU b))) e E->RetOp w op a b e E):=fun e E h=>by unfold RetOp;rw[if_pos ⟨f,p⟩];exact h
   have az:=ax bk;have a0:=ay bm;have al:=VS a;have am:=VS b;rw[f,p];clear S T f p ax ay a3 a4 ha af hc b1;generalize aU a=xs at *;generalize aU b=ys at *;rw[<-al,<-am];rw[<-al] at bk a6;rw[<-am] at bm a7;clear al am;have X2:=X.be ag;have cb:gx≠gy:=by have:=X.lt;omega
   have ca:=X2.lt;have ce:=Y.lt;have b6:=r.size;obtain⟨M,hM⟩:∃M,max xs.length ys.length=M:=⟨_,rfl⟩;have cp:max (xs.length:Int) (ys.length:Int)=(M:Int):=by omega
   have cn:xs.length<=M:=by omega
   have co:ys.length<=M:=by omega
   have bz:M<=65:=by omega
   have HM:=aB hM;have ex:xs.length+(M-xs.length)=M:=by omega
   have ey:ys.length+(M-ys.length)=M:=by omega
   have EX:=aB ex;have EY:=aB ey;obtain⟨rx,bn,an,bo⟩:=X2;clear X hM ex ey;have br:True:=trivial
   go_wp2_with (first
    |(at_builtin;have _t:=br;clear br _t;refine dyW rfl rfl 76 _ 4 64 underlying68 underlying3 OC rfl (by decide) (by decide) gx xs.length (M-xs.length) rfl rfl (by omega) (by omega) rx bn an ?_;intro R av w3 cv O ba J a5;obtain⟨ry,bp,ao,bq⟩:=Y.be J;have bs:True:=trivial)
    |(at_builtin;have _t:=bs;clear bs _t;refine dyW rfl rfl 76 _ 4 64 underlying68 underlying3 OC rfl (by decide) (by decide) gy ys.length (M-ys.length) rfl rfl (by omega) (by omega) ry bp ao ?_;intro aw ci w4 cw ai bb L b3))
   have X3:=OwnR.zeros bo rfl an (Keep.be J) ba;have Y4:=OwnR.zeros bq rfl ao (Keep.be L) bb;have X4:=X3.be L;have b8:=X3.lt;have cc:=Y4.lt;have ct:=J.size;have cu:=L.size;have cq:R≠aw:=by rcases O with ⟨rfl,rfl⟩|O<;>rcases ai with ⟨rfl,rfl⟩|ai<;>omega
   have b4:w.1.size<=R:=by rcases O with ⟨rfl,rfl⟩|O<;>omega
   have z:=(aC r J).trans (L.mono (by omega));rw[EX.out] at a5;rw[EY.out] at b3;clear O ai ba bb bn an bo bp ao bq X3 Y cb ca ce I ag J L U b5 b6 b8 cc;replace o:=o;have a1:(xs++List.replicate (M-xs.length) (0:Rat)).length=M:=by rw[dA,dB];exact EX.out
   have a2:(ys++List.replicate (M-ys.length) (0:Rat)).length=M:=by rw[dA,dB];exact EY.out
   have bj:(eX op xs ys).length=M:=by rw[U1];exact HM.out
   have aq:Hid (∀j,j<M->(xs++List.replicate (M-xs.length) (0:Rat))[j]? =some (cf xs j)):=fun j D=>dxX _ _ _ (by rw[EX.out];exact D);have ar:Hid (∀j,j<M->(ys++List.replicate (M-ys.length) (0:Rat))[j]? =some (cf ys j)):=fun j D=>dxX _ _ _ (by rw[EY.out];exact D);have au:Hid (∀j,j<M->(eX op xs ys)[j]? =some (op (cf xs j) (cf ys j))):=fun j D=>dxY _ _ _ (by rw[HM.out];exact D);have ae:=dq5 bw;have ac:Hid (∀j,RL K (cf xs j)):=fun j=>D2 az ae j;have ad:Hid (∀j,RL K (cf ys j)):=fun j=>D2 a0 ae j;have bt:Hid (∀q∈eX op xs ys,RL (2*K+1) q):=fun q hq=>by
    obtain⟨i,_,rfl⟩:=List.mem_map.1 hq;exact a9 _ _ (ac.out i) (ad.out i)
   generalize xs++List.replicate (M-xs.length) (0:Rat)=H at *;generalize ys++List.replicate (M-ys.length) (0:Rat)=YS at *;generalize cg:eX op xs ys=g at *;have Q:=aB a1;have ch:=aB a2;have G:=aB bj;clear a1 a2 bj cg ae az a0;go_loopg [49] M (fun k i wr=>∃j,Hid (j+k=M)∧i= .int .i64 j∧OwnR wr R (g.take j++H.drop j)∧OwnR wr aw YS∧Below w.1.size w wr)
   case atStart=>exact⟨0,by unfold Hid;omega,rfl,by simpa using X4,Y4,z⟩
   case round=>
    clear X4 Y4 z;obtain⟨j,HJ,rfl,X,Y,z⟩:=hrel;generalize wr=wx at *;have cr:(0:Int)<=(j:Int):=by omega
    cases gk with
    |zero=>
     have D:j=M:=HJ.out;subst D;rw[cZ (by rw[G.out];exact aE),gO (by rw[Q.out];exact aE),fH] at X;have hr:=X.rats av (by rw[G.out];exact a5);rw[G.out] at hr;have aj:(aW aV g).length<=65:=aH (oY aV g) (by rw[G.out];exact bz);have ap:=aB aj
     have b7:Calls prog 31 #[.slice (some ⟨R,0,none⟩) j av] wx (fun e E=>∃Z,e= .returned (.tuple #[Z,.int .i64 0])∧StrsAt E Z ((aW aV g).map cW)∧Below wx.1.size wx E):=
      (dxT g _ _ (o.be z) hr (2*K+1) bt.out hK (by rw[G.out];omega)).mono (fun e E h=>by
       obtain⟨Z,he,hs,r⟩:=h;rw[if_pos aj] at he hs;exact⟨Z,he,hs,r⟩)
     clear aj;go_wp2_with fail;refine b7.mono ?_;rintro e5 w5 ⟨v5,rfl,h5,b0⟩;go_wp2;go_ret2;refine HR.out _ _ ?_;unfold RetPoly;rw[if_pos ap.out,if_pos ap.out];exact⟨_,rfl,h5,aC z b0⟩
    |succ k=>
     have P:j<M:=by have:=HJ.out;omega
     have cs:(j:Int)<(M:Int):=by omega
     have V:H.length=g.length:=by rw[Q.out,G.out]
     have ak:=IB (ys:=g) (xs:=H) (j:=j) (by rw[Q.out];exact P) V;have bf:=IC (j:=j) V;have bg:=IA (xs:=H) (ys:=g) (y:=op (cf xs j) (cf ys j)) (j:=j) (au.out j P) V;rw[aq.out j P] at ak;have U:j<(g.take j++H.drop j).length:=by rw[bf,Q.out];exact P
     obtain⟨s,B,l,d,s',B',l',d',p0,p1,p2,p3,hx⟩:=X.at_ ak;obtain⟨t,C,m,e,t',C',m',e',r0,r1,r2,r3,hy⟩:=Y.at_ (ar.out j P);have bx:=ac.out j;have bY:=ad.out j;have f0:=X.free (j*4);have f1:=X.free (j*4+1);have f2:=X.free (j*4+2);have f3:=X.free (j*4+3);have n:=X.be (aG _ _).drew;have Yd:=Y.be (aG _ _).drew;have b9:=hx.drew;have cd:=hy.drew;have N:=z.drew;have bv:=o.be N;have bu:=aB bg;generalize cf xs j=x at *;generalize cf ys j=y at *;have b2:=fun v u W o h h'=>a8 x y v u W o h h' bx bY;clear a8 a9;clear ak bf bg X Y hx hy aq ar au ac ad V;go_wp2_with fail;rcases hF with rfl|rfl
     all_goals (
      go_region_with (first
       |((with_reducible refine(b2 _ _ _ bv b9 cd).mono ?_);rintro e6 w6 ⟨v6,rfl,h6,ah⟩;obtain⟨s6,A6,k6,c6,s7,A7,k7,c7,rfl⟩:=h6.form;replace n:=n.be ah;replace Yd:=Yd.be ah;replace N:=aC N ah;obtain⟨_,_,_,_,_,_,_,_,g0,g1,g2,g3, -⟩:=n.at_ (aR U);have cj:=n.free (j*4);have ck:=n.free (j*4+1);have cl:=n.free (j*4+2);have cm:=n.free (j*4+3)))
      all_goals (
       go_wp2_with fail;obtain⟨zX,bc⟩:=n.stored U h6;rw[bu.out] at zX;have zY:=Yd.step bc (by omega);have zb:=jD N bc b4;go_roundg k
       case rel=>exact⟨j+1,by have:=HJ.out;unfold Hid;omega,by go_num,zX,zY,zb⟩
       case measure=>omega))
  ·have bi:vl b=false:=by simpa using p
   have HN:Hid (¬(vl a=true∧vl b=true)):=fun h=>p h.2;rw[f,bi];clear f p bi S T;go_wp2;go_ret2;unfold RetOp;rw[if_neg HN.out];exact⟨_,rfl,StrsAt.nil _ _ _,r⟩
 ·have bh:vl a=false:=by simpa using f
  have HN:Hid (¬(vl a=true∧vl b=true)):=fun h=>f h.1;rw[bh];clear f bh S T;generalize vl b=ok;go_wp2_with fail
  all_goals (
   go_ret2;unfold RetOp;rw[if_neg HN.out];exact⟨_,rfl,StrsAt.nil _ _ _,r⟩)
def RetOp.form{op:Rat->Rat->Rat}{a b:List (List UInt8)}(h:RetOp w op a b e w'):∃c n,e= .returned (.tuple #[c,.int .i64 n])∧RetOp w op a b (.returned (.tuple #[c,.int .i64 n])) w':=by
 have d:=h;unfold RetOp at h;split at h
 ·obtain⟨c,rfl, -⟩:=h;exact⟨c,_,rfl,d⟩
 ·obtain⟨c,rfl, -⟩:=h;exact⟨c,_,rfl,d⟩
def exR(a b:List (List UInt8))(k m:Value)(w:World)(e:Glob w)(i:StrsAt w k a)(j:StrsAt w m b)(C:a.length<=1073741824)(D:b.length<=1073741824)(K:Nat)
  (t:a.length<=65->∀l∈a,l.length<=1073741824)(z:b.length<=65->∀l∈b,l.length<=1073741824)(r:a.length<=65->∀q∈aU a,RL K q)(s:b.length<=65->∀q∈aU b,RL K q)(p:1<=K)(o:2*K+1<=1073741824):
  Calls prog 19 #[k,m] w (RetOp w (fun x y=>x+y) a b):=by
 obtain⟨A,c,rfl,H⟩:=i.form;obtain⟨E,F,rfl,I⟩:=j.form;have B:=dyV 63 (.inl rfl) (fun x y=>x+y) a b _ _ w e i j C D K t z r s p o (fun x y f g=>wW f g) (fun x y v u W e h n f g=>UW x y v u W e h n K f g (by unfold aJ;omega));go_enter func19,ntmps19;go_wp2_with fail;refine B.mono ?_;rintro G M d;obtain⟨L,J,rfl,d⟩:=d.form;go_wp2;go_ret2;exact d
def exU(a b:List (List UInt8))(k m:Value)(w:World)(e:Glob w)(i:StrsAt w k a)(j:StrsAt w m b)(C:a.length<=1073741824)(D:b.length<=1073741824)(K:Nat)
  (t:a.length<=65->∀l∈a,l.length<=1073741824)(z:b.length<=65->∀l∈b,l.length<=1073741824)(r:a.length<=65->∀q∈aU a,RL K q)(s:b.length<=65->∀q∈aU b,RL K q)(p:1<=K)(o:2*K+1<=1073741824):
  Calls prog 21 #[k,m] w (RetOp w (fun x y=>x-y) a b):=by
 obtain⟨A,c,rfl,H⟩:=i.form;obtain⟨E,F,rfl,I⟩:=j.form;have B:=dyV 65 (.inr rfl) (fun x y=>x-y) a b _ _ w e i j C D K t z r s p o (fun x y f g=>bU (JM f g) (by omega)) (fun x y v u W e h n f g=>cx0 x y v u W e h n K f g (by unfold aJ;omega));go_enter func21,ntmps21;go_wp2_with fail;refine B.mono ?_;rintro G M d;obtain⟨L,J,rfl,d⟩:=d.form;go_wp2;go_ret2;exact d
def cy6(f:Value)(i:Int)(w:World)(b:Value->World->Prop)(G: -9223372036854775808<i)(H:i<=9223372036854775807)(k:Glob w)(a:0<=i->Apps w f (Lib.decDigits i.natAbs) b)
  (hn:i<0->Apps w f [45] (fun g w1=>Glob w1∧Apps w1 g (Lib.decDigits i.natAbs) b)):
  Calls prog 113 #[f,.int .i64 i,.int .i64 10] w fun e w'=>∃c,e= .returned c∧b c w':=by
 have B:i.natAbs<BN:=by unfold BN;omega
 have d:∀W v,Glob W->Apps W v (Lib.decDigits i.natAbs) b->Calls prog 174 #[v,.int .u64 i.natAbs,.int .i64 10] W fun e w'=>∃c,e= .returned c∧b c w':=fun W v k h=>by
  by_cases D:i.natAbs<100
  ·exact TU v i.natAbs W b D h
  ·exact TV v i.natAbs W b (by omega) B k h
 have y:Calls prog 148 #[f,.int .i64 i,.int .i64 10] w fun e w'=>∃c,e= .returned c∧b c w':=by
  by_cases z:i<0
  ·have o:IntKind.u64.wrap i=i+18446744073709551616:=by rw[IntKind.wrap_u64];omega
   have F:IntKind.u64.wrap (-(i+18446744073709551616))=(i.natAbs:Int):=by rw[IntKind.wrap_u64];omega
   have p:Below w.1.size w (w.alloc (.cells #[.int .u8 45] 5)):=(aG _ _).alloc aE _
   obtain⟨g,w1,r,C⟩:=(hn z).2 (w.alloc (.cells #[.int .u8 45] 5)) ⟨w.1.size,0,none⟩ 1 p (fun j u m=>by
    have A:j=0:=by
     have:=(List.getElem?_eq_some_iff.1 m).1;simp[Lib.byteCells] at this;omega
    subst A;simp[Lib.byteCells] at m;subst m;exact(Bx.new w [.int .u8 45] 5).cell 0 rfl)
   obtain⟨x,q⟩:=C;have s:=aB r;have l:=d _ _ x q;clear r hn a p d q;generalize (i.natAbs:Int)=u at *;go_enter func148,ntmps148;go_wp2_with (at_builtin;refine IL rfl rfl rfl rfl rfl s.out ?_);refine l.mono ?_;rintro t E ⟨n,rfl,a⟩;go_wp2;go_ret;exact⟨n,rfl,a⟩
  ·have o:IntKind.u64.wrap i=(i.natAbs:Int):=by rw[IntKind.wrap_u64];omega
   have l:=d _ _ k (a (by omega));clear hn a d;generalize (i.natAbs:Int)=u at *;go_enter func148,ntmps148;go_wp2_with fail;refine l.mono ?_;rintro t E ⟨n,rfl,a⟩;go_wp2;go_ret;exact⟨n,rfl,a⟩
 clear hn a d;go_enter func113,ntmps113;go_wp2_with fail;refine y.mono ?_;rintro o w1 ⟨g,rfl,a⟩;go_wp2;go_ret;exact⟨g,rfl,a⟩
def BufAt(a w:World)(b:Nat)(bs:List UInt8):Prop:=Shape w b 149 48∧VC w b 0 (Lib.byteCells bs)∧Below a.1.size a w∧a.1.size<=b
def BufAt.be{c:World}(h:BufAt c w b bs)(a:Below w.1.size w w'):BufAt c w' b bs:=⟨h.1.be a h.1.lt,h.2.1.be a h.1.lt,h.2.2.1.trans (a.mono h.2.2.1.size),h.2.2.2⟩
def BufAt.apps{q:World}{l:List UInt8}(h:BufAt q w b bs)(C:bs.length+l.length<=48):
  Apps w (.slice (some ⟨b,0,none⟩) bs.length 48) l (fun A w'=>A= .slice (some ⟨b,0,none⟩) (bs++l).length 48∧BufAt q w' b (bs++l)):=by
 refine TS _ _ _ _ ?_;intro f z x r t;obtain⟨i,s,D,m,B⟩:=info_parts nF;obtain⟨d,u,a,y⟩:=h.be r
 have p:=run_append_room_src (P:=prog) f 145 z 145 5 i underlying145 s b 0 bs.length 48 x l.length (Lib.byteCells l) (by rw[m];exact t) (by omega)
  (fun j g=>by rw[Lib.byteCells_length] at g;rw[m,az9,bA];exact d.isSome (by omega)) (fun j _=>d.soft.free _)
 rw[m,az9,bA] at p;refine⟨_,_,p,by rw[dA],Shape.setCells b _ _ f d,?_,?_,y⟩
 ·intro j v hv;rw[IF] at hv;rcases dE j (Lib.byteCells bs).length with k|k
  ·rw[gA k] at hv;rw[bA,World.cell?_setCells_out b _ _ _ _ (fun _ _=> .inl (by rw[Lib.byteCells_length] at k;exact k))];have:=u j v hv;rwa [bA] at this
  ·rw[fK k] at hv;have n:=(List.getElem?_eq_some_iff.1 hv).1;rw[Lib.byteCells_length] at k hv n;have:=World.cell?_setCells_in b (Lib.byteCells l) bs.length f (fun j g=>by rw[Lib.byteCells_length] at g;exact d.isSome (by omega)) (j-bs.length) n;rw[show bs.length+(j-bs.length)=0+j by omega] at this;rw[this,<-hv,aR n]
 ·have c:=II b (Lib.byteCells l) bs.length f;exact⟨c.os.trans a.os,c.tape.trans a.tape,c.output.trans a.output,aH a.size c.size,fun k o=>(c.block k (aZ o a.size) (fun e=>by injection e with e;omega)).trans (a.block k o)⟩
def cyK(l:List UInt8)(w:World)(g:Glob w)(u:l.length<=1073741824):Calls prog 59 #[.string ⟨l.toArray⟩] w (iF w ((cL l).getD 0)):=by
 have q:=fun W g=>wU l W g u;unfold IP at q;generalize (cL l).getD 0=x at *;generalize (cL l).isSome=D at *;obtain⟨W,o,a,R⟩:=bI w [.bool false,.slice none 0 0,.bool false,.slice none 0 0] 76;have r:=R.g4;go_enter func59,ntmps59;go_wp2_with fail;(try rw[o]);clear o;refine(q _ (g.be a)).mono ?_;rintro A y ⟨E,rfl,b,p⟩;obtain⟨k,c,i,e,m,d,j,f,rfl⟩:=b.form;replace R:=R.be p;replace a:=aC a p;have C:=R.lt;obtain⟨F,n,h,P⟩:=bI y [.bool k,.slice c i e,.bool m,.slice d j f] 76;replace b:=b.be h;replace R:=R.be h;replace a:=aC a h;have r:=aa R.g4 P.k4;go_wp2_with fail;(try rw[n]);(try clear n);obtain⟨z,s,R,a,t,B⟩:=R.put4 a (by omega) (.bool k) (.slice c i e) (.bool m) (.slice d j f) rfl rfl;rw[s];exact aM (v:= .agg #[.bool k,.slice c i e,.bool m,.slice d j f]) (by simp[results,results59,go_sem,R.k4]) rfl ⟨_,rfl,b.ke t,a⟩
def Bx.putB2(h:Bx W b cs t)(l:Below B w W)(e:B<=b)(a c:Value)(m:cs=[i,j]):
  ∃d,(W.setCell ⟨b,0,none⟩ a).setCell ⟨b,1,none⟩ c=d∧Bx d b [a,c] t∧Below B w d∧∀{g:Nat} {cs:List Value} {t:TypeId},Bx W g cs t->b≠g->Bx d g cs t:=by
 subst m;exact⟨_,rfl,(h.set 0 a).set 1 c,(l.setCell (p:=⟨b,0,none⟩) e a).setCell (p:=⟨b,1,none⟩) e c,fun k f=>(k.far 0 a f).far 1 c f⟩
def cxN(a b:List UInt8)(w:World)(M:a.length<=1099511627776)(N:b.length<=1099511627776):
  Calls prog 57 #[.string ⟨a.toArray⟩,.string ⟨b.toArray⟩] w fun e w'=>∃n d m f J,e= .returned (.tuple #[.agg #[.int .i64 n,.int .i64 d],.agg #[.int .i64 m,.int .i64 f],.bool J])∧(J=true->cyG a n d∧cyG b m f)∧Below w.1.size w w':=by
 have I:=fun W=>cyM a W M;have z:=fun W=>cyM b W N;obtain⟨W,H,c,R,S⟩:=eL w [.int .i64 0,.int .i64 0] 51 [.int .i64 0,.int .i64 0] 51;have G:=aa R.g2 S.g2;go_enter func57,ntmps57;go_wp2_with fail;(try rw[H]);clear H;refine(I _).mono ?_;rintro Q s ⟨n,d,O,rfl,C,A⟩;have V:=S.lt;have ac:=A.size;obtain⟨w2,i,K,X⟩:=bI s [.int .i64 n,.int .i64 d] 51;have y:=aC A K;replace R:=R.be y;replace S:=S.be y;replace c:=aC c y;have U:=R.lt;have Z:=S.lt;have G:=aa R.g2 (aa S.g2 X.k2);clear I;cases O with
 |false=>
  clear C z;go_wp2_with fail;all_goals (try rw[i])
  obtain⟨u,j,R,c,g⟩:=R.putB2 c (by omega) (.int .i64 0) (.int .i64 0) rfl;replace S:=g S (by omega);rw[j];obtain⟨x,k,S,c,g⟩:=S.putB2 c (by omega) (.int .i64 0) (.int .i64 0) rfl;replace R:=g R (by omega);rw[k];exact aM (v:= .tuple #[.agg #[.int .i64 0,.int .i64 0],.agg #[.int .i64 0,.int .i64 0],.bool false]) (by simp[results,results57,go_sem,R.k2,S.k2]) rfl ⟨_,_,_,_,false,rfl,(fun h=>by cases h),c⟩
 |true=>
  have E:Hid (cyG a n d):=C rfl;clear C;go_wp2_with fail;(try rw[i]);(try clear i);refine(z _).mono ?_;rintro T t ⟨m,f,P,rfl,D,B⟩;have ae:=X.lt;have ad:=B.size;obtain⟨w4,i,L,Y⟩:=bI t [.int .i64 m,.int .i64 f] 51;have r:=aC B L;replace R:=R.be r;replace S:=S.be r;replace X:=X.be r;replace c:=aC c r;have G:=aa R.g2 (aa S.g2 (aa X.k2 Y.k2));clear z;cases P with
  |false=>
   clear D;go_wp2_with fail;all_goals (try rw[i])
   obtain⟨u,j,R,c,g⟩:=R.putB2 c (by omega) (.int .i64 0) (.int .i64 0) rfl;replace S:=g S (by omega);rw[j];obtain⟨x,k,S,c,g⟩:=S.putB2 c (by omega) (.int .i64 0) (.int .i64 0) rfl;replace R:=g R (by omega);rw[k];exact aM (v:= .tuple #[.agg #[.int .i64 0,.int .i64 0],.agg #[.int .i64 0,.int .i64 0],.bool false]) (by simp[results,results57,go_sem,R.k2,S.k2]) rfl ⟨_,_,_,_,false,rfl,(fun h=>by cases h),c⟩
  |true=>
   have F:Hid (cyG b m f):=D rfl;clear D;go_wp2_with fail;(try rw[i]);(try clear i);have l:w.1.size≠s.1.size:=by omega
   have o:w.1.size≠t.1.size:=by omega
   have p:w.1.size+1≠s.1.size:=by omega
   have q:w.1.size+1≠t.1.size:=by omega
   go_region_held3 (fun w'=>C2 w' s.1.size (.int .i64 n) (.int .i64 d)∧C2 w' t.1.size (.int .i64 m) (.int .i64 f))
    (first
     |(with_reducible exact⟨X.up.k2,Y.up.k2⟩)
     |(with_reducible exact⟨((X.far 0 _ l).far 1 _ l).drew.k2,((Y.far 0 _ o).far 1 _ o).drew.k2⟩)
     |(with_reducible exact⟨((X.far 0 _ p).far 1 _ p).drew.k2,((Y.far 0 _ q).far 1 _ q).drew.k2⟩)
     |(with_reducible exact⟨((((X.far 0 _ l).far 1 _ l).far 0 _ p).far 1 _ p).drew.k2,((((Y.far 0 _ o).far 1 _ o).far 0 _ q).far 1 _ q).drew.k2⟩)
     |(with_reducible exact⟨((((X.far 0 _ p).far 1 _ p).far 0 _ l).far 1 _ l).drew.k2,((((Y.far 0 _ q).far 1 _ q).far 0 _ o).far 1 _ o).drew.k2⟩))
    (fail)
   all_goals (
    go_wp2_with fail
    first
     |(obtain⟨u,j,R,c,g⟩:=R.putB2 c (by omega) (.int .i64 n) (.int .i64 d) rfl
       replace S:=g S (by omega)
       rw[j]
       obtain⟨x,k,S,c,g⟩:=S.putB2 c (by omega) (.int .i64 m) (.int .i64 f) rfl
       replace R:=g R (by omega)
       rw[k]
       exact aM (v:= .tuple #[.agg #[.int .i64 n,.int .i64 d],.agg #[.int .i64 m,.int .i64 f],.bool true]) (by simp[results,results57,go_sem,R.k2,S.k2]) rfl ⟨_,_,_,_,true,rfl,(fun _=>⟨E.out,F.out⟩),c.drew⟩)
     |(obtain⟨u,j,S,c,g⟩:=S.putB2 c (by omega) (.int .i64 m) (.int .i64 f) rfl
       replace R:=g R (by omega)
       rw[j]
       obtain⟨x,k,R,c,g⟩:=R.putB2 c (by omega) (.int .i64 n) (.int .i64 d) rfl
       replace S:=g S (by omega)
       rw[k]
       exact aM (v:= .tuple #[.agg #[.int .i64 n,.int .i64 d],.agg #[.int .i64 m,.int .i64 f],.bool true]) (by simp[results,results57,go_sem,R.k2,S.k2]) rfl ⟨_,_,_,_,true,rfl,(fun _=>⟨E.out,F.out⟩),c.drew⟩))
def cy2(a b:Nat)(w:World)(l:a<4611686018427387904)(m:b<4611686018427387904):
  Calls prog 70 #[.int .i64 a,.int .i64 b] w fun e w'=>e= .returned (.int .i64 (Nat.gcd a b:Nat))∧Below w.1.size w w':=by
 go_enter func70,ntmps70;go_wp2_with fail;go_loopw [0,1] (fun u v wr=>∃x y:Nat,u= .int .i64 x∧v= .int .i64 y∧x<4611686018427387904∧y<4611686018427387904∧Hid (Nat.gcd x y=Nat.gcd a b)∧Below w.1.size w wr) (fun _ v _=>(intOf v).toNat)
 case atStart=>exact⟨a,b,rfl,rfl,l,m,rfl,aG _ _⟩
 case round=>
  obtain⟨x,y,rfl,rfl,q,s,d,f⟩:=hrel;by_cases c:y=0
  ·have k:((y:Int)==0)=true:=by rw[c];rfl
   have j:Hid (x=Nat.gcd a b):=by have:=d.out;rw[c,bxN] at this;exact this
   clear k;obtain rfl:y=0:=c;go_wp2;go_ret;rw[<-j.out];exact⟨rfl,f⟩
  ·have t:(0:Int)<(y:Int):=by omega
   have r:(0:Int)<=(x:Int):=by omega
   have p:((y:Int)==0)=false:=by simp;exact c
   have g:(x:Int)%(y:Int)=((x%y:Nat):Int):=by omega
   have i:=aB g;have o:x%y<y:=dI _ (by omega);have h:Hid (Nat.gcd y (x%y)=Nat.gcd a b):=by unfold Hid;rw[<-d.out,azD x y,Nat.gcd_rec y x,azD]
   have n:=f.drew;clear g;go_wp2_with fail;go_region
   all_goals (
    go_wp2_with fail;go_roundw
    case rel=>exact⟨y,x%y,rfl,by rw[<-i.out],by omega,by omega,h,n⟩
    case measure=>simp[intOf];omega)
def cxL(m:Int)(w:World)(d:Glob w)(b: -9223372036854775808<=m)(c:m<=9223372036854775807):Calls prog 112 #[.int .i64 m,.int .i64 10] w fun e w'=>e= .returned (.string ⟨(iP m).toArray⟩)∧Below w.1.size w w':=by
 have a:=Tryz.strconv_FormatInt_10 m b c w d.pow;rw[SW] at a;refine a.mono ?_;rintro e h ⟨rfl,k,g,f⟩;exact⟨rfl,by rw[f];exact Lib.below_grow w.1.size w aE k g⟩
def cy3(q:Rat):(q.den=1->cW q=iP q.num)∧(q.den≠1->cW q=iP q.num++47 :: Lib.decDigits q.den):=by
 constructor
 ·intro h;unfold cW iP;rw[if_pos h,fH]
 ·intro h;unfold cW iP;rw[if_neg h]
def Apps.mono{g:Value}{l:List UInt8}{P Q:Value->World->Prop}(h:Apps w g l P)(k:∀v w',P v w'->Q v w'):Apps w g l Q:=
 ⟨fun f e=>let ⟨v,w',b,d⟩:=h.1 f e;⟨v,w',b,k v w' d⟩,fun f a c e i=>let ⟨v,w',b,d⟩:=h.2 f a c e i;⟨v,w',b,k v w' d⟩⟩
def cxM{d:World}(h:BufAt d w b bs)(g:Glob d)(m:Int)(k: -9223372036854775808<m)(a:m<=9223372036854775807)(f:bs.length+(iP m).length<=48):
  Calls prog 113 #[.slice (some ⟨b,0,none⟩) bs.length 48,.int .i64 m,.int .i64 10] w fun e w'=>e= .returned (.slice (some ⟨b,0,none⟩) (bs++iP m).length 48)∧BufAt d w' b (bs++iP m):=by
 refine(cy6 _ m w (fun j w'=>j= .slice (some ⟨b,0,none⟩) (bs++iP m).length 48∧BufAt d w' b (bs++iP m)) k a (g.be h.2.2.1) (fun i=> ?_) (fun i=> ?_)).mono (fun e w' ⟨j,a,c,n⟩=>⟨by rw[a,c],n⟩)
 ·have e:iP m=Lib.decDigits m.natAbs:=by unfold iP;rw[if_neg (by omega)];rfl
  rw[e] at f⊢;exact h.apps f
 ·have e:iP m=[45]++Lib.decDigits m.natAbs:=by unfold iP;rw[if_pos i]
  rw[e,dA] at f;rw[e,<-eK];refine(h.apps (l:=[45]) (by omega)).mono (fun o p a=> ?_);obtain⟨rfl,c⟩:=a;exact⟨g.be c.2.2.1,c.apps (by rw[dA];omega)⟩
def exW{c:World}(h:BufAt c w b bs):(convert 145 9 (.slice (some ⟨b,0,none⟩) bs.length 48)).run prog w= .ok (.string ⟨bs.toArray⟩) w:=
 run_convert_bytes_back (P:=prog) w 145 9 5 ⟨b,0,none⟩ 48 bs underlying145 underlying5 underlying9 (fun j a=>by
  have:=h.2.1 j (.int .u8 (bs[j].toNat:Int)) (by simp[Lib.byteCells,a]);rw[Lib.add_plain];exact this)
def cy5(n:Int)(d:Nat)(w:World)(a:Glob w)(S:0<d)(hn:n.natAbs<4611686018427387904)(ag:d<4611686018427387904):
  Calls prog 66 #[.int .i64 n,.int .i64 d] w fun e w'=>e= .returned (.string ⟨(cW ((n:Rat)/((d:Int):Rat))).toArray⟩)∧Below w.1.size w w':=by
 obtain⟨z,A⟩:=F4 (n:=n) (d:=(d:Int)) (by omega);rw[dD] at z A;obtain⟨t1,t2⟩:=cy3 ((n:Rat)/((d:Int):Rat));generalize (n:Rat)/((d:Int):Rat)=q at *;obtain⟨g,f⟩:∃g,g=Nat.gcd n.natAbs d:=⟨_,rfl⟩;rw[<-f] at z A;have ai:0<g:=by rw[f];exact Nat.gcd_pos_of_pos_right _ S
 have aj:g<=d:=by rw[f];exact aqY S (azU _ _)
 have t:(d:Int).tdiv (g:Int)=((d/g:Nat):Int):=by rw[Int.tdiv_eq_ediv_of_nonneg (by omega)];rfl
 have U:q.den=d/g:=by rw[t] at A;omega
 have F:d/g<=d:=azK _ _;have I:(n.tdiv g).natAbs<=n.natAbs:=by rw[Int.natAbs_tdiv,dD];exact azK _ _
 have ah:¬(d:Int)<0:=by omega
 have J:IntKind.i64.wrap (-n)= -n:=IntWalk.i64_in _ ⟨by omega,by omega⟩;have Q:Hid ((⟨(cW q).toArray⟩:ByteArray)=⟨(if q.den=1 then iP q.num else iP q.num++47 :: Lib.decDigits q.den).toArray⟩):=by
  unfold Hid;by_cases h:q.den=1
  ·rw[if_pos h,t1 h]
  ·rw[if_neg h,t2 h]
 rw[Q.out];rw[U,z];clear Q t1 t2 z A U;by_cases K:d=1
 ·subst K;obtain rfl:g=1:=by omega
  have x:=fun W a=>cxL n W a (by omega) (by omega);have s:n.tdiv ((1:Nat):Int)=n:=Int.tdiv_one n;rw[if_pos rfl,s];clear f s I t F J ah;go_enter func66,ntmps66;go_wp2_with fail;refine(x _ a).mono ?_;rintro s k ⟨rfl,b⟩;go_wp2;go_ret;exact⟨rfl,b⟩
 ·have am:((d:Int)==1)=false:=beq_eq_false_iff_ne.2 (by omega);have an:((d:Int) != 1)=true:=by simp;omega
  have V:max n (-n)=(n.natAbs:Int):=by omega
  have y:=fun W=>cy2 n.natAbs d W hn ag;rw[<-f] at y;have ao:((g:Int)==0)=false:=beq_eq_false_iff_ne.2 (by omega);have ap:¬(g:Int)=0:=by omega
  obtain⟨m,hm⟩:∃m,n.tdiv (g:Int)=m:=⟨_,rfl⟩;obtain⟨D,C⟩:∃D,d/g=D:=⟨_,rfl⟩;have Z:IntKind.i64.wrap m=m:=IntWalk.i64_in _ ⟨by omega,by omega⟩;have Y:IntKind.i64.wrap (D:Int)=(D:Int):=IntWalk.i64_in _ ⟨by omega,by omega⟩;rw[hm] at I⊢;rw[C] at t F⊢;have ac:0<D:=by rw[<-C];exact Nat.div_pos aj ai
  have x:=fun W a=>cxL m W a (by omega) (by omega);obtain⟨T,G⟩:∃T,(if D=1 then iP m else iP m++47 :: Lib.decDigits D)=T:=⟨_,rfl⟩;rw[G];have p:=aB G;clear f C K G;generalize (n.natAbs:Int)=N at *;go_enter func66,ntmps66;go_wp2_with fail;refine(y _).mono ?_;rintro s k ⟨rfl,b⟩;go_wp2_with fail;go_region;by_cases E:D=1
  ·subst E;have r:Hid (T=iP m):=by have:=p.out;rw[if_pos rfl] at this;exact this.symm
   clear p y J Z Y V;obtain rfl:=r.out;go_wp2_with fail;refine(x _ (a.be b.drew)).mono ?_;rintro e3 o ⟨rfl,ae⟩;go_wp2;go_ret;exact⟨rfl,b.drew.trans (ae.mono b.size)⟩
  ·have r:Hid (T=iP m++47 :: Lib.decDigits D):=by have:=p.out;rw[if_neg E] at this;exact this.symm
   have al:((D:Int)==1)=false:=beq_eq_false_iff_ne.2 (by omega);have lm:(iP m).length<=22:=SY m 1 (cJ (by unfold BN;omega));have lD:(iP (D:Int)).length<=22:=SY D 1 (cJ (by unfold BN;omega));have P:BufAt w (k.alloc (.cells (Array.replicate 48 (.int .u8 0)) 149)) k.1.size []:=⟨⟨_,heap_alloc_new k _,by simp⟩,(fun i v h=>by simp[Lib.byteCells] at h),b.alloc b.size _,b.size⟩;have c:=cxM (P.be (aG _ _).drew) a m (by omega) (by omega) (by simp;omega);have eD:iP (D:Int)=Lib.decDigits D:=by unfold iP;rw[if_neg (by omega)];rfl
   rw[iM] at c;have ad:(D:Int)<=9223372036854775807:=by omega
   clear p y J Z Y V x t F ac E P I;go_wp2_with fail;refine c.mono ?_;rintro e3 o ⟨rfl,L⟩;clear c;have M:BufAt w (o.alloc (.cells #[.int .u8 47] 5)) k.1.size (iP m):=L.be ((aG _ _).alloc aE _)
   obtain⟨v5,w5,X,rfl,O⟩:=(M.apps (l:=[47]) (by simp;omega)).2 (o.alloc (.cells #[.int .u8 47] 5)) ⟨o.1.size,0,none⟩ 1 (aG _ _) (fun j u H=>by
    have ak:j=0:=by
     have:=(List.getElem?_eq_some_iff.1 H).1;simp[Lib.byteCells] at this;omega
    subst ak;simp[Lib.byteCells] at H;subst H;exact(Bx.new o [.int .u8 47] 5).cell 0 rfl)
   have HR:=aB X;have c:=cxM O a (D:Int) (by omega) ad (by simp;omega);rw[eD,show List.length (iP m++([47]:List UInt8))=(iP m).length+1 from by simp] at c;clear X L M;go_wp2_with (at_builtin;refine IL rfl rfl rfl rfl rfl HR.out ?_);refine c.mono ?_;rintro e6 w6 ⟨rfl,B⟩;have hc:=exW B;have R:iP m++[47]++Lib.decDigits D=T:=by rw[r.out,eK];rfl
   have af:=B.2.2.1;clear c O B;rw[R] at hc⊢;clear R r;go_wp2;go_ret;exact⟨rfl,af⟩
def cy0{a b:List UInt8}{d m f:Int}(q:cyG a n d)(c:cyG b m f)(r:cL a=some x)(s:cL b=some y):∃D F:Nat,d=(D:Int)∧f=(F:Int)∧0<D∧0<F∧D<1000000000∧F<1000000000∧x*((D:Int):Rat)=(n:Rat)∧y*((F:Int):Rat)=(m:Rat)∧(n*f).natAbs<1000000000000000000∧(m*d).natAbs<1000000000000000000∧0<D*F∧D*F<1000000000000000000∧d*f=((D*F:Nat):Int):=by
 obtain⟨-,D,rfl,k,i,u,g⟩:=q;obtain⟨-,F,rfl,l,j,t,h⟩:=c;rw[r] at g;rw[s] at h;injection g with g;injection h with h;have c:∀(n:Nat) (F:Nat),n<1000000000->F<1000000000->n*F<1000000000000000000:=fun n F v w=>by
  have:n*F<=999999999*999999999:=aqK (by omega) (by omega);omega
 have o:((D:Int):Rat)≠0:=fun e=>by have:(D:Int)=0:=by exact_mod_cast e
                                   omega
 have p:((F:Int):Rat)≠0:=fun e=>by have:(F:Int)=0:=by exact_mod_cast e
                                   omega
 refine⟨D,F,rfl,rfl,k,l,i,j,?_,?_,?_,?_,aqZ k l,c _ _ i j,by rw[az8]⟩
 ·rw[g,Rat.mkRat_eq_div,<-aq3,gW o]
 ·rw[h,Rat.mkRat_eq_div,<-aq3,gW p]
 ·rw[fL,dD];exact c _ _ u j
 ·rw[fL,dD];exact c _ _ t i
def exV(a b:List UInt8)(x y:Rat)(K:Nat)(w:World)(g:Glob w)(C:cL a=some x)(E:cL b=some y)(G:RL K x)(H:RL K y)(hK:K<=268435456)(af:a.length<=1073741824)(ag:b.length<=1073741824):
  Calls prog 22 #[.string ⟨a.toArray⟩,.string ⟨b.toArray⟩] w fun e w'=>e= .returned (.string ⟨(cW (x+y)).toArray⟩)∧Below w.1.size w w':=by
 have U:=fun W=>cxN a b W (by omega) (by omega);have j:=fun W g=>cyK a W g (by omega);have k:=fun W g=>cyK b W g (by omega);rw[C] at j;rw[E] at k;have t:=fun W u v g h p=>UW x y u v W g h p K G H (by unfold aJ;omega);have B:=fun W v g h=>I4 (x+y) v W g h (2*K+1) (bU (CI G H) (by omega)) (by omega);have l:Hid (∀n d m f,cyG a n d->cyG b m f->(n*f).natAbs<1000000000000000000∧(m*d).natAbs<1000000000000000000∧∃D:Nat,d*f=(D:Int)∧0<D∧D<1000000000000000000∧x+y=((n*f+m*d:Int):Rat)/((D:Int):Rat)):=fun n d m f h p=>by
  obtain⟨D,F,rfl,rfl,d0,f0, -, -,I,i,Q,R,p0,p1,p2⟩:=cy0 h p C E;refine⟨Q,R,D*F,p2,p0,p1,?_⟩;have e:((n*(F:Int)+m*(D:Int):Int):Rat)=(x+y)*(((D*F:Nat):Int):Rat):=by
   rw[aqE,eJ,eJ,<-I,<-i,az8,eJ];grind
  have hz:(((D*F:Nat):Int):Rat)≠0:=fun e=>by
   have:((D*F:Nat):Int)=0:=by exact_mod_cast e
   omega
  rw[e];grind
 unfold iF at j k t;simp only[Option.getD_some] at j k;clear C E af ag G H hK;obtain⟨T,r⟩:∃T,(cW (x+y)).toArray=T:=⟨_,rfl⟩;rw[r] at B⊢;have o:=aB r;clear r;go_enter func22,ntmps22;go_wp2_with fail;refine(U _).mono ?_;rintro I w1 ⟨n,d,m,f,ok,rfl,A,c⟩;obtain⟨w2,i,ac,X,Y⟩:=eL w1 [.int .i64 n,.int .i64 d] 51 [.int .i64 m,.int .i64 f] 51;replace c:=aC c ac;have cM:=aa X.k2 Y.k2;cases ok with
 |true=>
  obtain⟨M,N⟩:=A rfl;obtain⟨z3,z4,D,O,z6,z7,P⟩:=l.out n d m f M N;have L:=fun W g=>cy5 (n*f+m*d) D W g z6 (by omega) (by omega);rw[<-P,o.out] at L;have ah:IntKind.i64.wrap (n*f)=n*f:=IntWalk.i64_in _ ⟨by omega,by omega⟩;have ai:IntKind.i64.wrap (m*d)=m*d:=IntWalk.i64_in _ ⟨by omega,by omega⟩;have ak:IntKind.i64.wrap (n*f+m*d)=n*f+m*d:=IntWalk.i64_in _ ⟨by omega,by omega⟩;have aj:IntKind.i64.wrap (d*f)=(D:Int):=by rw[O];exact IntWalk.i64_in _ ⟨by omega,by omega⟩
  clear A j k t l M N z3 z4 O P B o;go_wp2_with fail;(try rw[i]);(try clear i);refine(L _ (g.be c)).mono ?_;rintro S w3 ⟨rfl,s⟩;go_wp2;go_ret;exact⟨rfl,aC c s⟩
 |false=>
  clear A l o;generalize x+y=z at *;go_wp2_with fail;(try rw[i]);(try clear i);refine(j _ (g.be c)).mono ?_;rintro S w3 ⟨v3,rfl,q,s⟩;replace c:=aC c s;go_wp2_with fail;refine(k _ (g.be c)).mono ?_;rintro e4 w4 ⟨v4,rfl,V,J⟩;replace q:=q.be J;replace c:=aC c J;go_wp2_with fail;refine(t _ _ _ (g.be c) q V).mono ?_;rintro e5 w5 ⟨v5,rfl,Z,ad⟩;replace c:=aC c ad;go_wp2_with fail;refine(B _ _ (g.be c) Z).mono ?_;rintro e6 w6 ⟨rfl,ae⟩;go_wp2;go_ret;exact⟨rfl,aC c ae⟩
def cyA:cW 0=[48]:=by
 have:cW 0=[]++Lib.decDigits 0++[]:=rfl;rw[this,BM];rfl
def cyB(q:Rat):∃c r,cW q=c :: r∧(c=45↔q.num<0):=by
 unfold cW;by_cases h:q.num<0
 ·rw[if_pos h];exact⟨45,_,rfl,fun _=>h,fun _=>rfl⟩
 ·rw[if_neg h];cases hd:Lib.decDigits q.num.natAbs with
  |nil=>exact absurd hd (tK _)
  |cons c r=>
   refine⟨c,_,rfl,fun e=> ?_,fun k=>absurd k h⟩;have:=oL q.num.natAbs c (by rw[hd];exact iC);rw[e] at this;exact absurd this.1 (by decide)
def cyC(t:List UInt8)(w:World)(f:Glob w)(s:t.length<=1073741824):
  Calls prog 18 #[.string ⟨t.toArray⟩] w (eO w ((cL t).getD 0).num.sign):=by
 have b:=fun W f=>cxS t W f s;unfold eO;obtain⟨S,l⟩:∃S,((cL t).getD 0).num.sign=S:=⟨_,rfl⟩;rw[l];have a:=aB l;clear l;by_cases d:t=[48]
 ·subst d;obtain rfl:S=0:=by rw[<-a.out];rfl
  clear b a;go_enter func18,ntmps18;go_wp2;go_ret;exact⟨rfl,aG _ _⟩
 ·have z:(t==[48])=false:=by simpa using d
  cases hr:cL t with
  |none=>
   have i:rd t=false:=by unfold rd;rw[hr];rfl
   obtain rfl:S=0:=by rw[<-a.out,hr];rfl
   rw[i] at b;clear a hr i d;go_enter func18,ntmps18;go_wp2_with fail;refine(b _ f).mono ?_;rintro o p ⟨rfl,g⟩;go_wp2;go_ret;exact⟨rfl,g⟩
  |some q=>
   have i:rd t=true:=by unfold rd;rw[hr];rfl
   have n:=tL hr;obtain⟨c,r,e,m⟩:=cyB q;rw[n] at e;have u:q.num≠0:=fun k=>d (by rw[<-n,Rat.num_eq_zero.1 k];exact cyA);have j:S=if c=45 then -1 else 1:=by
    rw[<-a.out,hr];show q.num.sign=_
    by_cases k:c=45
    ·rw[if_pos k,aqT (m.1 k)]
    ·rw[if_neg k,aqI (by have v:¬q.num<0:=(fun h=>k (m.2 h));omega)]
   rw[i] at b;subst e;clear a hr i d n m u;have x:∀h:0<(⟨(c :: r).toArray⟩:ByteArray).size,(⟨(c :: r).toArray⟩:ByteArray)[0]'h=c:=fun _=>rfl;by_cases k:c=45
   ·subst k;rw[if_pos rfl] at j;subst j;go_enter func18,ntmps18;go_wp2_with fail;refine(b _ f).mono ?_;rintro o p ⟨rfl,g⟩;go_wp2;go_ret;exact⟨rfl,g⟩
   ·rw[if_neg k] at j;subst j;have y:((c.toNat:Int)==45)=false:=by
     rw[beq_eq_false_iff_ne];intro e;exact k (UInt8.toNat_inj.1 (show c.toNat=(45:UInt8).toNat by show c.toNat=45;omega))
    clear k;go_enter func18,ntmps18;go_wp2_with fail;refine(b _ f).mono ?_;rintro o p ⟨rfl,g⟩;go_wp2;go_ret;exact⟨rfl,g⟩
def dyY{op:Rat->Rat->Rat}(h:op 0 0=0)(a b:List Rat)(i:Nat):cf (eX op a b) i=op (cf a i) (cf b i):=by
 by_cases d:i<max a.length b.length
 ·exact rD (dxY op a b d)
 ·rw[bV (by rw[U1];omega),bV (l:=a) (by omega),bV (l:=b) (by omega),h]
def Z9{t:List UInt8}(h:cL t=some q)(a:q≠0):vl [t]=true∧aU [t]=[q]:=by
 have e:aU [t]=[q]:=by show[(cL t).getD 0]=[q];rw[h];rfl
 refine⟨?_,e⟩;unfold vl;rw[iQ];refine⟨by show 1<=65;decide,?_,?_⟩
 ·show(rd t&&true)=true
  unfold rd;rw[h];rfl
 ·rw[e];exact fun k=>a (by injection k)
def M9(f:aN Q)(b:Q.length<=9)(d:∀q∈Q,RL K q)(e:K<=2293):Lg (Q.map cW):=by
 refine⟨dzR (by omega) f,by rw[cH];exact b,fun l b=> ?_,fun q a=> ?_⟩
 ·obtain⟨q,a,rfl⟩:=List.mem_map.1 b;have:=cx1 (d q a);omega
 ·rw[gH] at a;exact bU (d q a) e
def o7(w:World)(Q:List Rat)(e:Ending)(w':World):Prop:=∃a,e= .returned (.tuple #[a,.int .i64 0])∧StrsAt w' a (Q.map cW)∧Below w.1.size w w'
def RetPoly.pt(h:RetPoly w Q e w')(f:Q.length<=65):o7 w Q e w':=by
 obtain⟨g,a,b,d⟩:=h;rw[if_pos f] at a b;exact⟨g,a,b,d⟩
def ZB{op:Rat->Rat->Rat}(j:op 0 0=0)(k:Q.length<=9)(g:∀q∈Q,RL K q)(e:RL K q)(f:∀x y,RL K x->RL K y->RL (2*K+1) (op x y)):(aW aV (eX op Q [q])).length<=9∧∀r∈aW aV (eX op Q [q]),RL (2*K+1) r:=by
 have b:=xR e;refine⟨aH (oY aV _) (by rw[U1,iJ];omega),fun r a=> ?_⟩;have d:=rC a;unfold eX at d;obtain⟨i, -,rfl⟩:=List.mem_map.1 d;exact f _ _ (D2 g (iG b) i) (D2 (fun r a=>by rw[List.mem_singleton.1 a];exact e) (iG b) i)
def dxL{op:Rat->Rat->Rat}{c:Rat}(a:∀x y,op x y=x+c*y)(Q:List Rat)(q x:Rat):aI (aW aV (eX op Q [q])) x=aI Q x+c*q:=by
 have e:∀i,cf (aW aV (eX op Q [q])) i=cf (j0 Q [c*q]) i:=fun i=>by
  rw[iS,dyY (by rw[a];grind),a,DP];cases i with
  |zero=>rfl
  |succ i=>rw[bV (l:=[q]) (by simp),bV (l:=[c*q]) (by simp),dU]
 rw[oT e,lG];show aI Q x+(0*x+c*q)=_
 grind
def dyZ(d:aN S)(b:S≠[]):∃x,aI S x≠0:=bz0 (fun h=>by
 have a:∀x,aI S x=aI [] x:=fun x=>bz0 (fun k=>h ⟨x,k⟩);exact(dR b).1 d (by rw[LL a,eR]))
structure SqA(ls:List (List UInt8))(S:List Rat):Prop where
 tr:aN S
 len:S.length<=9
 rl:∀q∈S,RL 31 q
 ev:∀x,aI S x=aI (aU ls) x*aI (aU ls) x
 mul:∀W v u,Glob W->StrsAt W v ls->StrsAt W u ls->Calls prog 8 #[v,u] W (o7 W S)
def dz2(hv:vl ls=true)(b:ls.length<=5)(f:∀l∈ls,l.length<=5):∃S,SqA ls S:=by
 have a:∀q∈aU ls,RL 1 q:=pI (fun l b=>aH (f l b) (by decide));have m:=VS ls;have d:∀l∈ls,l.length<=1073741824:=fun l h=>aH (f l h) (by decide);have j:(aW aV (dX (aU ls) (aU ls))).length<=9:=by
  refine aH (oY aV _) ?_;unfold dX;split
  ·decide
  ·rw[cH,bxZ];omega
 refine⟨aW aV (dX (aU ls) (aU ls)),jS _,j,fun q k=>bU (dq3 a a (mC 1) q (rC k)) (by omega),dyG _ _,fun W v u i h g=> ?_⟩;refine(dzU ls ls v u W i h g (by omega) (by omega) 1 (fun _=>d) (fun _=>d) (fun _=>a) (fun _=>a) (by decide)).mono (fun e n h=> ?_);unfold x6 at h;rw[if_pos ⟨hv,hv⟩] at h;exact h.pt (by omega)
def SqA.lg(h:SqA ls S):Lg (S.map cW):=M9 h.tr h.len h.rl (by decide)
def OA(l:Lg T){B:Bool}{i:Int}(hi:i=0∨i= -1)(A:RL 1 x)(b:ComDen (aU T) D 20638)
  (r:∀(es:List (List Int)) (N:Nat->Int),(aU T≠[]->(∀n∈aS (cC (aU T) D),nl n.natAbs<=23000)∧((aS (cC (aU T) D)).length=1∧es=[]∨∃a g,RfO 9000000000 (aS (cC (aU T) D)) a g es)∧NyA (aS (cC (aU T) D)) es i x N)->(B=true↔kI (cC (aU T) D) es.length N i x))
  (W:World)(v u:Value)(o:Glob W)(t:WholeAt W v (cC (aU T) D))(y:EndAt W u i x):Calls prog 68 #[v,u] W (AL W B):=by
 have m:=(pJ l.vl).2.2;have C:=VS T;have E:=l.len;have tn:=oO b.pos b.dvd m;have k:=fun n hn=>aH (sA _ D 2293 _ l.rl b.nl_ n hn) (show 2293+20638<=23000 by decide);have z:∃(es:List (List Int)) (N:Nat->Int),aU T≠[]->(∀n∈aS (cC (aU T) D),nl n.natAbs<=23000)∧((aS (cC (aU T) D)).length=1∧es=[]∨∃a g,RfO 9000000000 (aS (cC (aU T) D)) a g es)∧NyA (aS (cC (aU T) D)) es i x N:=by
  by_cases d:aU T=[]
  ·exact⟨[],fun _=>0,fun h=>absurd d h⟩
  ·obtain⟨w,F, -⟩:=H6 b m d;obtain⟨es,N,f,j⟩:=dzA o w (gU k) (by omega) i x;exact⟨es,N,fun _=>⟨gU k,f,j⟩⟩
 obtain⟨es,N,p⟩:=z;refine(dz8 (cC (aU T) D) i x es N v u W o t y tn (by rw[oN];omega) k hi A (fun hn=> ?_)).mono (fun e G s=>s.bo (r es N p));have d:aU T≠[]:=fun e=>hn (by rw[e];rfl);obtain⟨f, -,j⟩:=p d;exact⟨(H6 b m d).1,f,j⟩
def SqA.nn(h:SqA ls S)(v:Value)(w:World)(a:Glob w)(hv:StrsAt w v (S.map cW)):Calls prog 17 #[v] w (kL w true 0):=by
 refine dxN _ true h.lg (fun D f W v u a k b=>OA h.lg (.inr rfl) (iG (mC 1)) f (fun l N j=> ?_) W v u a k b) v w a hv;rw[gH] at *;by_cases d:S=[]
 ·exact⟨fun _=> .inl ((kS _ D).2 d),fun _=>rfl⟩
 ·obtain⟨-,g,i⟩:=j d;refine⟨fun _=>exL f h.tr (fun _=> ?_) h.ev g i,fun _=>rfl⟩;obtain⟨x,b⟩:=dyZ h.tr d;exact⟨x,fun e=>b (by rw[h.ev,e,aqQ])⟩
structure SqB(ls:List (List UInt8))(S:List Rat)(c:List UInt8)(q:Rat)(T:List Rat):Prop where
 tr:aN T
 len:T.length<=9
 rl:∀q∈T,RL 63 q
 ev:∀x,q<=aI T x
 add:∀W v u,Glob W->StrsAt W v (S.map cW)->StrsAt W u [c]->Calls prog 19 #[v,u] W (o7 W T)
def dz3(h:SqA ls S)(a:cL c=some q)(t:c.length<=5)(w:0<q):∃T,SqB ls S c q T:=by
 have b:RL 1 q:=lS a (by omega);obtain⟨s,d⟩:=Z9 a (show q≠0 by grind);obtain⟨o,p⟩:=ZB (op:=fun x y=>x+y) (Q:=S) (q:=q) (K:=31) (by grind) h.len h.rl (bU b (by decide)) (fun x y m n=>CI m n |> fun k=>bU k (by decide));refine⟨aW aV (eX (fun x y=>x+y) S [q]),jS _,o,p,fun x=> ?_,fun W v u f hv j=> ?_⟩
 ·rw[dxL (c:=1) (fun x y=>by grind),h.ev];have:0<=aI (aU ls) x*aI (aU ls) x:=by
   rcases iY (aI (aU ls) x) with k|k|k
   ·have:=azA (show 0< -aI (aU ls) x by grind) (show 0< -aI (aU ls) x by grind);grind
   ·rw[k,dU];exact byB
   ·have:=azA k k;grind
  grind
 ·refine(exR (S.map cW) [c] v u W f hv j (by have:=h.lg.len;omega) (by show 1<=1073741824;decide) 31 (fun _=>h.lg.txt) (fun _ l g=>by rw[List.mem_singleton.1 g];omega) (fun _=>by rw[gH];exact h.rl) (fun _=>by rw[d];exact fun r i=>by rw[List.mem_singleton.1 i];exact bU b (by decide)) (by decide) (by decide)).mono (fun e z k=> ?_);unfold RetOp at k;rw[if_pos ⟨h.lg.vl,s⟩,gH,d] at k;exact k.pt (by omega)
section
variable {ls:List (List UInt8)}{S T:List Rat}{c:List UInt8}{q:Rat}(h:SqB ls S c q T)
include h
def SqB.lg:Lg (T.map cW):=M9 h.tr h.len h.rl (by decide)
def SqB.ne(a:0<q):T≠[]:=fun e=>by
 have:=h.ev 0;rw[e] at this;exact absurd (show q<=0 from this) (by grind)
def SqB.total(d:0<q)(v:Value)(w:World)(f:Glob w)(hv:StrsAt w v (T.map cW)):Calls prog 20 #[v] w fun e w'=>e= .returned (.tuple #[.int .i64 0,.int .i64 0])∧Below w.1.size w w':=by
 refine(dz7 _ h.lg (fun e=>h.ne d (List.map_eq_nil_iff.1 e)) v w f hv).mono (fun e w' k=> ?_);obtain⟨D,s,c,a,b,j,i,rfl,g⟩:=k;rw[gH] at a b;rw[exN a h.tr d h.ev b j i];exact⟨rfl,g⟩
def SqB.val(x:Rat)(a:RL 1 x):RL 1144 (aI T x):=bU (CJ h.rl (bU a (by decide))) (by have:=h.len;omega)
def SqB.eval{x:List UInt8}(a:cL x=some X)(g:x.length<=5)(v:Value)(w:World)(b:Glob w)(hv:StrsAt w v (T.map cW)):Calls prog 12 #[v,.string ⟨x.toArray⟩] w fun e w'=>e= .returned (.tuple #[.string ⟨(cW (aI T X)).toArray⟩,.int .i64 0])∧Below w.1.size w w':=by
 have f:RL 1 X:=lS a (by omega);have d:rd x=true:=by unfold rd;rw[a];rfl
 refine(exQ (T.map cW) x v w b hv (by have:=h.lg.len;omega) h.lg.txt (by omega) 63 (by rw[gH];exact h.rl) (by rw[a];exact bU f (by decide)) (by decide)).mono (fun e w' k=> ?_);unfold pQ at k;rw[if_pos ⟨h.lg.vl,d⟩,gH,a] at k;exact k
end
structure SqC(T:List Rat)(X:Rat)(U:List Rat):Prop where
 tr:aN U
 len:U.length<=9
 rl:∀q∈U,RL 2293 q
 ev:aI U X<0
 sub:∀W v u,Glob W->StrsAt W v (T.map cW)->StrsAt W u [cW (aI T X+1)]->Calls prog 21 #[v,u] W (o7 W U)
def dz4{T:List Rat}(h:SqB ls S c q T)(d:0<q)(b:RL 1 X):∃U,SqC T X U:=by
 have o:=h.val X b;have a:RL 1146 (aI T X+1):=CI o (show RL 1 (1:Rat) from⟨by show nl 1<=1;exact cJ (by decide),by show nl 1<=1;exact cJ (by decide)⟩);have z:=h.ev X;have f:=fun q d=>bU (h.rl q d) (show 63<=1146 by decide);obtain⟨w,g⟩:=Z9 (SU (aI T X+1)) (by grind);obtain⟨s,t⟩:=ZB (op:=fun x y=>x-y) (Q:=T) (q:=aI T X+1) (K:=1146) (by grind) h.len f a (fun x y b p=>bU (JM b p) (by decide));refine⟨aW aV (eX (fun x y=>x-y) T [aI T X+1]),jS _,s,t,?_,fun W v u i hv n=> ?_⟩
 ·rw[dxL (c:= -1) (fun x y=>by grind)];grind
 ·refine(exU (T.map cW) [cW (aI T X+1)] v u W i hv n (by have:=h.lg.len;omega) (by show 1<=1073741824;decide) 1146 (fun _=>h.lg.txt) (fun _ l j=>by rw[List.mem_singleton.1 j];have:=cx1 a;omega) (fun _=>by rw[gH];exact f) (fun _=>by rw[g];exact fun r m=>by rw[List.mem_singleton.1 m];exact a) (by decide) (by decide)).mono (fun e A k=> ?_);unfold RetOp at k;rw[if_pos ⟨h.lg.vl,w⟩,gH,g] at k;exact k.pt (by omega)
section
variable {T U:List Rat}{X:Rat}(h:SqC T X U)
include h
def SqC.lg:Lg (U.map cW):=M9 h.tr h.len h.rl aE
def SqC.ne:U≠[]:=fun e=>by
 have:=h.ev;rw[e] at this;exact absurd (show(0:Rat)<0 from this) (by decide)
def SqC.nn(v:Value)(w:World)(a:Glob w)(hv:StrsAt w v (U.map cW)):Calls prog 17 #[v] w (kL w false 0):=by
 refine dxN _ false h.lg (fun D b W v u a g i=>OA h.lg (.inr rfl) (iG (mC 1)) b (fun j N f=> ?_) W v u a g i) v w a hv;rw[gH] at *;obtain⟨d, -,e⟩:=f h.ne;exact⟨fun k=>(by cases k),fun k=>absurd k (exM b h.tr a h.ev d h.len e)⟩
def SqC.at{x:List UInt8}(a:cL x=some X)(p:x.length<=5)(v:Value)(w:World)(b:Glob w)(hv:StrsAt w v (U.map cW)):Calls prog 23 #[v,.string ⟨x.toArray⟩] w (kL w false 0):=by
 have g:x≠[]:=fun e=>by rw[e] at a;cases a
 have n:rd x=true:=by unfold rd;rw[a];rfl
 have i:lC x (-1)=0:=if_neg g;have j:m5 x=X:=by unfold m5;rw[if_neg g,a];rfl
 have l:nJ x=true:=by unfold nJ;rw[n,Bool.or_true]
 refine dxM _ x false h.lg l (fun D d W v u b o f=> ?_) v w b hv (by omega);rw[i,j] at f;refine OA h.lg (.inl rfl) (lS a (by omega)) d (fun m N _=> ?_) W v u b o f;rw[gH] at *;exact⟨fun k=>(by cases k),fun k=>absurd k (exK d h.ev m.length N)⟩
end
def DD(w:World)(v:Value):Prop:=∀g,v.ownBlock=some g->∀cur t f,w.heap[g]? =some (.cells cur t f)->∀y∈cur.toList,NoInt y
def GrowD(w:World)(base:Nat)(e:TypeId)(k:Nat)(v:Value)(rows:List (List Value)):Prop:=w.ownsRow base e k v rows.length rows.flatten∧(∀r∈rows,r.length=k)∧DD w v
section
variable {w w':World}{base:Nat}{e:TypeId}{k:Nat}{v:Value}{rows:List (List Value)}
def GrowD.nil:GrowD w base e k (.slice none 0 0) []:=⟨World.ownsRow_nil _ _ _ _,(fun _ h=>by cases h),fun g h=>by simp[Value.ownBlock] at h⟩
def GrowD.lt(h:GrowD w base e k v rows):∀g,v.ownBlock=some g->base<=g∧g<w.1.size:=fun g b=>by
 rcases h.1.2 with ⟨rfl,_⟩|⟨i,f,cur,rfl,c,d,_⟩
 ·simp[Value.ownBlock] at b
 ·simp[Value.ownBlock] at b;subst b;exact⟨c,(Array.getElem?_eq_some_iff.1 d).1⟩
def GrowD.kept(h:GrowD w base e k v rows)(l:∀g,v.ownBlock=some g->w'.heap[g]? =w.heap[g]?):GrowD w' base e k v rows:=by
 obtain⟨j,n,q⟩:=h;refine⟨⟨j.1,?_⟩,n,fun g d b t f c=>q g d b t f ((l g d).symm.trans c)⟩;rcases j.2 with h|⟨i,m,b,rfl,p,c,h⟩
 ·exact .inl h
 ·exact .inr ⟨i,m,b,rfl,p,(l i (by simp[Value.ownBlock])).trans c,h⟩
def GrowD.be(h:GrowD w base e k v rows)(c:Below w.1.size w w'):GrowD w' base e k v rows:=h.kept (fun g b=>c.block g (h.lt g b).2)
def GrowD.up{a b:World}[u:Up a b](h:GrowD a base e k v rows):GrowD b base e k v rows:=h.be u.out
def GrowD.form(h:GrowD w base e k v rows):∃A c,v= .slice A rows.length c∧rows.length<=c:=by
 rcases h.1.2 with ⟨rfl,b⟩|⟨i,d,g,rfl,j,l,f,_⟩
 ·exact⟨none,0,by rw[b],by rw[b];exact aE⟩
 ·exact⟨_,d,rfl,f⟩
def GrowD.at_{A:Option Addr}{l c:Nat}(h:GrowD w base e k (.slice A l c) rows){i:Nat}(hi:rows[i]? =some r):∃b,A=some ⟨b,0,none⟩∧base<=b∧b<w.1.size∧∀(j:Nat) (u:Value),r[j]? =some u->w.cell? ⟨b,i*k+j,none⟩=some u:=by
 obtain⟨q,g,B⟩:=h;have C:=(List.getElem?_eq_some_iff.1 hi).1;rcases q.2 with ⟨_,z⟩|⟨f,y,p,hv,s,m,D,E,F,x⟩
 ·omega
 ·simp only[Value.slice.injEq] at hv;refine⟨f,hv.1,s,(Array.getElem?_eq_some_iff.1 m).1,fun j u n=> ?_⟩;have t:j<k:=by rw[<-g r (dG hi)];exact(List.getElem?_eq_some_iff.1 n).1
  rw[cell_of_row w f _ p e (0,0) m,<-Array.getElem?_toList];have d:=mW g hi t;rw[n,<-x,fC] at d;split at d
  ·exact d
  ·cases d
end
def LA(w:World)(t N e:TypeId)(k bytes:Nat)(z:Value)(V:Tryz.prog.underlying t=some (.slice e))(hi:(Tryz.prog.info? e).map (fun i=>(i.zero,i.size,i.bytes))=some (some z,k,bytes))(av:z.cells.size=k)(hz:∀n,∀y∈Builtin.zeroCells z.cells n,NoInt y)(hk:0<k)(ai:bytes<=1024)
  {base:Nat}{rows:List (List Value)}(hG:GrowD w base e k v rows){c:Nat}(hB:Bx w g r t')(H:r.length=k)(T:∀u∈r,NoInt u∧u.oneCell'=true)(hl:rows.length<=1073741824)(hb:base<=w.1.size):
  ∃E w',(Builtin.append_ #[t,t] N #[v,.slice (some ⟨g,0,none⟩) 1 c]).run prog w= .ok E w'∧GrowD w' base e k E (rows++[r])∧Keep w w'∧w.grownBy w' v.ownBlock∧(E.ownBlock=v.ownBlock∨E.ownBlock=some w.1.size):=by
 obtain⟨F,h3,hN⟩:=hG;obtain⟨i,hi,Z,I,ac⟩:=info_parts hi;have ae:(rows.length+1)*bytes<=140737488355328:=aH (aqK (show rows.length+1<=1073741825 by omega) ai) (by decide);have S:∀j u,r[j]? =some u->w.cell? ((⟨g,0,none⟩:Addr).add j)=some u:=fun j u M=>by
  have:=hB.cell j M;unfold Addr.add;split
  ·rename_i K;subst K;exact this
  ·simpa using this
 obtain⟨E,w',U,ho,R,_,ah⟩:=run_append_own_at (P:=prog) w base t N e i z k bytes V hi Z I ac av hk v rows.length _ F ⟨g,0,none⟩ 1 c r (by rw[H,aqD]) S (fun u M=>(T u M).2) (by unfold maxLen;omega) ae hb;have am:Keep w w':=fun x n D=>by
  obtain⟨A,c',hv,L,ar,ap⟩:=D;refine⟨A,c',hv,L,?_,ap.mono R.size⟩;rcases ar with h|⟨b,aw,rfl,af,ak⟩
  ·exact .inl h
  ·refine .inr ⟨b,aw,rfl,aZ af R.size,fun j G=> ?_⟩;have Y:=ak j G;by_cases O:v.ownBlock=some b
   ·rcases F.2 with ⟨rfl,_⟩|⟨p,q,l,rfl,_,C,_⟩
    ·simp[Value.ownBlock] at O
    ·have B:p=b:=by simpa [Value.ownBlock] using O
     subst B;rw[cell_of_row w p _ l _ (0,0) C,<-Array.getElem?_toList] at Y;exact absurd rfl (hN p O l _ _ C _ (dG Y) _ _)
   ·exact(World.cell?_of_block (R.block b af (fun e'=>O e'.symm))).trans Y
 have al:DD w' E:=by
  have ad:∀(W:List Value) (q m:Nat),(∀y∈W,NoInt y)->DD (w.drew.alloc (.cells (W.toArray++r.toArray++Builtin.zeroCells z.cells m) e)) (.slice (some ⟨w.1.size,0,none⟩) (rows.length+1) q):=fun W q m hv p J l t f L=>by
   simp[Value.ownBlock] at J;subst J;have:=heap_alloc_new w.drew (.cells (W.toArray++r.toArray++Builtin.zeroCells z.cells m) e);have h5:=this.symm.trans L;simp only[Option.some.injEq,Obj.cells.injEq] at h5;rw[<-h5.1];intro y d;rw[bx5,bx5] at d;rcases List.mem_append.1 d with d|d
   ·rcases List.mem_append.1 d with d|d
    ·exact hv y d
    ·exact(T y d).1
   ·exact hz m y (Array.mem_toList_iff.1 d)
  rcases F.2 with ⟨rfl,K⟩|⟨p,q,l,rfl,ay,C,ao,az,hs,a0⟩
  ·have s:=run_append_nil (P:=prog) w t N e i z V hi Z ⟨g,0,none⟩ 1 c r (by rw[I,H,aqD]) S (by decide) (by decide) (by rw[ac];omega);rw[U] at s;injection s with e1 B;subst e1 B;have:=ad [] (grownCap w 1 0 e) (grownCap w 1 0 e-1) (fun _ h=>by cases h);rw[K] at this;simpa using this
  ·have X:∀y∈l.toList,NoInt y:=hN p rfl l _ _ C;by_cases ag:rows.length+1<=q
   ·have s:=run_append_room (P:=prog) w t N e i V hi p rows.length q l C ⟨g,0,none⟩ 1 c r (by rw[I,H,aqD]) S (fun u M=>(T u M).2) ag (by
     rw[I,hs,H];have:=dK k ag;rw[aqA,aqD] at this;exact this)
    rw[U] at s;injection s with e1 B;subst e1 B;intro g3 J ax t f L;simp[Value.ownBlock] at J;subst J;have h7:=(setRow_heap w p l _ e _ C).symm.trans L;simp only[Option.some.injEq,Obj.cells.injEq] at h7;rw[<-h7.1];intro y d;have au:y∈l.toList.take (rows.length*i.size)++r++l.toList.drop (rows.length*i.size+r.length):=d;rcases List.mem_append.1 au with d|d
    ·rcases List.mem_append.1 d with d|d
     ·exact X y (lH d)
     ·exact(T y d).1
    ·exact X y (bxD d)
   ·have aq:∀j y,(l.toList.take (rows.length*k))[j]? =some y->w.cell? ((⟨p,0,none⟩:Addr).add j)=some y:=fun j y G=>by
     have F:w.cell? ⟨p,j,none⟩=some y:=by
      rw[cell_of_row w p j l _ (0,0) C,<-Array.getElem?_toList];rw[fC] at G;split at G
      ·exact G
      ·cases G
     unfold Addr.add;split
     ·rename_i K;subst K;exact F
     ·simpa using F
    have an:(l.toList.take (rows.length*k)).length=rows.length*i.size:=by
     have aj:l.toList.length=q*k:=hs;rw[I,bK,aj];exact y8 (dK _ ao)
    have s:=run_append_grow (P:=prog) w t N e i z V hi Z ⟨p,0,none⟩ rows.length q (l.toList.take (rows.length*k)) an aq ⟨g,0,none⟩ 1 c r (by rw[I,H,aqD]) S (by omega) (by omega) (growslice_fits (by omega) (by rw[ac];exact ae));rw[U] at s;injection s with e1 B;subst e1 B;have:=ad (l.toList.take (rows.length*k)) (grownCap w (rows.length+1) q e) (grownCap w (rows.length+1) q e-(rows.length+1)) (fun y d=>X y (lH d));simpa using this
 refine⟨E,w',U,⟨?_,fun x D=> ?_,al⟩,am,R,ah⟩
 ·rw[dA,byL];simpa using ho
 ·rcases List.mem_append.1 D with D|D
  ·exact h3 x D
  ·rw[List.mem_singleton.1 D];exact H
section
variable {ops:Array Oper}{rest:List Oper}{o:Oper}{a:Act}{Q:Exit->Act->World->Prop}{w:World}
def yE(C:o.guard=none){s x:Operand}(G:o.op= .call { callee:= .builtin .append,args:= #[s,x],argTypes:= #[t,t] })(e:TypeId)(k bytes:Nat)(z:Value)(L:Tryz.prog.underlying t=some (.slice e))(hi:(Tryz.prog.info? e).map (fun i=>(i.zero,i.size,i.bytes))=some (some z,k,bytes))(O:z.cells.size=k)(N:∀n,∀y∈Builtin.zeroCells z.cells n,NoInt y)(D:0<k)(B:bytes<=1024)
  {base:Nat}{rows:List (List Value)}(J:a.eval s=v)(p:GrowD w base e k v rows){c:Nat}(M:a.eval x= .slice (some ⟨g,0,none⟩) 1 c)(m:Bx w g r P)(H:r.length=k)(F:∀u∈r,NoInt u∧u.oneCell'=true)(E:rows.length<=1073741824)(A:base<=w.1.size)
  (h:∀b w',GrowD w' base e k b (rows++[r])->Keep w w'->w.grownBy w' v.ownBlock->(b.ownBlock=v.ownBlock∨b.ownBlock=some w.1.size)->wpList prog ops Q rest (a.put o.dst b) w'):
  wpList prog ops Q (o :: rest) a w:=by
 obtain⟨b,w',I,d,f,j,l⟩:=LA w t o.type e k bytes z L hi O N D B p m H F E A (c:=c);refine wpList_plain C fun K q=> ?_;unfold Oper.wp execOp;simp only[G,resolve,invoke,builtin,Sem.run_bind,Sem.run_pure,Result.andThen_ok,bxC,fM,aqJ,J,M,I];exact q _ _ (h b w' d f j l)
def LB{K:Act->World->Prop}{E:Prop}(B:o.guard=none){s x:Operand}(G:o.op= .call { callee:= .builtin .append,args:= #[s,x],argTypes:= #[t,t] })(e:TypeId)(k bytes:Nat)(z:Value)(L:Tryz.prog.underlying t=some (.slice e))(hi:(Tryz.prog.info? e).map (fun i=>(i.zero,i.size,i.bytes))=some (some z,k,bytes))(P:z.cells.size=k)(O:∀n,∀y∈Builtin.zeroCells z.cells n,NoInt y)(C:0<k)(A:bytes<=1024)
  {base:Nat}{rows:List (List Value)}(J:a.eval s=v)(p:GrowD w base e k v rows){c:Nat}(N:a.eval x= .slice (some ⟨g,0,none⟩) 1 c)(m:Bx w g r R)(H:r.length=k)(F:∀u∈r,NoInt u∧u.oneCell'=true)(D:rows.length<=1073741824)(q:base<=w.1.size)
  (h:∀b w',GrowD w' base e k b (rows++[r])->Keep w w'->w.grownBy w' v.ownBlock->(b.ownBlock=v.ownBlock∨b.ownBlock=some w.1.size)->K (a.put o.dst b) w'):if Region.wanted o (yielded ops a.tmps)=true then Oper.wp prog o a w K Q else E:=by
 have M:Region.wanted o (yielded ops a.tmps)=true:=by simp[Region.wanted,B]
 rw[if_pos M];obtain⟨b,w',I,d,f,j,l⟩:=LA w t o.type e k bytes z L hi P O C A p m H F D q (c:=c);unfold Oper.wp execOp;simp only[G,resolve,invoke,builtin,Sem.run_bind,Sem.run_pure,Result.andThen_ok,bxC,fM,aqJ,J,N,I];exact h b w' d f j l
end
def GrowD.left{base:Nat}{e:TypeId}{rows:List (List Value)}(h:GrowD w base e k v rows)(b:w.grownBy w' v.ownBlock)(c:base<=w.1.size):Below base w w':=⟨b.os,b.tape,b.output,b.size,fun k d=>b.block k (by omega) (fun e=>by have:=(h.lt k e.symm).1;omega)⟩
def ZS(x y:Rat):(x+y)*(((1:Int):Rat)/((2:Int):Rat))=(x+y)/2:=by
 have a:((1:Int):Rat)=1:=rfl;have c:((2:Int):Rat)=2:=rfl;rw[a,c];grind
def ZT:(((1:Int):Rat)/((2:Int):Rat)).den≠1:=by rw[<-Rat.divInt_eq_div];decide
def ZU:(((1:Int):Rat)/((2:Int):Rat)).num≠0:=by rw[<-Rat.divInt_eq_div];decide
def SpanAt(w:World)(v:Value)(x y:Rat):Prop:=∃s1 a k f o c l h p d m i q e n j,v= .agg #[.bool s1,.slice a k f,.bool o,.slice c l h,.bool p,.slice d m i,.bool q,.slice e n j]∧RatAt w (.agg #[.bool s1,.slice a k f,.bool o,.slice c l h]) x∧RatAt w (.agg #[.bool p,.slice d m i,.bool q,.slice e n j]) y
def uN(K:Nat)(D:Rat->Rat->Prop):Prop:=∀x y,D x y->RL K x->RL K y->∀W u v,Glob W->RatAt W u x->RatAt W v y->Calls prog 63 #[u,v] W (iF W (x+y))
def ZV(d:10*K+40<=aJ):uN K y7:=fun x y e f i W u v c h a=>IZ x y u v W c h a e.2 K f i d
def ZW(D:Rat->Rat->Prop)(x y:Rat)(v:Value)(w:World)(a:Glob w)(hv:SpanAt w v x y)(K:Nat)(r:RL K x)(q:RL K y)(h1:1<=K)(ag:K<=1073741824)(I:uN K D)(J:D x y):
  Calls prog 98 #[v] w (iF w ((x+y)/2)):=by
 obtain⟨Y,j,N,s,Z,k,O,t,s3,l,P,A,s4,n,Q,B,rfl,hx,hy⟩:=hv;have L:=fun W a h d=>I x y J r q W (.agg #[.bool Y,.slice j N s,.bool Z,.slice k O t]) (.agg #[.bool s3,.slice l P A,.bool s4,.slice n Q B]) a h d;clear I J;have U:nl (1:Int).natAbs<=1:=cJ (by decide);have V:nl (2:Int).natAbs<=1:=cJ (by decide);have M:=fun W u v a h d=>I3 1 2 u v W a h d 1 U V (by unfold aJ;decide);have i:=fun W u v a h d=>UT (x+y) (((1:Int):Rat)/((2:Int):Rat)) u v W a h d (fun e=>absurd e.2 ZT) ZU (2*K+2) (bU (wW r q) (by omega)) (bU (pM U V (mC 1)) (by omega)) (by unfold aJ;omega);rw[ZS] at i;unfold iF at L M i;unfold iF;generalize (x+y)/2=m at *;generalize x+y=z at *;generalize ((1:Int):Rat)/((2:Int):Rat)=ah at *;obtain⟨W,G,c,X,R⟩:=eL w [.bool Y,.slice j N s,.bool Z,.slice k O t,.bool s3,.slice l P A,.bool s4,.slice n Q B] 85 [.bool false,.slice none 0 0,.bool false,.slice none 0 0] 76;have cM:=aa X.g8 R.g4;go_enter func98,ntmps98;go_wp2_with fail;(try rw[G]);clear G;refine(L _ (a.be c) (hx.be c) (hy.be c)).mono ?_;rintro e5 w5 ⟨v5,rfl,h5,ac⟩;have:=St.mk ac;go_wp2_with fail;refine(lL 1 _ (by decide) (by decide)).mono ?_;rintro F w6 ⟨v6,rfl,h6,f⟩;have:=St.mk f;go_wp2_with fail;refine(lL 2 _ (by decide) (by decide)).mono ?_;rintro e7 w7 ⟨v7,rfl,h7,ad⟩;have:=St.mk ad;go_wp2_with fail;refine(M _ _ _ (a.be c).up h6.up h7).mono ?_;rintro e8 w8 ⟨v8,rfl,h8,ae⟩;have:=St.mk ae;go_wp2_with fail;refine(i _ _ _ (a.be c).up h5.up h8).mono ?_;rintro e9 w9 ⟨v9,rfl,H,af⟩;obtain⟨s5,o,S,C,s6,p,T,E,rfl⟩:=H.form;have:=St.mk af;replace R:=R.up (b:=w9);have cR:=R.g4;go_wp2_with fail;obtain⟨W6,F,R6,f,hk,ff⟩:=R.put4 (bJ (b:=w9) c) (by omega) (.bool s5) (.slice o S C) (.bool s6) (.slice p T E) rfl rfl;rw[F];exact aM (v:= .agg #[.bool s5,.slice o S C,.bool s6,.slice p T E]) (by simp[results,results98,go_sem,R6.k4]) rfl ⟨_,rfl,H.ke hk,f⟩
def ZX(x y:Rat)(v:Value)(w:World)(a:Glob w)(hv:SpanAt w v x y)(K:Nat)(S:RL K x)(Q:RL K y)(L:K<=1073741824):
  Calls prog 52 #[v] w fun e w'=>e= .returned (.agg #[.string ⟨(cW x).toArray⟩,.string ⟨(cW y).toArray⟩])∧Below w.1.size w w':=by
 obtain⟨A,i,s,m,B,j,t,n,C,k,u,o,D,l,z,p,rfl,q,r⟩:=hv;have U:=fun W a h=>I4 x (.agg #[.bool A,.slice i s m,.bool B,.slice j t n]) W a h K S L;have V:=fun W a h=>I4 y (.agg #[.bool C,.slice k u o,.bool D,.slice l z p]) W a h K Q L;generalize (cW x).toArray=N at *;generalize (cW y).toArray=O at *;obtain⟨W,I,c,X,R⟩:=eL w [.bool A,.slice i s m,.bool B,.slice j t n,.bool C,.slice k u o,.bool D,.slice l z p] 85 [.string ⟨#[]⟩,.string ⟨#[]⟩] 38;have cM:=aa X.g8 R.g2;go_enter func52,ntmps52;go_wp2_with fail;(try rw[I]);clear I;replace q:=q.be c;replace r:=r.be c;have M:w.1.size+1≠w.1.size:=by omega
 go_region_held3 (fun w'=>C8 w' w.1.size (.bool A) (.slice i s m) (.bool B) (.slice j t n) (.bool C) (.slice k u o) (.bool D) (.slice l z p)) (first|(with_reducible exact X.up.k8)|(with_reducible exact((G.far 0 _ M).far 1 _ M).k8))
  (first
   |(go_at_call 51;first|(with_reducible refine(U _ (a.be c).up q.up).mono ?_;rintro e5 E ⟨rfl,Y⟩;have:=St.mk Y;have d:=R.up (b:=E);have G:=X.up (b:=E);have T:=d.g2;have J:=bJ (b:=E) c)|(with_reducible refine(V _ (a.be c).up r.up).mono ?_;rintro H F ⟨rfl,f⟩;have:=St.mk f;have d:=R.up (b:=F);have G:=X.up (b:=F);have T:=d.g2;have J:=bJ (b:=F) c)))
 all_goals (
  go_wp2_with fail;obtain⟨Z,H,P,f,hk,ff⟩:=d.put2 J (by omega) (.string ⟨N⟩) (.string ⟨O⟩) rfl rfl;rw[H];exact aM (v:= .agg #[.string ⟨N⟩,.string ⟨O⟩]) (by simp[results,results52,go_sem,P.k2]) rfl ⟨rfl,by first|exact f|exact f.drew⟩)
def PoAt(w:World)(v:Value)(x:Rat)(n:Int)(z:Bool):Prop:=∃s1 a f d i c h e,v= .agg #[.bool s1,.slice a f d,.bool i,.slice c h e,.int .i64 n,.bool z]∧RatAt w (.agg #[.bool s1,.slice a f d,.bool i,.slice c h e]) x
def Bx.put6(h:Bx W b cs t)(H:Below B w W)(a:B<=b)(v0 v1 v2 v3 v4 v5:Value){e f l:Value}{k:Int}(I:cs=[e,f,i,j,.int .i64 k,l])(hn:(cS (some e)&&(cS (some f)&&(cS (some i)&&(cS (some j)&&cS (some l)))))=true):
  ∃d,(((((W.setCell ⟨b,0,none⟩ v0).setCell ⟨b,1,none⟩ v1).setCell ⟨b,2,none⟩ v2).setCell ⟨b,3,none⟩ v3).setCell ⟨b,4,none⟩ v4).setCell ⟨b,5,none⟩ v5=d∧Bx d b [v0,v1,v2,v3,v4,v5] t∧Below B w d∧Keep W d∧∀{g:Nat} {cs:List Value} {t:TypeId},Bx W g cs t->b≠g->Bx d g cs t:=by
 subst I;simp only[az7] at hn;obtain⟨P,rfl,C,n,J,v⟩:=h.put1 H a 0 v0 hn.1;obtain⟨Q,rfl,D,o,K,x⟩:=C.put1 n a 1 v1 hn.2.1;obtain⟨R,rfl,E,q,L,y⟩:=D.put1 o a 2 v2 hn.2.2.1;obtain⟨S,rfl,m,r,M,z⟩:=E.put1 q a 3 v3 hn.2.2.2.1;have s:=r.setCell (p:=⟨b,4,none⟩) a v4;have N:=Keep.puti (m.cell 4 rfl) v4;have F:=m.set 4 v4;obtain⟨T,rfl,G,u,O,A⟩:=F.put1 s a 5 v5 hn.2.2.2.2;exact⟨_,rfl,G,u,((((J.trans K).trans L).trans M).trans N).trans O,fun k c=>A ((z (y (x (v k c) c) c) c).far 4 v4 c) c⟩
section
variable {w:World}{b g:Nat}{v0 v1 v2 v3 v4 v5:Value}
def qV(a:b≠g)(h:w.cell? ⟨g,o,none⟩=some u):((((((w.setCell ⟨b,0,none⟩ v0).setCell ⟨b,1,none⟩ v1).setCell ⟨b,2,none⟩ v2).setCell ⟨b,3,none⟩ v3).setCell ⟨b,4,none⟩ v4).setCell ⟨b,5,none⟩ v5).cell? ⟨g,o,none⟩=some u:=by
 exact(aL _ _ _ _ _ _ a).trans ((aL _ _ _ _ _ _ a).trans ((aL _ _ _ _ _ _ a).trans ((aL _ _ _ _ _ _ a).trans ((aL _ _ _ _ _ _ a).trans ((aL _ _ _ _ _ _ a).trans h)))))
def ZY(a:b≠g){u2 u3:Value}(h:C4 w g u0 u1 u2 u3):C4 ((((((w.setCell ⟨b,0,none⟩ v0).setCell ⟨b,1,none⟩ v1).setCell ⟨b,2,none⟩ v2).setCell ⟨b,3,none⟩ v3).setCell ⟨b,4,none⟩ v4).setCell ⟨b,5,none⟩ v5) g u0 u1 u2 u3:=⟨qV a h.1,qV a h.2.1,qV a h.2.2.1,qV a h.2.2.2⟩
def ZZ(a:b≠g)(h:C2 w g u0 u1):C2 ((((((w.setCell ⟨b,0,none⟩ v0).setCell ⟨b,1,none⟩ v1).setCell ⟨b,2,none⟩ v2).setCell ⟨b,3,none⟩ v3).setCell ⟨b,4,none⟩ v4).setCell ⟨b,5,none⟩ v5) g u0 u1:=⟨qV a h.1,qV a h.2⟩
end
def ax0(s:List Int)(x:Rat):decide (fE s x.num x.den=0)=decide (aP s 0 x=0):=by
 unfold aP;rw[if_pos rfl];exact decide_eq_decide.2 (by rw[Int.sign_eq_zero_iff_zero])
def ax1(s:List Int)(c:List (List Int))(B E:Nat)(x:Rat)(vc vr vx:Value)(w:World)(H:Bx w E [vc,vr] 132)(hv:WsAt w B 64 vc (s :: c))(y:RatAt w vx x)(an:(s :: c).length<=1024)(K:Nat)(J:∀a∈s :: c,a≠[]∧a.length<=65∧∀n∈a,nl n.natAbs<=K)(C:RL K x)(ac:140*K+10<=17592186044416):
  Calls prog 95 #[.pointer (some ⟨E,0,none⟩),vx] w fun e w'=>∃v',e= .returned v'∧PoAt w' v' x (aY 0 ((s :: c).map (fun a=>aP a 0 x)):Nat) (decide (aP s 0 x=0))∧Below w.1.size w w':=by
 obtain⟨r,d,o,k,t,f,q,m,rfl⟩:=y.form;obtain⟨A,Q,rfl,hc⟩:=hv.form;obtain⟨j,u0,rfl,ae,hu,ah⟩:=hv.at_ (i:=0) (l:=s) rfl;obtain⟨N,P,rfl,ap⟩:=ah.form;have aq:(0:Int)<((s :: c).length:Int):=by rw[eG];omega
 have z:=J s (iC ..);have af:=fun W h G=>BV (s :: c) B 0 x (.slice (some ⟨j,0,none⟩) (s :: c).length Q) (.agg #[.bool r,.slice d o k,.bool t,.slice f q m,.int .i64 0]) W h G (by decide) an K J C ac;have ad:=fun W h G=>CB s x (.slice N s.length P) (.agg #[.bool r,.slice d o k,.bool t,.slice f q m]) W h G K z.2.2 C z.2.1 ac;have O:=xK (ns:=s) (a:=x.num) (b:=x.den) (T:=BN^K) (fun n h=>mS (z.2.2 n h)) (mS C.1) (mS C.2);have aj:nl (fE s x.num x.den).natAbs<=K*65+1:=by
  refine cJ (jI O.1 (aZ (xL (by omega)).1 (cO (by decide) ?_)));have:=eV K z.2.1;omega
 have ag:=fun W u h=>g9 (fE s x.num x.den) u W h (by omega);rw[ax0] at ag;have ao:=H.lt;unfold eO at af;unfold dW at ad;generalize (aY 0 ((s :: c).map (fun a=>aP a 0 x)):Nat)=V at *;generalize decide (aP s 0 x=0)=Z at *;generalize fE s x.num x.den=au at *;clear J z O aj C;have ar:0<(s :: c).length:=by rw[eG];omega
 generalize (s :: c).length=n at *;obtain⟨W,U,I,X,R⟩:=eL w [.bool r,.slice d o k,.bool t,.slice f q m] 76 [.bool false,.slice none 0 0,.bool false,.slice none 0 0,.int .i64 0,.bool false] 135;have cM:=aa X.g4 R.g6;go_enter func95,ntmps95;go_wp2_with fail;(try rw[U]);clear U;have:=St.mk I;have n1:w.1.size+1≠w.1.size:=by omega
 have n2:w.1.size+1≠E:=by omega
 have n3:w.1.size+1≠j:=by omega
 go_region_held3 (fun w'=>C4 w' w.1.size (.bool r) (.slice d o k) (.bool t) (.slice f q m)∧C2 w' E (.slice (some ⟨j,0,none⟩) n Q) vr∧w'.cell? ⟨j,0,none⟩=some (.slice N s.length P))
  (first
   |(with_reducible exact⟨X.up.k4,H.up.k2,((Up.out (a:=w)).cell (p:=⟨j,0,none⟩) ae).trans hu⟩)
   |(with_reducible exact⟨ZY n1 X.up.k4,ZZ n2 H.up.k2,qV n3 (((Up.out (a:=w)).cell (p:=⟨j,0,none⟩) ae).trans hu)⟩))
  (first
   |(go_at_call 142;refine(af _ hv.up (EndAt.of y.up)).mono ?_;rintro e5 L ⟨rfl,al⟩;have:=St.mk al;have D:=R.up (b:=L);have ak:=D.g6;have Y:=bJ (b:=L) I;have ai:=y.up (b:=L))
   |(go_at_call 49;refine(ad _ ah.up y.up).mono ?_;rintro S w6 ⟨v6,rfl,h6,F⟩;have:=St.mk F)
   |(go_at_call 50;refine(ag _ _ h6.up).mono ?_;rintro e7 M ⟨rfl,am⟩;have:=St.mk am;have D:=R.up (b:=M);have ak:=D.g6;have Y:=bJ (b:=M) I;have ai:=y.up (b:=M)))
 all_goals (
  go_wp2_with fail;obtain⟨W6,S,R6,F,hk,ff⟩:=D.put6 Y (by omega) (.bool r) (.slice d o k) (.bool t) (.slice f q m) (.int .i64 (V:Int)) (.bool Z) rfl rfl;rw[S];exact aM (v:= .agg #[.bool r,.slice d o k,.bool t,.slice f q m,.int .i64 (V:Int),.bool Z]) (by simp[results,results95,go_sem,R6.k6]) rfl ⟨_,rfl,⟨_,_,_,_,_,_,_,_,rfl,ai.ke hk⟩,by first|exact F|exact F.drew⟩)
structure Fr(gb:Nat)(v:Value)(w w':World):Prop where
 be:Below gb w w'
 ke:Keep w w'
 block:∀k,gb<k->k<w.1.size->v.ownBlock≠some k->w'.heap[k]? =w.heap[k]?
def OwnTo(w:World)(v v':Value):Prop:=∀g,v'.ownBlock=some g->v.ownBlock=some g∨w.1.size<=g
def Fr.of(h:Below w.1.size w w')(b:a<=w.1.size):Fr a v w w':=⟨h.mono b,Keep.be h,fun k _ c _=>h.block k c⟩
def Fr.trans{j:World}(h:Fr a v w w1)(b:Fr a i w1 j)(l:OwnTo w v i):Fr a v w j:=
 ⟨h.be.trans b.be,h.ke.trans b.ke,fun k c d f=>(b.block k c (aZ d h.be.size) (fun e=>by
  rcases l k e with g|g
  ·exact f g
  ·omega)).trans (h.block k c d f)⟩
def OwnTo.trans{b c:Value}(h:OwnTo w v b)(d:OwnTo w1 b c)(f:w.1.size<=w1.1.size):OwnTo w v c:=fun g e=>by
 rcases d g e with a|a
 ·exact h g a
 ·exact .inr (aH f a)
def Bx.fr(h:Bx w g cs t)(b:Fr a v w w')(c:a<g)(hv:v.ownBlock≠some g):Bx w' g cs t:=(b.block g c h.lt hv).trans h
def SpRow(w:World)(rows:List (List Value))(l:List (Rat×Rat)):Prop:=rows.length=l.length∧∀(i:Nat) (p:Rat×Rat),l[i]? =some p->∃s1 a k f q b m g r c n h s d o j,rows[i]? =some [Value.bool s1,.slice a k f,.bool q,.slice b m g,.bool r,.slice c n h,.bool s,.slice d o j]∧RatAt w (.agg #[.bool s1,.slice a k f,.bool q,.slice b m g]) p.1∧RatAt w (.agg #[.bool r,.slice c n h,.bool s,.slice d o j]) p.2
def SpRow.ke{rows:List (List Value)}(h:SpRow w rows l)(a:Keep w w'):SpRow w' rows l:=⟨h.1,fun i p q=>by
 obtain⟨s1,b,r,g,v,c,s,j,y,d,t,k,z,f,u,m,e,n,o⟩:=h.2 i p q;exact⟨s1,b,r,g,v,c,s,j,y,d,t,k,z,f,u,m,e,n.ke a,o.ke a⟩⟩
def RowSp(w:World)(a:Nat)(v:Value)(l:List (Rat×Rat)):Prop:=∃rows,GrowD w a 85 8 v rows∧SpRow w rows l
def RowSp.be(h:RowSp w a v l)(b:Below w.1.size w w'):RowSp w' a v l:=by
 obtain⟨f,c,d⟩:=h;exact⟨f,c.be b,d.ke (Keep.be b)⟩
def RowSp.lt(h:RowSp w a v l):∀g,v.ownBlock=some g->a<=g∧g<w.1.size:=by
 obtain⟨d,b,c⟩:=h;exact b.lt
def RowSp.nil(w:World)(a:Nat):RowSp w a (.slice none 0 0) []:=⟨[],GrowD.nil,rfl,fun i p h=>by simp at h⟩
def RowSp.form(h:RowSp w a v l):∃A c,v= .slice A l.length c∧l.length<=c:=by
 obtain⟨f,b,d⟩:=h;rw[<-d.1];exact b.form
def L6:(Tryz.prog.info? 85).map (fun i=>(i.zero,i.size,i.bytes))=some (some (.agg #[.bool false,.slice none 0 0,.bool false,.slice none 0 0,.bool false,.slice none 0 0,.bool false,.slice none 0 0]),8,128):=by kernel_rfl
def yB(n:Nat):∀y∈Builtin.zeroCells (Value.agg #[.bool false,.slice none 0 0,.bool false,.slice none 0 0,.bool false,.slice none 0 0,.bool false,.slice none 0 0]).cells n,NoInt y:=fun y b=>by
 unfold Builtin.zeroCells at b;obtain⟨j,_,rfl⟩:=Array.mem_map.1 b;have a:(Value.agg #[.bool false,.slice none 0 0,.bool false,.slice none 0 0,.bool false,.slice none 0 0,.bool false,.slice none 0 0]).cells= #[Value.bool false,.slice none 0 0,.bool false,.slice none 0 0,.bool false,.slice none 0 0,.bool false,.slice none 0 0]:=rfl;rw[a];have a:(#[Value.bool false,.slice none 0 0,.bool false,.slice none 0 0,.bool false,.slice none 0 0,.bool false,.slice none 0 0]:Array Value).size=8:=rfl;rw[a];rcases(show j%8=0∨j%8=1∨j%8=2∨j%8=3∨j%8=4∨j%8=5∨j%8=6∨j%8=7 by omega) with h|h|h|h|h|h|h|h<;>rw[h]
 ·exact NoInt.bool _
 ·exact NoInt.slice _ _ _
 ·exact NoInt.bool _
 ·exact NoInt.slice _ _ _
 ·exact NoInt.bool _
 ·exact NoInt.slice _ _ _
 ·exact NoInt.bool _
 ·exact NoInt.slice _ _ _
def Bx.grown{a:Option Nat}(h:Bx w g cs t)(b:w.grownBy w' a)(c:a≠some g):Bx w' g cs t:=(b.block g h.lt (fun e=>c e.symm)).trans h
def L7{d:World}{vc vr b:Value}{rows:List (List Value)}{q:List (Rat×Rat)}{Q R S:Bool}{s t u v:Option Addr}{L M N O C E F:Nat}
  (l:Below w.1.size w W)(ai:a<w.1.size)(P:Bx W a [vc,vr] 132)(ah:∃A k c,vr= .slice A k c)(hG:GrowD W (a+1) 85 8 vr rows)(hS:SpRow W rows q)(hx:RatAt W (.agg #[.bool s1,.slice s L B,.bool Q,.slice t M C]) x)(hy:RatAt W (.agg #[.bool R,.slice u N E,.bool S,.slice v O F]) y)
  (H:GrowD d (a+1) 85 8 b (rows++[[.bool s1,.slice s L B,.bool Q,.slice t M C,.bool R,.slice u N E,.bool S,.slice v O F]]))(j:Keep W d)(f:W.grownBy d vr.ownBlock)(ho:b.ownBlock=vr.ownBlock∨b.ownBlock=some W.1.size):
  Bx (d.setCell ⟨a,1,none⟩ b) a [vc,b] 132∧RowSp (d.setCell ⟨a,1,none⟩ b) (a+1) b (q++[(x,y)])∧Fr a vr w (d.setCell ⟨a,1,none⟩ b)∧OwnTo w vr b:=by
 have af:vr.ownBlock≠some a:=fun e=>by have:=(hG.lt a e).1;omega
 have z:=P.grown f af;obtain⟨A,k,c,rfl⟩:=ah;have o:Keep d (d.setCell ⟨a,1,none⟩ b):=Keep.put (z.cell 1 rfl) (NoInt.slice _ _ _) b;have J:∀k,k≠a->(d.setCell ⟨a,1,none⟩ b).heap[k]? =d.heap[k]? :=fun k j=>Below.heap_setCell d ⟨a,1,none⟩ b k j;have aj:(d.setCell ⟨a,1,none⟩ b).1.size=d.1.size:=by simp[World.setCell]
 refine⟨z.set 1 b,⟨_,H.kept (fun g e=>J g (by have:=(H.lt g e).1;omega)),?_⟩,⟨?_,((Keep.be l).trans j).trans o,fun k G r h3=> ?_⟩,fun g e=> ?_⟩
 ·have m:=hS.ke (j.trans o);refine⟨by rw[dA,dA,m.1];rfl,fun i p n=> ?_⟩;rcases dE i q.length with I|I
  ·rw[gA I] at n;obtain⟨t1,T,l1,Z,t2,U,l2,d2,t3,X,l3,d3,t4,Y,l4,d4,e,G,r⟩:=m.2 i p n;exact⟨t1,T,l1,Z,t2,U,l2,d2,t3,X,l3,d3,t4,Y,l4,d4,by rw[gA (by have:=m.1;omega)];exact e,G,r⟩
  ·have ae:=(List.getElem?_eq_some_iff.1 n).1;rw[dA,iJ] at ae;obtain rfl:i=q.length:=by omega
   rw[fK aE,azV] at n;have ag:(x,y)=p:=by simpa using n
   subst ag;exact⟨_,_,_,_,_,_,_,_,_,_,_,_,_,_,_,_,by rw[fK (by have:=m.1;omega),m.1,azV];rfl,hx.ke (j.trans o),hy.ke (j.trans o)⟩
 ·have ac:Below a w W:=l.mono (by omega);have ad:Below a W d:=⟨f.os,f.tape,f.output,f.size,fun k j=>f.block k (by have:=l.size;omega) (fun e=>by have:=(hG.lt k e.symm).1;omega)⟩;exact(ac.trans ad).setCell (p:=⟨a,1,none⟩) aE b
 ·rw[J k (by omega),f.block k (by have:=l.size;omega) (fun e=>h3 e.symm)];exact l.block k r
 ·rcases ho with h|h
  ·exact .inl (by rw[<-h];exact e)
  ·rw[h] at e;injection e with e;exact .inr (by have:=l.size;omega)
def yC(wb w:World)(vc vr:Value)(a:List (Rat×Rat))(e:Ending)(w':World):Prop:=∃v',e= .returned (.tuple #[])∧Bx w' wb.1.size [vc,v'] 132∧RowSp w' (wb.1.size+1) v' a∧Fr wb.1.size vr w w'∧OwnTo w vr v'
def PoAt.of{i:Bool}{a b:Option Addr}{f c d:Nat}(h:RatAt w (.agg #[.bool s1,.slice a f c,.bool i,.slice b g d]) x):PoAt w (.agg #[.bool s1,.slice a f c,.bool i,.slice b g d,.int .i64 n,.bool z]) x n z:=⟨_,_,_,_,_,_,_,_,rfl,h⟩
def SpanAt.of{o p q:Bool}{a b c d:Option Addr}{f l m i n j:Nat}(h:RatAt w (.agg #[.bool s1,.slice a k f,.bool o,.slice b l g]) x)(r:RatAt w (.agg #[.bool p,.slice c m i,.bool q,.slice d n j]) y):SpanAt w (.agg #[.bool s1,.slice a k f,.bool o,.slice b l g,.bool p,.slice c m i,.bool q,.slice d n j]) x y:=⟨_,_,_,_,_,_,_,_,_,_,_,_,_,_,_,_,rfl,h,r⟩
def PoAt.ke(h:PoAt w v x n z)(a:Keep w w'):PoAt w' v x n z:=by
 obtain⟨j,b,g,d,k,c,i,f,rfl,h⟩:=h;exact⟨_,_,_,_,_,_,_,_,rfl,h.ke a⟩
def GrowD.form3{e:TypeId}{rows:List (List Value)}(h:GrowD w a e k v rows):∃A n c,v= .slice A n c:=by
 obtain⟨A,c,e, -⟩:=h.form;exact⟨A,_,c,e⟩
def yD(s1 o p q:Bool)(b c d f:Option Addr)(k g l h m i n j:Nat):∀u∈[Value.bool s1,.slice b k g,.bool o,.slice c l h,.bool p,.slice d m i,.bool q,.slice f n j],NoInt u∧u.oneCell'=true:=fun u a=>by
 simp at a;rcases a with rfl|rfl|rfl|rfl|rfl|rfl|rfl|rfl
 ·exact⟨NoInt.bool _,rfl⟩
 ·exact⟨NoInt.slice _ _ _,rfl⟩
 ·exact⟨NoInt.bool _,rfl⟩
 ·exact⟨NoInt.slice _ _ _,rfl⟩
 ·exact⟨NoInt.bool _,rfl⟩
 ·exact⟨NoInt.slice _ _ _,rfl⟩
 ·exact⟨NoInt.bool _,rfl⟩
 ·exact⟨NoInt.slice _ _ _,rfl⟩
section
variable {V:Rat->Nat}{sg:Rat->Int}{K:Nat}{D:Rat->Rat->Prop}{wb:World}{vc:Value}(hG:Glob wb)(hA:uN K D)(hV:∀x,V x<=1024)(hK1:1<=K)(hK2:K<=1073741824)
 (hat:∀(x:Rat) (W:World) (vr vx:Value),Bx W wb.1.size [vc,vr] 132->Below wb.1.size wb W->RatAt W vx x->RL K x->Calls prog 95 #[.pointer (some ⟨wb.1.size,0,none⟩),vx] W fun e w'=>∃v',e= .returned v'∧PoAt w' v' x (V x) (decide (sg x=0))∧Below W.1.size W w')
include hG hA hV hK1 hK2 hat
def ZR{a b:Rat}(h:ExK K D V sg a b l):RL K a->RL K b->∀(T:List (Rat×Rat)) (vr va vb:Value) (w:World),Bx w wb.1.size [vc,vr] 132->Below wb.1.size wb w->RowSp w (wb.1.size+1) vr T->PoAt w va a (V a) (decide (sg a=0))->PoAt w vb b (V b) (decide (sg b=0))->T.length+l.length<=1048576->
  Calls prog 94 #[.pointer (some ⟨wb.1.size,0,none⟩),va,vb] w (yC wb w vc vr (T++l)):=by
 induction h with
 | @none a b h=>
  intro ka kb T vr va vb w P al k i f hl;obtain⟨I,r,E,z,J,s,F,A,rfl,i⟩:=i;obtain⟨L,t,G,B,M,y,H,C,rfl,f⟩:=f;have bi:=hV a;have ap:=hV b;have Q:=P.lt;rw[fH];have hn:((V a:Nat):Int)-((V b:Nat):Int)<=0:=by omega
  generalize decide (sg a=0)=za at *;generalize decide (sg b=0)=zb at *;generalize V a=R at *;generalize V b=S at *;clear hat;obtain⟨W,n,c,X,Y⟩:=eL w [.bool I,.slice r E z,.bool J,.slice s F A,.int .i64 (R:Int),.bool za] 135 [.bool L,.slice t G B,.bool M,.slice y H C,.int .i64 (S:Int),.bool zb] 135;have cM:=aa X.g6 Y.g6;go_enter func94,ntmps94;go_wp2_with fail;(try rw[n]);clear n;exact aM (v:= .tuple #[]) (by simp[results,results94,go_sem]) rfl ⟨vr,rfl,P.be c,k.be c,Fr.of c (iE Q),fun g e=> .inl e⟩
 | @hit a b h ai=>
  intro ka kb T vr va vb w P al k i f hl;obtain⟨I,r,E,z,J,s,F,A,rfl,i⟩:=i;obtain⟨L,t,G,B,M,y,H,C,rfl,f⟩:=f;have ap:=hV b;have Q:=P.lt;have p:=k.lt;obtain⟨U,ac,ah⟩:=k;obtain⟨Ar,cr,rfl,bk⟩:=ac.form;have hN:((V a:Nat):Int)-((V b:Nat):Int)=1:=by omega
  clear h;have a0:=ah.1;have a1:U.length<=1073741824:=by omega
  clear a0;have am:decide (sg b=0)=true:=decide_eq_true ai;rw[am];clear am ai;generalize decide (sg a=0)=za at *;generalize V a=R at *;generalize V b=S at *;clear hat;obtain⟨W,n,c,X,Y⟩:=eL w [.bool I,.slice r E z,.bool J,.slice s F A,.int .i64 (R:Int),.bool za] 135 [.bool L,.slice t G B,.bool M,.slice y H C,.int .i64 (S:Int),.bool true] 135;have cM:=aa X.g6 Y.g6;go_enter func94,ntmps94;go_wp2_with fail;(try rw[n]);clear n;have:=St.mk c;have aq:(Value.slice Ar U.length cr).ownBlock≠some w.1.size:=fun e=>by have:=(p _ e).2;omega
  have ad:(Value.slice Ar U.length cr).ownBlock≠some (w.1.size+1):=fun e=>by have:=(p _ e).2;omega
  have ao:(Value.slice Ar U.length cr).ownBlock≠some wb.1.size:=fun e=>by have:=(p _ e).1;omega
  have n1:wb.1.size≠w.1.size:=by omega
  have n2:wb.1.size≠w.1.size+1:=by omega
  have cP:=(P.up (b:=W.drew)).k2;have a9:=(P.up (b:=W)).cell 1 rfl;have dP:=fun o:Obj=>((P.up (b:=W.drew)).alloc o).cell 1 rfl;have l1:wb.1.size<W.1.size:=(P.up (b:=W)).lt;have l2:wb.1.size≠W.1.size:=bxQ l1;have l3:W.1.size≠wb.1.size:=Nat.ne_of_gt l1;have cX:=X.k6;have cY:=Y.k6;have aw:=X.lt;have ax:=Y.lt;have bn:=bxQ aw;have bo:=bxQ ax
  go_region_law (first
    |(refine LB (by rfl) (by rfl) 85 8 128 _ underlying81 L6 rfl yB (by decide) (by decide) (by rfl) ac.up (by rfl) (Bx.new _ _ _) rfl (yD _ _ _ _ _ _ _ _ _ _ _ _ _ _ _ _) a1 (by have:=c.size;simp;omega) ?_;intro v9 w9 ag av O az;obtain⟨A9,L9,m9,rfl⟩:=ag.form3;have X9:=Bx.grown X.up O aq;have Y9:=Bx.grown Y.up O ad;have P9:=Bx.grown P.up O ao;have c9:=P9.g2;have bf:=X9.k6;have bg:=Y9.k6;have SP:=L7 (Up.out (a:=w)) Q P.up ⟨_,_,_,rfl⟩ ac.up (ah.ke (Keep.be (Up.out (a:=w)))) f.up f.up ag av O az))
  all_goals (
   go_wp2_with fail;obtain⟨z1,z2,z3,z4⟩:=SP;exact aM (v:= .tuple #[]) (by simp[results,results94,go_sem]) rfl ⟨_,rfl,z1,z2,z3,z4⟩)
 | @one a b h ai a2=>
  intro ka kb T vr va vb w P al k i f hl;obtain⟨I,r,E,z,J,s,F,A,rfl,i⟩:=i;obtain⟨L,t,G,B,M,y,H,C,rfl,f⟩:=f;have ap:=hV b;have Q:=P.lt;have p:=k.lt;obtain⟨U,ac,ah⟩:=k;obtain⟨Ar,cr,rfl,bk⟩:=ac.form;have hN:((V a:Nat):Int)-((V b:Nat):Int)=1:=by omega
  clear h;have a0:=ah.1;have a1:U.length<=1073741824:=by omega
  clear a0;have am:decide (sg b=0)=false:=decide_eq_false ai;have a5:decide (sg a=0)=false:=decide_eq_false a2;rw[am,a5];clear am ai a5 a2;generalize V a=R at *;generalize V b=S at *;clear hat;obtain⟨W,n,c,X,Y⟩:=eL w [.bool I,.slice r E z,.bool J,.slice s F A,.int .i64 (R:Int),.bool false] 135 [.bool L,.slice t G B,.bool M,.slice y H C,.int .i64 (S:Int),.bool false] 135;have cM:=aa X.g6 Y.g6;go_enter func94,ntmps94;go_wp2_with fail;(try rw[n]);clear n;have:=St.mk c;have aq:(Value.slice Ar U.length cr).ownBlock≠some w.1.size:=fun e=>by have:=(p _ e).2;omega
  have ad:(Value.slice Ar U.length cr).ownBlock≠some (w.1.size+1):=fun e=>by have:=(p _ e).2;omega
  have ao:(Value.slice Ar U.length cr).ownBlock≠some wb.1.size:=fun e=>by have:=(p _ e).1;omega
  have n1:wb.1.size≠w.1.size:=by omega
  have n2:wb.1.size≠w.1.size+1:=by omega
  have cP:=(P.up (b:=W.drew)).k2;have a9:=(P.up (b:=W)).cell 1 rfl;have dP:=fun o:Obj=>((P.up (b:=W.drew)).alloc o).cell 1 rfl;have l1:wb.1.size<W.1.size:=(P.up (b:=W)).lt;have l2:wb.1.size≠W.1.size:=bxQ l1;have l3:W.1.size≠wb.1.size:=Nat.ne_of_gt l1;have cX:=X.k6;have cY:=Y.k6;have aw:=X.lt;have ax:=Y.lt;have bn:=bxQ aw;have bo:=bxQ ax
  go_region_law (first
    |(refine LB (by rfl) (by rfl) 85 8 128 _ underlying81 L6 rfl yB (by decide) (by decide) (by rfl) ac.up (by rfl) (Bx.new _ _ _) rfl (yD _ _ _ _ _ _ _ _ _ _ _ _ _ _ _ _) a1 (by have:=c.size;simp;omega) ?_;intro v9 w9 ag av O az;obtain⟨A9,L9,m9,rfl⟩:=ag.form3;have X9:=Bx.grown X.up O aq;have Y9:=Bx.grown Y.up O ad;have P9:=Bx.grown P.up O ao;have c9:=P9.g2;have bf:=X9.k6;have bg:=Y9.k6;have SP:=L7 (Up.out (a:=w)) Q P.up ⟨_,_,_,rfl⟩ ac.up (ah.ke (Keep.be (Up.out (a:=w)))) i.up f.up ag av O az))
  all_goals (
   go_wp2_with fail;obtain⟨z1,z2,z3,z4⟩:=SP;exact aM (v:= .tuple #[]) (by simp[results,results94,go_sem]) rfl ⟨_,rfl,z1,z2,z3,z4⟩)
 | @split a b l m h h' hd hk bm hm a6 a7=>
  intro ka kb T vr va vb w P al k i f hl;obtain⟨I,r,E,z,J,s,F,A,rfl,i⟩:=i;obtain⟨L,t,G,B,M,y,H,C,rfl,f⟩:=f;have bi:=hV a;have ap:=hV b;have Q:=P.lt;have p:=k.lt;have ay:=fun W hG h=>ZW D a b (.agg #[.bool I,.slice r E z,.bool J,.slice s F A,.bool L,.slice t G B,.bool M,.slice y H C]) W hG h K ka kb hK1 hK2 hA hd;have a3:=fun W vx P c h=>hat ((a+b)/2) W vr vx P c h hk;have i1:=fun vm W P c k h1 h2=>a6 ka hk T vr (.agg #[.bool I,.slice r E z,.bool J,.slice s F A,.int .i64 (V a:Int),.bool (decide (sg a=0))]) vm W P c k h1 h2 (by rw[dA] at hl;omega);have i2:=fun v1 vm W P c k h1 h2=>a7 hk kb (T++l) v1 vm (.agg #[.bool L,.slice t G B,.bool M,.slice y H C,.int .i64 (V b:Int),.bool (decide (sg b=0))]) W P c k h1 h2 (by rw[dA] at hl⊢;omega);have bh:¬((V a:Nat):Int)-((V b:Nat):Int)<=0:=by omega
  have hZ:((V a:Nat):Int)-((V b:Nat):Int)=1->decide (sg a=0)=true∧decide (sg b=0)=false:=fun e=>⟨decide_eq_true (h' (by omega)).2,decide_eq_false (h' (by omega)).1⟩;have a4:Glob w:=hG.be al;have ae:=fun (W':World) (u:Below w.1.size w W')=>al.trans (u.mono (iE Q));rw[<-eK];unfold iF at ay;unfold yC at i1 i2;unfold yC;clear a6 a7 hat hV h h' hl hk bm hm ka kb hG hA hd;generalize (a+b)/2=a8 at *;generalize decide (sg a=0)=za at *;generalize decide (sg b=0)=zb at *;generalize decide (sg a8=0)=zm at *;generalize V a=R at *;generalize V b=S at *;generalize V a8=nm at *;obtain⟨N,hN⟩:∃N:Int,(R:Int)-(S:Int)=N:=⟨_,rfl⟩;rw[hN] at hZ bh;have bq:IntKind.i64.wrap N=N:=IntWalk.i64_in _ ⟨by omega,by omega⟩;have bp: -1024<=N∧N<=1024:=by omega
  have ad:vr.ownBlock≠some (w.1.size+1):=fun e=>by have:=(p _ e).2;omega
  by_cases an:N=1
  ·obtain⟨rfl,rfl⟩:=hZ an;subst an;clear hZ;obtain⟨W,n,c,X,Y⟩:=eL w [.bool I,.slice r E z,.bool J,.slice s F A,.int .i64 (R:Int),.bool true] 135 [.bool L,.slice t G B,.bool M,.slice y H C,.int .i64 (S:Int),.bool false] 135;have cM:=aa X.g6 Y.g6;go_enter func94,ntmps94;go_wp2_with fail;(try rw[n]);clear n;have bj:=c.size;have:=St.mk c;refine(ay _ (a4.be c) (SpanAt.of i.up f.up)).mono ?_;rintro e5 w5 ⟨v5,rfl,h5,aj⟩;have:=St.mk aj;obtain⟨s5,A5,k5,c5,s6,A6,k6,c6,rfl⟩:=h5.form;have ba:=aa (X.up (b:=w5)).k6 (Y.up (b:=w5)).k6;go_wp2_with fail;refine(a3 _ _ P.up (ae _ (Up.out (a:=w))) h5).mono ?_;rintro e6 w6 ⟨v6,rfl,h6,ak⟩;have:=St.mk ak;obtain⟨s7,A7,k7,c7,s8,A8,k8,c8,rfl,h7⟩:=h6;obtain⟨q,e7,au,Z⟩:=bI w6 [.bool s7,.slice A7 k7 c7,.bool s8,.slice A8 k8 c8,.int .i64 (nm:Int),.bool zm] 135;have:=St.mk au;have d:=Up.out (a:=w) (b:=q);have X7:=X.up (b:=q);have Y7:=Y.up (b:=q);have bb:=aa X7.k6 (aa Y7.k6 Z.k6);have s6:=ak.size;have s5:=aj.size;go_wp2_with fail;(try rw[e7]);(try clear e7);refine(i1 _ q (P.be d) (ae _ d) (k.be d) (PoAt.of (i.be d)) (PoAt.of h7.up)).mono ?_;rintro e8 w8 ⟨v8,rfl,P8,R8,j,O8⟩;have ar:vr.ownBlock≠some w6.1.size:=fun e=>by have:=(p _ e).2;omega
   have Y8:=Y7.fr j (by omega) ad;have Z8:=Z.fr j (by omega) ar;have bc:=aa Y8.k6 Z8.k6;go_wp2_with fail;refine(i2 v8 _ w8 P8 ((ae _ d).trans j.be) R8 (PoAt.of ((h7.up (b:=q)).ke j.ke)) (PoAt.of ((f.be d).ke j.ke))).mono ?_;rintro e9 w9 ⟨v9,rfl,P9,R9,F9,O9⟩;have af:OwnTo w vr v8:=fun g e=>(O8 g e).imp id (fun h=>aH d.size h);go_wp2_with fail;exact bodyPost_end (v:= .tuple #[]) (by simp[results,results94,go_sem]) rfl ⟨v9,rfl,P9,R9,((Fr.of d (iE Q)).trans j (fun g e=> .inl e)).trans F9 af,af.trans O9 (aH d.size j.be.size)⟩
  ·have q1:(N==1)=false:=by simpa using an
   clear hZ an;obtain⟨W,n,c,X,Y⟩:=eL w [.bool I,.slice r E z,.bool J,.slice s F A,.int .i64 (R:Int),.bool za] 135 [.bool L,.slice t G B,.bool M,.slice y H C,.int .i64 (S:Int),.bool zb] 135;have cM:=aa X.g6 Y.g6;go_enter func94,ntmps94;go_wp2_with fail;(try rw[n]);clear n;have bj:=c.size;have:=St.mk c;refine(ay _ (a4.be c) (SpanAt.of i.up f.up)).mono ?_;rintro e5 w5 ⟨v5,rfl,h5,aj⟩;have:=St.mk aj;obtain⟨s5,A5,k5,c5,s6,A6,k6,c6,rfl⟩:=h5.form;have ba:=aa (X.up (b:=w5)).k6 (Y.up (b:=w5)).k6;go_wp2_with fail;refine(a3 _ _ P.up (ae _ (Up.out (a:=w))) h5).mono ?_;rintro e6 w6 ⟨v6,rfl,h6,ak⟩;have:=St.mk ak;obtain⟨s7,A7,k7,c7,s8,A8,k8,c8,rfl,h7⟩:=h6;obtain⟨q,e7,au,Z⟩:=bI w6 [.bool s7,.slice A7 k7 c7,.bool s8,.slice A8 k8 c8,.int .i64 (nm:Int),.bool zm] 135;have:=St.mk au;have d:=Up.out (a:=w) (b:=q);have X7:=X.up (b:=q);have Y7:=Y.up (b:=q);have bb:=aa X7.k6 (aa Y7.k6 Z.k6);have s6:=ak.size;have s5:=aj.size;go_wp2_with fail;(try rw[e7]);(try clear e7);refine(i1 _ q (P.be d) (ae _ d) (k.be d) (PoAt.of (i.be d)) (PoAt.of h7.up)).mono ?_;rintro e8 w8 ⟨v8,rfl,P8,R8,j,O8⟩;have ar:vr.ownBlock≠some w6.1.size:=fun e=>by have:=(p _ e).2;omega
   have Y8:=Y7.fr j (by omega) ad;have Z8:=Z.fr j (by omega) ar;have bc:=aa Y8.k6 Z8.k6;go_wp2_with fail;refine(i2 v8 _ w8 P8 ((ae _ d).trans j.be) R8 (PoAt.of ((h7.up (b:=q)).ke j.ke)) (PoAt.of ((f.be d).ke j.ke))).mono ?_;rintro e9 w9 ⟨v9,rfl,P9,R9,F9,O9⟩;have af:OwnTo w vr v8:=fun g e=>(O8 g e).imp id (fun h=>aH d.size h);go_wp2_with fail;exact bodyPost_end (v:= .tuple #[]) (by simp[results,results94,go_sem]) rfl ⟨v9,rfl,P9,R9,((Fr.of d (iE Q)).trans j (fun g e=> .inl e)).trans F9 af,af.trans O9 (aH d.size j.be.size)⟩
end
def ay7(j:Nat):nl ((2:Int)^j).natAbs<=j/64+1:=by
 rw[Int.natAbs_pow]
 exact cJ (by
  have e:BN^(j/64+1)=2^(64*(j/64+1)):=by rw[azL];rfl
  rw[e];exact by9 (by decide) (by omega))
def uW(h:nl n.natAbs<=K)(a:1<=K):RL K (n:Rat):=⟨by rw[Rat.num_intCast];exact h,by rw[Rat.den_intCast];exact aH (cJ (m:=1) (by unfold BN;decide)) a⟩
def LU(x y:Rat):(x-y).num.sign<0↔x<y:=by
 rcases iY (x-y) with h|h|h
 ·rw[(fS _).2 h];exact⟨fun _=>by grind,fun _=>by decide⟩
 ·rw[h];exact⟨fun k=>absurd k (by decide),fun k=>by grind⟩
 ·rw[(fS _).1 h];exact⟨fun k=>absurd k (by decide),fun k=>by grind⟩
def Bx.old(h:Bx w g cs t)(a:Below B w w')(b:g<B):Bx w' g cs t:=(a.block g b).trans h
def PoAt.upp{a b:World}[u:Up a b](h:PoAt a v x n z):PoAt b v x n z:=h.ke (Keep.be u.out)
def DT(w:World)(P:List (Rat×Rat)->Prop)(e:Ending)(w':World):Prop:=∃a b l,e= .returned a∧P l∧RowSp w' b a l∧Below w.1.size w w'
def ay8(s:List Int)(b:Rat)(n K:Nat)(P:List (Rat×Rat)->Prop)(v u:Value)(w:World)(Q:Glob w)(hv:WholeAt w v s)(hu:RatAt w u b)(ts:aN s)(h0:s≠[])(Y:Sz s)(am:Pw b n)(hn:n<=40000)(kb:RL 110079 b)(av:110079<=K)(aw:K<=1073741824)(D:Rat->Rat->Prop)(hA:uN K D)
  (al:∀c,StT 110079 s (aS (bB s)) c->∃l,ExK K D (fun x=>aY 0 ((s :: c).map (fun a=>aP a 0 x))) (fun x=>aP s 0 x) (((-((2:Int)^n):Int)):Rat) ((((2:Int)^n:Int)):Rat) l∧l.length<=1048576∧P l):
  Calls prog 42 #[v,u] w (DT w P):=by
 obtain⟨A,c,rfl,hc⟩:=hv.form;obtain⟨s1,H,Z,J,s2,I,k2,L,rfl⟩:=hu.form;have ad:=fun W Q h=>KE s (.slice A s.length c) W Q h ts h0 Y;have td:=Q5 (lE ts);have kd:∀n∈aS (bB s),nl n.natAbs<=110079:=fun n hn=>by
  obtain⟨K,hK,av,aw, -⟩:=Y.ex;exact aH (gU (pL hK (by have:=Y.1;omega)) n hn) (by omega)
 have ld:(aS (bB s)).length=s.length-1:=by rw[dF,lZ]
 have ak:∀c,StT 110079 s (aS (bB s)) c->(s :: c).length<=8∧∀a∈s :: c,a≠[]∧a.length<=65∧∀n∈a,nl n.natAbs<=110079:=fun c h=>by
  have B:=h.len;have h7:=Y.1;refine⟨by rw[eG];omega,fun a ha=> ?_⟩;rcases List.mem_cons.1 ha with rfl|ha
  ·exact⟨h0,by omega,fun n hn=>aH (Y.nums n hn) (by omega)⟩
  ·obtain⟨e1,M,e3,e4⟩:=h.mem td kd a ha;exact⟨e1,by omega,e4⟩
 unfold y6 at ad;unfold DT;clear td kd ld;obtain⟨W,eW,d,X⟩:=bI w [.bool s1,.slice H Z J,.bool s2,.slice I k2 L] 76;have cM:=X.g4;go_enter func42,ntmps42;go_wp2_with fail;(try rw[eW]);clear eW;refine(lL 1 _ (by decide) (by decide)).mono ?_;rintro e1 w1 ⟨v1,rfl,B,af⟩;obtain⟨m,f,i,g,rfl⟩:=B.form;obtain⟨w2,M,ax,G⟩:=bI w1 [.bool m,.slice f i g] 60;have p:=aC af ax;have bv:=X.lt;have bw:=af.size;have bx:w.1.size<w1.1.size:=by omega
 replace X:=X.be p;replace d:=aC d p;have au:IntBx w2 w1.1.size ((2:Int)^0):=⟨_,_,_,_,G,B.be ax⟩;clear G B;go_wp2_with fail;(try rw[M]);(try clear M);generalize w1.1.size=O at *;go_loopg [] n (fun k wr=>∃j,Hid (j+k=n)∧IntBx wr O ((2:Int)^j)∧Bx wr w.1.size [.bool s1,.slice H Z J,.bool s2,.slice I k2 L] 76∧Below w.1.size w wr)
 case atStart=>exact⟨0,by unfold Hid;omega,au,X,d⟩
 case round=>
  clear au X d;obtain⟨j,HJ,⟨m,f,i,g,G,V⟩,X,d⟩:=hrel;generalize wr=wy at *;have bz:j<=n:=by have:=HJ.out;omega
  have kp:nl ((2:Int)^j).natAbs<=700:=aH (ay7 j) (by omega);have U:=fun W v h h'=>BY (((2:Int)^j:Int):Rat) b v (.agg #[.bool s1,.slice H Z J,.bool s2,.slice I k2 L]) W h h' 110079 (uW (aH kp (by decide)) (by decide)) kb (by decide);have ae:=fun W h=>BZ ((2:Int)^j) (.agg #[.bool m,.slice f i g]) W h;obtain⟨S,hS⟩:∃S,((((2:Int)^j:Int):Rat)-b).num.sign=S:=⟨_,rfl⟩;have R:=LU (((2:Int)^j:Int):Rat) b;rw[hS] at R U;unfold eO at U;unfold iF at ae;have aj:=hu.be d;have bu:=Q.be d;have b3:=hv.be d;have:=d;cases gk with
  |succ k=>
   have b1:S<0:=R.2 (am.2 j (by have:=HJ.out;omega));clear R hS ad al ak;have an:∀W,IntAt W (.agg #[.bool m,.slice f i g]) ((2:Int)^j)->Calls prog 41 #[.agg #[.bool m,.slice f i g],.int .u64 1] W (dW W ((2:Int)^j*2^1)):=fun W h=>YZ ((2:Int)^j) 1 (.agg #[.bool m,.slice f i g]) W h (by decide) (by omega);have M:(2:Int)^j*2^1=2^(j+1):=by rw[gR];rfl
   rw[M] at an;unfold dW at an;go_wp2_with fail
   go_region_held3 (fun t=>C2 t O (.bool m) (.slice f i g)∧C4 t w.1.size (.bool s1) (.slice H Z J) (.bool s2) (.slice I k2 L)) (with_reducible exact⟨G.up.k2,X.up.k4⟩)
    (first
     |(go_at_call 46;refine(ae _ V.up).mono ?_;rintro e4 w4 ⟨v4,rfl,h4,ag⟩;have:=St.mk ag)
     |(go_at_call 48;refine(U _ _ h4.up aj.up).mono ?_;rintro e5 o ⟨rfl,ah⟩;have:=St.mk ah))
   all_goals (
    have y:=G.up (b:=o);have X5:=X.up (b:=o);have a6:=aa y.g2 X5.k4;have q:=bJ (b:=o) d;go_wp2_with fail;refine(an _ (V.up (b:=o))).mono ?_;rintro e6 e ⟨v6,rfl,C,r⟩;obtain⟨s6,A6,k6,c6,rfl⟩:=C.form;have z:=y.be r;have X6:=X5.be r;have bp:=aa z.g2 X6.k4;have T:=aC q r;go_wp2_with fail;obtain⟨W7,N,G7,ai,hk,ff⟩:=z.put2 T (by omega) (.bool s6) (.slice A6 k6 c6) rfl rfl;rw[N];clear N;go_roundg k
    case rel=>exact⟨j+1,by have:=HJ.out;unfold Hid;omega,⟨_,_,_,_,G7,C.ke hk⟩,ff X6 (by omega),ai⟩
    case measure=>omega)
  |zero=>
   obtain rfl:j=n:=HJ.out;have b2:¬S<0:=fun h=>by have:=R.1 h;have:=am.1;grind
   clear R hS;go_wp2_with fail
   go_region_held3 (fun t=>C2 t O (.bool m) (.slice f i g)∧C4 t w.1.size (.bool s1) (.slice H Z J) (.bool s2) (.slice I k2 L)) (with_reducible exact⟨G.up.k2,X.up.k4⟩)
    (first
     |(go_at_call 46;refine(ae _ V.up).mono ?_;rintro e4 w4 ⟨v4,rfl,h4,ag⟩;have:=St.mk ag)
     |(go_at_call 48;refine(U _ _ h4.up aj.up).mono ?_;rintro e5 o ⟨rfl,ah⟩;have:=St.mk ah))
   all_goals (
    have y:=G.up (b:=o);have q:=bJ (b:=o) d;have a6:=y.k2;have ay:=V.up (b:=o);clear ae U G X V aj;go_wp2_with fail;refine(ad _ (Q.be q) (hv.be q)).mono ?_;rintro e6 e ⟨v6,c,rfl,C,hT,r⟩;have z:=y.be r;have az:=ay.be r;have T:=aC q r;obtain⟨b0,E⟩:=ak c hT;obtain⟨l,a3,hl,hP⟩:=al c hT;have aq:=aB a3;have HP:=aB hP;replace E:=fun a h=>(⟨(E a h).1,(E a h).2.1,fun n hn=>aH ((E a h).2.2 n hn) av⟩:a≠[]∧a.length<=65∧∀n∈a,nl n.natAbs<=K);clear a3 hP;obtain⟨Ac,cc,rfl, -⟩:=C.form;clear ad al ak hT;have bj:O<e.1.size:=z.lt;have a0:=fun W h=>sQ ((2:Int)^j) (.agg #[.bool m,.slice f i g]) W h (aH kp (by decide));have a1:=fun W v h=>BZ (-((2:Int)^j)) v W h;have a2:=fun W h=>BZ ((2:Int)^j) (.agg #[.bool m,.slice f i g]) W h;have kn:RL K ((-((2:Int)^j):Int):Rat):=uW (by rw[azJ];exact aH kp (by omega)) (by omega);have kq:RL K (((2:Int)^j:Int):Rat):=uW (aH kp (by omega)) (by omega);have ac:=fun (x:Rat) (W:World) (vr F:Value) (P:Bx W e.1.size [.slice Ac (s :: c).length cc,vr] 132) (d:Below e.1.size e W) (h:RatAt W F x) (hk:RL K x)=>ax1 s c o.1.size e.1.size x (.slice Ac (s :: c).length cc) vr F W P (C.be d) h (by omega) K E hk (by omega);have hV:∀x:Rat,aY 0 ((s :: c).map (fun a=>aP a 0 x))<=1024:=fun x=>by have:=qR ((s :: c).map (fun a=>aP a 0 x)) 0;rw[cH] at this;omega
    have ao:=fun va vb W P p hR B h2=>ZR (wb:=e) (vc:= .slice Ac (s :: c).length cc) (Q.be T) hA hV (by omega) aw ac aq.out kn kq [] (.slice none 0 0) va vb W P p hR B h2 (by rw[azS];omega);have ba:=fun W F P p h=>ac ((-((2:Int)^j):Int):Rat) W (.slice none 0 0) F P p h kn;have bb:=fun W F P p h=>ac (((2:Int)^j:Int):Rat) W (.slice none 0 0) F P p h kq;rw[iM] at ao;unfold yC at ao;unfold dW at a0;unfold iF at a1 a2;clear ac aq hV E kb am kn kq C y ay;generalize (s :: c).length=nc at *;generalize aY 0 ((s :: c).map (fun a=>aP a 0 ((-((2:Int)^j):Int):Rat)))=Vn at *;generalize aY 0 ((s :: c).map (fun a=>aP a 0 (((2:Int)^j:Int):Rat)))=Vp at *;generalize decide (aP s 0 ((-((2:Int)^j):Int):Rat)=0)=Zn at *;generalize decide (aP s 0 (((2:Int)^j:Int):Rat)=0)=Zp at *;generalize ((-((2:Int)^j):Int):Rat)=xn at *;generalize (((2:Int)^j:Int):Rat)=xp at *;generalize (-((2:Int)^j))=pn at *;go_wp2_with fail;obtain⟨w7,N,ai,P⟩:=bI e [.slice Ac nc cc,.slice none 0 0] 132;rw[N];clear N;have:=St.mk ai;have cP:=P.g2
    go_region_held3 (fun t=>C2 t O (.bool m) (.slice f i g)) (first|(with_reducible exact z.up.k2)|(with_reducible exact G9.k2))
     (first
      |(go_at_call 88;refine(a0 _ az.up).mono ?_;rintro e8 w8 ⟨v8,rfl,h8,bh⟩;have:=St.mk bh)
      |(go_at_call 46;first|(with_reducible refine(a2 _ az.up).mono ?_;rintro e9 w9 ⟨v9,rfl,h9,bi⟩;have:=St.mk bi)|(with_reducible refine(a1 _ _ h8.up).mono ?_;rintro bq b8 ⟨b4,rfl,a7,bc⟩;have:=St.mk bc))
      |(go_at_call 95;first|(with_reducible refine(bb _ _ P.up (Up.out (a:=e)) h9.up).mono ?_;rintro br b9 ⟨b5,rfl,a8,bf⟩;have:=St.mk bf)|(with_reducible refine(ba _ _ P.up (Up.out (a:=e)) a7.up).mono ?_;rintro bs ca ⟨b6,rfl,a9,bg⟩;have:=St.mk bg))
      |(go_at_call 94;refine(ao _ _ _ P.up (Up.out (a:=e)) (RowSp.nil _ _) (a9.upp) (a8.upp)).mono ?_;rintro bt cb ⟨b7,rfl,a5,ar,ap,bm⟩;have G9:=Bx.old z.up ap.be bj;have a4:=(Up.out (a:=e)).trans ap.be;have bn:=a5.k2;obtain⟨bk,bo,rfl, -⟩:=ar.form))
    all_goals (
     go_wp2;go_ret;exact⟨_,_,l,rfl,HP.out,ar,aC T a4⟩))
