/- Laws. -/
import Derived.Test.YtpjpfjephpgcbaaGreatDoorR23
set_option linter.all false
set_option maxHeartbeats 8000000
set_option maxRecDepth 99999
namespace Go.Proofs.YtpjpfjephpgcbaaGreatDoor
open Sos
variable{K i n:Nat}{l:List Int}{L c m:Int}{D d q:Rat}
def jE(l:List Int):Int:=l.foldl (fun g c=>if g<(c.natAbs:Int) then (c.natAbs:Int) else g) 0
def iH(q:Rat):Rat:=if q.num.sign<0 then -q else q
def lF(d:Rat)(l:List Rat):Rat:=l.foldl (fun b q=>if b<iH (q/d) then iH (q/d) else b) 0
def KG{α β:Type}(f:β->α->β)(b:β)(l:List α){a:α}(h:l[i]? =some a):(l.take (i+1)).foldl f b=f ((l.take i).foldl f b) a:=by
 rw[kR,h,aqO,List.foldl_append];rfl
def KH(h:l[i]? =some c):jE (l.take (i+1))=if jE (l.take i)<(c.natAbs:Int) then (c.natAbs:Int) else jE (l.take i):=KG _ _ l h
def KI{l:List Rat}(h:l[i]? =some q):lF d (l.take (i+1))=if lF d (l.take i)<iH (q/d) then iH (q/d) else lF d (l.take i):=KG _ _ l h
def KJ(h:∀n∈l,nl n.natAbs<=K)(i:Nat):nl (jE (l.take i)).natAbs<=K:=by
 induction i with
 |zero=>show nl (0:Int).natAbs<=K;rw[Int.natAbs_zero,dO];omega
 |succ i b=>
  by_cases a:i<l.length
  ·rw[KH (aR a)];split
   ·rw[dD];exact h _ (aq0 a)
   ·exact b
  ·rw[cZ (by omega)];rwa [cZ (by omega)] at b
def KL(h:RL K q):RL K (iH q):=by
 unfold iH;split
 ·exact C7 h
 ·exact h
def KN{l:List Rat}{L:Nat}(h:∀q∈l,RL K q)(c:RL L d)(e:1<=K)(i:Nat):RL (K+L) (lF d (l.take i)):=by
 induction i with
 |zero=>show RL (K+L) 0;exact iG (by omega)
 |succ i b=>
  by_cases a:i<l.length
  ·rw[KI (aR a)];split
   ·exact KL (xS (h _ (aq0 a)) c)
   ·exact b
  ·rw[cZ (by omega)];rwa [cZ (by omega)] at b
def Z1(n:Int):((n.natAbs:Int):Rat)=iH (n:Rat):=by
 unfold iH;rw[xJ];by_cases h:n<0
 ·rw[if_pos (by rw[aqT h];decide),show((n.natAbs:Int))= -n by omega,bx4]
 ·have:¬n.sign<0:=by rcases Int.lt_or_eq_of_le (Int.not_lt.1 h) with h|h
                     ·rw[aqI h];decide
                     ·rw[<-h];decide
  rw[if_neg this,show((n.natAbs:Int))=n by omega]
def KO(q:Rat):iH q=q∧0<=q∨iH q= -q∧q<0:=by
 unfold iH;rcases iY q with h|h|h
 ·rw[if_pos (by rw[(fS q).2 h];decide)];exact .inr ⟨rfl,h⟩
 ·rw[h];exact .inl ⟨by decide,by decide⟩
 ·rw[if_neg (by rw[(fS q).1 h];decide)];exact .inl ⟨rfl,by grind⟩
def KP{c:Rat}(a:0<c)(q:Rat):iH (c*q)=c*iH q:=by
 unfold iH;rw[tU a];split
 ·grind
 ·rfl
def Z2(j:L≠0)(u:D≠0)(l:List Int):lF ((L:Rat)/D) (l.map (fun n:Int=>(n:Rat)/D))=((jE l:Int):Rat)/((L.natAbs:Int):Rat):=by
 have v:=gJ j;have t:0<((L.natAbs:Int):Rat):=by
  have:(0:Int)<(L.natAbs:Int):=by omega
  exact_mod_cast this
 have i:0<((L.natAbs:Int):Rat)⁻¹:=Rat.inv_pos.2 t;have e:∀n:Int,iH ((n:Rat)/D/((L:Rat)/D))=((n.natAbs:Int):Rat)/((L.natAbs:Int):Rat):=fun n=>by
  have d:(n:Rat)/D/((L:Rat)/D)=(n:Rat)/L:=by grind
  rw[d,Z1 n];rcases Int.lt_or_lt_of_ne j with h|h
  ·have a:((L.natAbs:Int):Rat)= -(L:Rat):=by rw[show(L.natAbs:Int)= -L by omega,bx4]
   have f:(n:Rat)/L=(((L.natAbs:Int):Rat)⁻¹)*(-(n:Rat)):=by rw[a];grind
   rw[f,KP i,azE,byD];congr 1;rcases KO (n:Rat) with ⟨m,o⟩|⟨m,o⟩<;>rcases KO (-(n:Rat)) with ⟨p,r⟩|⟨p,r⟩<;>grind
  ·have a:((L.natAbs:Int):Rat)=(L:Rat):=by rw[show(L.natAbs:Int)=L by omega]
   have f:(n:Rat)/L=(((L.natAbs:Int):Rat)⁻¹)*(n:Rat):=by rw[a];grind
   rw[f,KP i,azE,byD]
 unfold lF jE;suffices h:∀(l:List Int) (g:Int),(l.map (fun n:Int=>(n:Rat)/D)).foldl (fun b q=>if b<iH (q/((L:Rat)/D)) then iH (q/((L:Rat)/D)) else b) ((g:Rat)/((L.natAbs:Int):Rat))=((l.foldl (fun g c=>if g<(c.natAbs:Int) then (c.natAbs:Int) else g) g:Int):Rat)/((L.natAbs:Int):Rat) by
  have:=h l 0;have z:((0:Int):Rat)/((L.natAbs:Int):Rat)=0:=by rw[aq4,azE,aqQ]
  rwa [z] at this
 intro l;induction l with
 |nil=>intro g;rfl
 |cons n l k=>
  intro g;rw[fM,List.foldl_cons,List.foldl_cons,e];have d:((g:Rat)/((L.natAbs:Int):Rat)<((n.natAbs:Int):Rat)/((L.natAbs:Int):Rat))↔g<(n.natAbs:Int):=by
   rw[azE,azE];constructor
   ·intro h;have:(g:Rat)<((n.natAbs:Int):Rat):=by
     by_cases a:(g:Rat)<((n.natAbs:Int):Rat)
     ·exact a
     ·have f:((n.natAbs:Int):Rat)*(((L.natAbs:Int):Rat))⁻¹<=(g:Rat)*(((L.natAbs:Int):Rat))⁻¹:=Rat.mul_le_mul_of_nonneg_right (by grind) (az6 i);grind
    exact_mod_cast this
   ·intro h;have a:(g:Rat)<((n.natAbs:Int):Rat):=by exact_mod_cast h
    exact Rat.mul_lt_mul_of_pos_right a i
  by_cases h:g<(n.natAbs:Int)
  ·rw[if_pos (d.2 h),if_pos h];exact k _
  ·rw[if_neg (fun s=>h (d.1 s)),if_neg h];exact k _
def D0{xs ys q r:List Int}(h:YL q ys r xs m 4=true)(g:xs.length<=4∧r.length<=4∧q.length+ys.length<=5)(b:m=1)(d:r.length<ys.length)(e:aN q)(f:aN r)(c:q.length<=xs.length)(k:∀n∈q++r,nl n.natAbs<=1):PQRes xs ys 1 m q r:=by
 subst b;refine⟨fun i=> ?_,by decide,d,e,f,c,⟨0,dC _,by rw[Int.pow_zero]⟩,fun n hn=>k n (bzP _ hn),fun n hn=>k n (bzQ _ hn),cJ (m:=1) (by unfold BN;decide)⟩;by_cases a:i<4
 ·exact of_decide_eq_true ((List.all_eq_true.1 h) i (List.mem_range.2 a))
 ·rw[bV (by omega),bV (l:=r) (by omega),rG (m:=q.length) (n:=ys.length) (fun i a=>bV a) (fun i a=>bV a) (by omega)];rfl
def D4(h:n<4):nl n<=1:=cJ (m:=1) (by unfold BN;omega)
def Z4:Sqp 1 [-2,0,1] [-2,0,1]:=by
 refine⟨⟨[1],?_,by simp,oB rfl,rfl,rfl,fun i=>by rw[CO]⟩,by simp,oB rfl⟩;have e:aS (bB [-2,0,1])=[0,1]:=by decide
 rw[e]
 refine .step (q:=[0,1]) (r:=[-2]) (m:=1) (by decide) (D0 (by decide) (by decide) rfl (by decide) (oB rfl) (oB rfl) (by decide) (fun n hn=>by
  simp at hn;rcases hn with rfl|rfl|rfl<;>exact D4 (by decide))) (.one (by decide))
def KQ:Cn 1 [-2,0,1] [-2,0,1] [[0,1],[1]]:=by
 refine⟨Z4,?_⟩;have e:aS (bB [-2,0,1])=[0,1]:=by decide
 rw[e]
 refine .step (q:=[0,1]) (r:=[-2]) (m:=1) (by decide) (D0 (by decide) (by decide) rfl (by decide) (oB rfl) (oB rfl) (by decide) (fun n hn=>by
  simp at hn;rcases hn with rfl|rfl|rfl<;>exact D4 (by decide))) ?_
 have a:(if (0:Int)<1 then (aS [-2]).map (·*(-1)) else aS [-2])=[1]:=by decide
 rw[a]
 refine .step (q:=[0,1]) (r:=[]) (m:=1) (by decide) (D0 (by decide) (by decide) rfl (by decide) (oB rfl) (fun x c=>by cases c) (by decide) (fun n hn=>by
  simp at hn;rcases hn with rfl|rfl<;>exact D4 (by decide))) ?_
 have b:(if (0:Int)<1 then (aS []).map (·*(-1)) else aS [])=[]:=by decide
 rw[b];exact .done _
def Z5:fF [-2,0,1] [[0,1],[1]] (-1) 0 1 0=2:=by decide
def Z6:aY 0 (([-2,0,1] :: [[0,1],[1]]).map (fun a=>aP a 0 (-4)))=2∧aY 0 (([-2,0,1] :: [[0,1],[1]]).map (fun a=>aP a 0 0))=1∧aY 0 (([-2,0,1] :: [[0,1],[1]]).map (fun a=>aP a 0 4))=0:=by decide
def Z7:aP [-2,0,1] 0 (-4)=1∧aP [-2,0,1] 0 0= -1∧aP [-2,0,1] 0 4=1:=by decide
inductive ExK(K:Nat)(D:Rat->Rat->Prop)(V:Rat->Nat)(s:Rat->Int):Rat->Rat->List (Rat×Rat)->Prop
 |none {a b:Rat} (h:V a<=V b):ExK K D V s a b []
 |hit {a b:Rat} (h:V a=V b+1) (hb:s b=0):ExK K D V s a b [(b,b)]
 |one {a b:Rat} (h:V a=V b+1) (hb:s b≠0) (ha:s a≠0):ExK K D V s a b [(a,b)]
 |split {a b:Rat} {l m:List (Rat×Rat)} (h:V b<V a) (h':V a=V b+1->s b≠0∧s a=0) (hd:D a b) (hk:RL K ((a+b)/2)) (hl:ExK K D V s a ((a+b)/2) l) (hm:ExK K D V s ((a+b)/2) b m):ExK K D V s a b (l++m)
def Pw(b:Rat)(n:Nat):Prop:=b<=(((2:Int)^n:Int):Rat)∧∀m,m<n->(((2:Int)^m:Int):Rat)<b
def ExK.mono{d:Nat}{D:Rat->Rat->Prop}{V:Rat->Nat}{s:Rat->Int}{a b:Rat}{l:List (Rat×Rat)}(h:ExK K D V s a b l)(f:K<=d):ExK d D V s a b l:=by
 induction h with
 |none h=>exact .none h
 |hit h c=>exact .hit h c
 |one h c g=>exact .one h c g
 |split h e i j _ _ k m=>exact .split h e i (bU j f) k m
def y7(x y:Rat):Prop:=x.den=1∧y.den=1
def Z3{V:Rat->Nat}{s:Rat->Int}(h:V (-4)=2∧V 0=1∧V 4=0)(a:s (-4)≠0∧s 0≠0∧s 4≠0):ExK 1 y7 V s (-4) 4 [(-4,0),(0,4)]:=by
 have e:((-4:Rat)+4)/2=0:=by grind
 refine .split (l:=[(-4,0)]) (m:=[(0,4)]) (by omega) (fun b=>by omega) ⟨rfl,rfl⟩ (by rw[e];exact iG (by decide)) ?_ ?_
 ·rw[e];exact .one (by omega) a.2.1 a.1
 ·rw[e];exact .one (by omega) a.2.2 a.2.1
end Go.Proofs.YtpjpfjephpgcbaaGreatDoor
namespace Go.Proofs.YtpjpfjephpgcbaaGreatDoor
open Go.RowKit Sos Tryz
variable{B K a c f g i k o:Nat}{A b d s:Option Addr}{l q:List (Rat×Rat)}{cs r:List Value}{u u0 u1 v:Value}{R S e t t':TypeId}{W w w' w1:World}{x y:Rat}{n:Int}
def rZ(ns:List Int):Rat:=((jE (ns.take (ns.length-1)):Int):Rat)/(((cf ns (ns.length-1)).natAbs:Int):Rat)+1
def IY{ns:List Int}(b:∀n∈ns,nl n.natAbs<=K)(a:1<=K):RL (2*K+2) (rZ ns)∧RL K (((jE (ns.take (ns.length-1)):Int):Rat)/(((cf ns (ns.length-1)).natAbs:Int):Rat)):=by
 have h:=pM (KJ b (ns.length-1)) (show nl (((cf ns (ns.length-1)).natAbs:Int)).natAbs<=K by rw[dD];exact iU b _) a;exact⟨bU (wW h (bU rY a)) (by omega),h⟩
def IZ(x y:Rat)(a b:Value)(w:World)(_:Glob w)(f:RatAt w a x)(g:RatAt w b y)(i:y.den=1)(K:Nat)(d:RL K x)(c:RL K y)(e:10*K+40<=aJ):Calls prog 93 #[a,b] w (iF w (x+y)):=by
 by_cases h:x.den=1
 ·exact J7 x y a b w f g h i K d c e
 ·exact J8 x y a b w f g h i K d c e
def UK(ns:List Int)(v:Value)(w:World)(o:Glob w)(hv:WholeAt w v ns)(Q:ns≠[])(ht:aN ns)(K:Nat)(y:∀n∈ns,nl n.natAbs<=K)(hl:ns.length<=65)(h1:1<=K)(ao:K<=1073741824):
  Calls prog 39 #[v] w (iF w (rZ ns)):=by
 obtain⟨A,c,rfl,hc⟩:=hv.form;have ax:=List.length_pos_iff.2 Q;obtain⟨m,hm⟩:∃m,ns.length-1=m:=⟨_,rfl⟩;have am:(ns.length:Int)-1=(m:Int):=by omega
 have Z:=fun W=>JO ns.length c A W (by omega);simp only[am] at Z;have H:=fun W h=>wS ns (.slice A ns.length c) W h Q (by omega);have bl:=iU y m;obtain⟨-,J⟩:=IY y h1;have al:cf ns m≠0:=by rw[<-hm];exact(fT Q).1 ht
 have bG:=fun j=>KJ y j;unfold rZ;rw[hm] at H J⊢;have S:=fun W v h=>J3 (cf ns m) v W h;have ac:=fun W u v o h p=>I3 (jE (ns.take m)) ((cf ns m).natAbs:Int) u v W o h p K (bG m) (by rw[dD];exact bl) (by unfold aJ;omega);have ad:=fun W=>UQ 1 W (by decide) (by decide);have U:=fun W u v o h p=>IZ (((jE (ns.take m):Int):Rat)/(((cf ns m).natAbs:Int):Rat)) ((1:Int):Rat) u v W o h p rfl K J (bU rY h1) (by unfold aJ;omega);have M:(1:Rat)=((1:Int):Rat):=rfl;rw[M];have az:(0:Int)<=(m:Int):=by omega
 have a0:(m:Int)<=(c:Int):=by omega
 unfold dW at H S;unfold iF at ac ad U;unfold iF;generalize (((jE (ns.take m):Int):Rat)/(((cf ns m).natAbs:Int):Rat))=F at *;generalize ((1:Int):Rat)=a2 at *;generalize cf ns m=cl at *;clear J bl M al;obtain⟨W,eW,a,R,G⟩:=eL w [.bool false,.slice none 0 0,.bool false,.slice none 0 0] 71 [.bool false,.slice none 0 0] 67;have cM:=aa R.g4 G.g2;go_enter func39,ntmps39;go_wp2_with fail;(try rw[eW]);clear eW;refine(Z _).mono ?_;rintro M w1 ⟨rfl,rfl⟩;have af:IntBx w1 (w.1.size+1) (jE (ns.take 0)):=⟨_,_,_,_,G,IntAt.zero _⟩;clear G;go_wp2_with fail;go_loopg [12] m (fun k i wr=>∃j,Hid (j+k=m)∧i= .int .i64 j∧IntBx wr (w.1.size+1) (jE (ns.take j))∧Bx wr w.1.size [.bool false,.slice none 0 0,.bool false,.slice none 0 0] 71∧Below w.1.size w wr)
 case atStart=>exact⟨0,by unfold Hid;omega,rfl,af,R,a⟩
 case round=>
  clear af R a;obtain⟨j,t,rfl,⟨s,B,l,d,G,f⟩,R,a⟩:=hrel;generalize wr=wy at *;have au:(0:Int)<=(j:Int):=by omega
  cases gk with
  |zero=>
   obtain rfl:j=m:=t.out;have cG:=G.g2;go_wp2_with fail
   go_region_held3 (fun w'=>C2 w' (w.1.size+1) (.bool s) (.slice B l d))
    (first|(with_reducible exact G.up.k2)|(with_reducible exact fQ (by omega) (fQ (by omega) (fQ (by omega) (fQ (by omega) G.up.k2)))))
    (first
     |(go_at_call 92;refine(H _ (hv.be a).up).mono ?_;rintro e3 w3 ⟨v3,rfl,e,z⟩;obtain⟨s3,I,k3,L,rfl⟩:=e.form;have:=St.mk z)
     |(go_at_call 89;refine(S _ _ e.up).mono ?_;rintro N w4 ⟨v4,rfl,h4,C⟩;obtain⟨s4,A4,k4,c4,rfl⟩:=h4.form;have:=St.mk C)
     |(go_at_call 91;refine(ac _ _ _ (o.be a).up f.up h4.up).mono ?_;rintro e5 w5 ⟨v5,rfl,h5,g⟩;obtain⟨s5,A5,k5,c5,s6,A6,k6,c6,rfl⟩:=h5.form;have:=St.mk g)
     |(go_at_call 94;refine(ad _).mono ?_;rintro e7 w7 ⟨v7,rfl,h7,aj⟩;obtain⟨s7,A7,k7,c7,s8,A8,k8,c8,rfl⟩:=h7.form;have:=St.mk aj)
     |(go_at_call 93;refine(U _ _ _ (o.be a).up h5.up h7.up).mono ?_;rintro e9 w9 ⟨v9,rfl,h9,ak⟩;obtain⟨s1,A1,k1,c1,s2,A2,k2,c2,rfl⟩:=h9.form;have:=St.mk ak;have R9:=R.up (b:=w9);have an:=R9.g4))
   all_goals (
    go_wp2_with fail;obtain⟨W6,x,R6,V,hk,ff⟩:=R9.put4 (bJ (b:=w9) a) aE (.bool s1) (.slice A1 k1 c1) (.bool s2) (.slice A2 k2 c2) rfl rfl;rw[x];exact aM (v:= .agg #[.bool s1,.slice A1 k1 c1,.bool s2,.slice A2 k2 c2]) (by simp[results,results39,go_sem,R6.k4]) rfl ⟨_,rfl,h9.ke hk,V⟩)
  |succ k=>
   have aw:j<m:=by have:=t.out;omega
   have av:(j:Int)<(m:Int):=by omega
   obtain⟨n,hn⟩:∃n,ns[j]? =some n:=⟨_,aR (by omega)⟩;have ag:=KH hn;have kn:=y n (dG hn);obtain⟨b,s',B',l',d',ah,ar,g0,g1,E⟩:=(hv.be a).at_ hn;subst ah;have T:=fun W v h=>J3 n v W h;have D:=fun W u v h p=>BX (n.natAbs:Int) (jE (ns.take j)) u v W h p (by rw[dD];omega) (aH (bG j) (by omega));have ae:=aB ag;unfold dW at T;unfold eO at D;obtain⟨P,hP⟩:∃P,bZ (n.natAbs:Int) (jE (ns.take j))=P:=⟨_,rfl⟩;have ai:=kJ (n.natAbs:Int) (jE (ns.take j));rw[hP] at D ai;clear ag hn H S ac ad U Z hP;generalize jE (ns.take j)=O at *;obtain⟨w2,e2,r,X⟩:=bI wy [.bool s',.slice B' l' d'] 67;replace G:=G.be r;replace R:=R.be r;replace f:=f.be r;replace E:=E.be r;replace a:=aC a r;have cX:=X.k2;go_wp2_with fail;(try rw[e2]);(try clear e2);refine(T _ _ E).mono ?_;rintro e3 w3 ⟨v3,rfl,e,z⟩;obtain⟨s3,I,k3,L,rfl⟩:=e.form;obtain⟨w4,N,C,Y⟩:=bI w3 [.bool s3,.slice I k3 L] 67;have q:=aC z C;replace G:=G.be q;replace R:=R.be q;replace f:=f.be q;replace e:=e.be C;replace a:=aC a q;have cY:=aa Y.k2 G.k2;clear cX X E g0 g1;go_wp2_with fail;(try rw[N]);(try clear N);refine(D _ _ _ e f).mono ?_;rintro e5 w5 ⟨rfl,g⟩;replace Y:=Y.be g;replace G:=G.be g;replace R:=R.be g;replace f:=f.be g;replace e:=e.be g;replace a:=aC a g;have aq:=Y.lt;have a1:=q.size;have cY:=aa Y.k2 G.g2;clear T D;by_cases ay:O<(n.natAbs:Int)
   ·obtain rfl:P=1:=by omega
    go_wp2_with fail;obtain⟨W6,x,G6,V,hk,ff⟩:=G.put2 a (by omega) (.bool s3) (.slice I k3 L) rfl rfl;rw[x];clear x;go_roundg k
    case rel=>exact⟨j+1,by have:=t.out;unfold Hid;omega,by go_num,⟨_,_,_,_,G6,by rw[ae.out,if_pos (show O<(n.natAbs:Int) by omega)];exact e.ke hk⟩,ff R (by omega),V⟩
    case measure=>omega
   ·have ap:¬(0:Int)<P:=by omega
    go_wp2;go_roundg k
    case rel=>exact⟨j+1,by have:=t.out;unfold Hid;omega,by go_num,⟨_,_,_,_,G,by rw[ae.out,if_neg (show¬O<(n.natAbs:Int) by omega)];exact f⟩,R,a⟩
    case measure=>omega
def DD(w:World)(v:Value):Prop:=∀g,v.ownBlock=some g->∀cur t f,w.heap[g]? =some (.cells cur t f)->∀y∈cur.toList,NoInt y
def GrowD(w:World)(base:Nat)(e:TypeId)(k:Nat)(v:Value)(rows:List (List Value)):Prop:=w.ownsRow base e k v rows.length rows.flatten∧(∀r∈rows,r.length=k)∧DD w v
section
variable {w w':World}{base:Nat}{e:TypeId}{k:Nat}{v:Value}{rows:List (List Value)}
def GrowD.nil:GrowD w base e k (.slice none 0 0) []:=⟨World.ownsRow_nil _ _ _ _,(fun _ h=>by cases h),fun g h=>by simp[Value.ownBlock] at h⟩
def GrowD.lt(h:GrowD w base e k v rows):∀g,v.ownBlock=some g->base<=g∧g<w.1.size:=fun g b=>by
 rcases h.1.2 with ⟨rfl,_⟩|⟨i,f,cur,rfl,c,d,_⟩
 ·simp[Value.ownBlock] at b
 ·simp[Value.ownBlock] at b;subst b;exact⟨c,(Array.getElem?_eq_some_iff.1 d).1⟩
def GrowD.kept(h:GrowD w base e k v rows)(l:∀g,v.ownBlock=some g->w'.heap[g]? =w.heap[g]?):GrowD w' base e k v rows:=by
 obtain⟨j,n,q⟩:=h;refine⟨⟨j.1,?_⟩,n,fun g d b t f c=>q g d b t f ((l g d).symm.trans c)⟩;rcases j.2 with h|⟨i,m,b,rfl,p,c,h⟩
 ·exact .inl h
 ·exact .inr ⟨i,m,b,rfl,p,(l i (by simp[Value.ownBlock])).trans c,h⟩
def GrowD.be(h:GrowD w base e k v rows)(c:Below w.1.size w w'):GrowD w' base e k v rows:=h.kept (fun g b=>c.block g (h.lt g b).2)
def GrowD.up{a b:World}[u:Up a b](h:GrowD a base e k v rows):GrowD b base e k v rows:=h.be u.out
def GrowD.form(h:GrowD w base e k v rows):∃A c,v= .slice A rows.length c∧rows.length<=c:=by
 rcases h.1.2 with ⟨rfl,b⟩|⟨i,d,g,rfl,j,l,f,_⟩
 ·exact⟨none,0,by rw[b],by rw[b];exact aE⟩
 ·exact⟨_,d,rfl,f⟩
def GrowD.at_{l:Nat}(h:GrowD w base e k (.slice A l c) rows)(hi:rows[i]? =some r):∃b,A=some ⟨b,0,none⟩∧base<=b∧b<w.1.size∧∀(j:Nat) (u:Value),r[j]? =some u->w.cell? ⟨b,i*k+j,none⟩=some u:=by
 obtain⟨q,g,B⟩:=h;have C:=(List.getElem?_eq_some_iff.1 hi).1;rcases q.2 with ⟨_,z⟩|⟨f,y,p,hv,s,m,D,E,F,x⟩
 ·omega
 ·simp only[Value.slice.injEq] at hv;refine⟨f,hv.1,s,(Array.getElem?_eq_some_iff.1 m).1,fun j u n=> ?_⟩;have t:j<k:=by rw[<-g r (dG hi)];exact(List.getElem?_eq_some_iff.1 n).1
  rw[cell_of_row w f _ p e (0,0) m,<-Array.getElem?_toList];have d:=mW g hi t;rw[n,<-x,fC] at d;split at d
  ·exact d
  ·cases d
end
def LA(w:World)(t N e:TypeId)(k O:Nat)(z:Value)(W:Tryz.prog.underlying t=some (.slice e))(hi:(Tryz.prog.info? e).map (fun i=>(i.zero,i.size,i.bytes))=some (some z,k,O))(aw:z.cells.size=k)(hz:∀n,∀y∈Builtin.zeroCells z.cells n,NoInt y)(hk:0<k)(aj:O<=1024)
  {base:Nat}{rows:List (List Value)}(hG:GrowD w base e k v rows)(hB:Bx w g r t')(H:r.length=k)(U:∀u∈r,NoInt u∧u.oneCell'=true)(hl:rows.length<=1073741824)(hb:base<=w.1.size):
  ∃E w',(Builtin.append_ #[t,t] N #[v,.slice (some ⟨g,0,none⟩) 1 c]).run prog w= .ok E w'∧GrowD w' base e k E (rows++[r])∧Keep w w'∧w.grownBy w' v.ownBlock∧(E.ownBlock=v.ownBlock∨E.ownBlock=some w.1.size):=by
 obtain⟨F,h3,hN⟩:=hG;obtain⟨i,hi,ac,I,ad⟩:=info_parts hi;have af:(rows.length+1)*O<=140737488355328:=aH (aqK (show rows.length+1<=1073741825 by omega) aj) (by decide);have T:∀j u,r[j]? =some u->w.cell? ((⟨g,0,none⟩:Addr).add j)=some u:=fun j u M=>by
  have:=hB.cell j M;unfold Addr.add;split
  ·rename_i K;subst K;exact this
  ·simpa using this
 obtain⟨E,w',V,ho,S,_,ai⟩:=run_append_own_at (P:=prog) w base t N e i z k O W hi ac I ad aw hk v rows.length _ F ⟨g,0,none⟩ 1 c r (by rw[H,aqD]) T (fun u M=>(U u M).2) (by unfold maxLen;omega) af hb;have an:Keep w w':=fun x n D=>by
  obtain⟨A,c',hv,L,au,aq⟩:=D;refine⟨A,c',hv,L,?_,aq.mono S.size⟩;rcases au with h|⟨b,ax,rfl,ag,al⟩
  ·exact .inl h
  ·refine .inr ⟨b,ax,rfl,aZ ag S.size,fun j G=> ?_⟩;have Z:=al j G;by_cases R:v.ownBlock=some b
   ·rcases F.2 with ⟨rfl,_⟩|⟨p,q,l,rfl,_,C,_⟩
    ·simp[Value.ownBlock] at R
    ·have B:p=b:=by simpa [Value.ownBlock] using R
     subst B;rw[cell_of_row w p _ l _ (0,0) C,<-Array.getElem?_toList] at Z;exact absurd rfl (hN p R l _ _ C _ (dG Z) _ _)
   ·exact(World.cell?_of_block (S.block b ag (fun e'=>R e'.symm))).trans Z
 have am:DD w' E:=by
  have ae:∀(X:List Value) (q m:Nat),(∀y∈X,NoInt y)->DD (w.drew.alloc (.cells (X.toArray++r.toArray++Builtin.zeroCells z.cells m) e)) (.slice (some ⟨w.1.size,0,none⟩) (rows.length+1) q):=fun X q m hv p J l t f L=>by
   simp[Value.ownBlock] at J;subst J;have:=heap_alloc_new w.drew (.cells (X.toArray++r.toArray++Builtin.zeroCells z.cells m) e);have h5:=this.symm.trans L;simp only[Option.some.injEq,Obj.cells.injEq] at h5;rw[<-h5.1];intro y d;rw[bx5,bx5] at d;rcases List.mem_append.1 d with d|d
   ·rcases List.mem_append.1 d with d|d
    ·exact hv y d
    ·exact(U y d).1
   ·exact hz m y (Array.mem_toList_iff.1 d)
  rcases F.2 with ⟨rfl,K⟩|⟨p,q,l,rfl,az,C,ap,a0,hs,a1⟩
  ·have s:=run_append_nil (P:=prog) w t N e i z W hi ac ⟨g,0,none⟩ 1 c r (by rw[I,H,aqD]) T (by decide) (by decide) (by rw[ad];omega);rw[V] at s;injection s with e1 B;subst e1 B;have:=ae [] (grownCap w 1 0 e) (grownCap w 1 0 e-1) (fun _ h=>by cases h);rw[K] at this;simpa using this
  ·have Y:∀y∈l.toList,NoInt y:=hN p rfl l _ _ C;by_cases ah:rows.length+1<=q
   ·have s:=run_append_room (P:=prog) w t N e i W hi p rows.length q l C ⟨g,0,none⟩ 1 c r (by rw[I,H,aqD]) T (fun u M=>(U u M).2) ah (by
     rw[I,hs,H];have:=dK k ah;rw[aqA,aqD] at this;exact this)
    rw[V] at s;injection s with e1 B;subst e1 B;intro g3 J ay t f L;simp[Value.ownBlock] at J;subst J;have h7:=(setRow_heap w p l _ e _ C).symm.trans L;simp only[Option.some.injEq,Obj.cells.injEq] at h7;rw[<-h7.1];intro y d;have av:y∈l.toList.take (rows.length*i.size)++r++l.toList.drop (rows.length*i.size+r.length):=d;rcases List.mem_append.1 av with d|d
    ·rcases List.mem_append.1 d with d|d
     ·exact Y y (lH d)
     ·exact(U y d).1
    ·exact Y y (bxD d)
   ·have ar:∀j y,(l.toList.take (rows.length*k))[j]? =some y->w.cell? ((⟨p,0,none⟩:Addr).add j)=some y:=fun j y G=>by
     have F:w.cell? ⟨p,j,none⟩=some y:=by
      rw[cell_of_row w p j l _ (0,0) C,<-Array.getElem?_toList];rw[fC] at G;split at G
      ·exact G
      ·cases G
     unfold Addr.add;split
     ·rename_i K;subst K;exact F
     ·simpa using F
    have ao:(l.toList.take (rows.length*k)).length=rows.length*i.size:=by
     have ak:l.toList.length=q*k:=hs;rw[I,bK,ak];exact gF (dK _ ap)
    have s:=run_append_grow (P:=prog) w t N e i z W hi ac ⟨p,0,none⟩ rows.length q (l.toList.take (rows.length*k)) ao ar ⟨g,0,none⟩ 1 c r (by rw[I,H,aqD]) T (by omega) (by omega) (growslice_fits (by omega) (by rw[ad];exact af));rw[V] at s;injection s with e1 B;subst e1 B;have:=ae (l.toList.take (rows.length*k)) (grownCap w (rows.length+1) q e) (grownCap w (rows.length+1) q e-(rows.length+1)) (fun y d=>Y y (lH d));simpa using this
 refine⟨E,w',V,⟨?_,fun x D=> ?_,am⟩,an,S,ai⟩
 ·rw[bE,byL];simpa using ho
 ·rcases List.mem_append.1 D with D|D
  ·exact h3 x D
  ·rw[List.mem_singleton.1 D];exact H
section
variable {ops:Array Oper}{rest:List Oper}{o:Oper}{a:Act}{Q:Exit->Act->World->Prop}{w:World}
def yE(D:o.guard=none){s x:Operand}(H:o.op= .call { callee:= .builtin .append,args:= #[s,x],argTypes:= #[t,t] })(e:TypeId)(k d:Nat)(z:Value)(M:Tryz.prog.underlying t=some (.slice e))(hi:(Tryz.prog.info? e).map (fun i=>(i.zero,i.size,i.bytes))=some (some z,k,d))(P:z.cells.size=k)(O:∀n,∀y∈Builtin.zeroCells z.cells n,NoInt y)(E:0<k)(C:d<=1024)
  {base:Nat}{rows:List (List Value)}(L:a.eval s=v)(q:GrowD w base e k v rows)(N:a.eval x= .slice (some ⟨g,0,none⟩) 1 c)(p:Bx w g r R)(I:r.length=k)(G:∀u∈r,NoInt u∧u.oneCell'=true)(F:rows.length<=1073741824)(B:base<=w.1.size)
  (h:∀b w',GrowD w' base e k b (rows++[r])->Keep w w'->w.grownBy w' v.ownBlock->(b.ownBlock=v.ownBlock∨b.ownBlock=some w.1.size)->wpList prog ops Q rest (a.put o.dst b) w'):
  wpList prog ops Q (o :: rest) a w:=by
 obtain⟨b,w',J,f,j,l,m⟩:=LA w t o.type e k d z M hi P O E C q p I G F B (c:=c);refine wpList_plain D fun K A=> ?_;unfold Oper.wp execOp;simp only[H,resolve,invoke,builtin,Sem.run_bind,Sem.run_pure,Result.andThen_ok,bxC,fM,aqJ,L,N,J];exact A _ _ (h b w' f j l m)
def LB{K:Act->World->Prop}{E:Prop}(C:o.guard=none){s x:Operand}(H:o.op= .call { callee:= .builtin .append,args:= #[s,x],argTypes:= #[t,t] })(e:TypeId)(k d:Nat)(z:Value)(M:Tryz.prog.underlying t=some (.slice e))(hi:(Tryz.prog.info? e).map (fun i=>(i.zero,i.size,i.bytes))=some (some z,k,d))(R:z.cells.size=k)(P:∀n,∀y∈Builtin.zeroCells z.cells n,NoInt y)(D:0<k)(B:d<=1024)
  {base:Nat}{rows:List (List Value)}(L:a.eval s=v)(q:GrowD w base e k v rows)(O:a.eval x= .slice (some ⟨g,0,none⟩) 1 c)(p:Bx w g r S)(I:r.length=k)(G:∀u∈r,NoInt u∧u.oneCell'=true)(F:rows.length<=1073741824)(A:base<=w.1.size)
  (h:∀b w',GrowD w' base e k b (rows++[r])->Keep w w'->w.grownBy w' v.ownBlock->(b.ownBlock=v.ownBlock∨b.ownBlock=some w.1.size)->K (a.put o.dst b) w'):if Region.wanted o (yielded ops a.tmps)=true then Oper.wp prog o a w K Q else E:=by
 have N:Region.wanted o (yielded ops a.tmps)=true:=by simp[Region.wanted,C]
 rw[if_pos N];obtain⟨b,w',J,f,j,l,m⟩:=LA w t o.type e k d z M hi R P D B q p I G F A (c:=c);unfold Oper.wp execOp;simp only[H,resolve,invoke,builtin,Sem.run_bind,Sem.run_pure,Result.andThen_ok,bxC,fM,aqJ,L,O,J];exact h b w' f j l m
end
def GrowD.left{base:Nat}{rows:List (List Value)}(h:GrowD w base e k v rows)(b:w.grownBy w' v.ownBlock)(c:base<=w.1.size):Below base w w':=⟨b.os,b.tape,b.output,b.size,fun k d=>b.block k (by omega) (fun e=>by have:=(h.lt k e.symm).1;omega)⟩
def ZS(x y:Rat):(x+y)*(((1:Int):Rat)/((2:Int):Rat))=(x+y)/2:=by
 have a:((1:Int):Rat)=1:=rfl;have c:((2:Int):Rat)=2:=rfl;rw[a,c];grind
def ZT:(((1:Int):Rat)/((2:Int):Rat)).den≠1:=by rw[<-Rat.divInt_eq_div];decide
def ZU:(((1:Int):Rat)/((2:Int):Rat)).num≠0:=by rw[<-Rat.divInt_eq_div];decide
def SpanAt(w:World)(v:Value)(x y:Rat):Prop:=∃o a k f p c l h q d m i r e n j,v= .agg #[.bool o,.slice a k f,.bool p,.slice c l h,.bool q,.slice d m i,.bool r,.slice e n j]∧RatAt w (.agg #[.bool o,.slice a k f,.bool p,.slice c l h]) x∧RatAt w (.agg #[.bool q,.slice d m i,.bool r,.slice e n j]) y
def uN(K:Nat)(D:Rat->Rat->Prop):Prop:=∀x y,D x y->RL K x->RL K y->∀W u v,Glob W->RatAt W u x->RatAt W v y->Calls prog 93 #[u,v] W (iF W (x+y))
def ZV(d:10*K+40<=aJ):uN K y7:=fun x y e f i W u v c h a=>IZ x y u v W c h a e.2 K f i d
def ZW(D:Rat->Rat->Prop)(x y:Rat)(v:Value)(w:World)(a:Glob w)(hv:SpanAt w v x y)(K:Nat)(r:RL K x)(q:RL K y)(h1:1<=K)(ag:K<=1073741824)(I:uN K D)(J:D x y):
  Calls prog 78 #[v] w (iF w ((x+y)/2)):=by
 obtain⟨Y,j,N,s,Z,k,O,t,s3,l,P,A,s4,n,Q,B,rfl,hx,hy⟩:=hv;have L:=fun W a h d=>I x y J r q W (.agg #[.bool Y,.slice j N s,.bool Z,.slice k O t]) (.agg #[.bool s3,.slice l P A,.bool s4,.slice n Q B]) a h d;clear I J;have U:nl (1:Int).natAbs<=1:=cJ (by decide);have V:nl (2:Int).natAbs<=1:=cJ (by decide);have M:=fun W u v a h d=>I3 1 2 u v W a h d 1 U V (by unfold aJ;decide);have i:=fun W u v a h d=>UT (x+y) (((1:Int):Rat)/((2:Int):Rat)) u v W a h d (fun e=>absurd e.2 ZT) ZU (2*K+2) (bU (wW r q) (by omega)) (bU (pM U V (mC 1)) (by omega)) (by unfold aJ;omega);rw[ZS] at i;unfold iF at L M i;unfold iF;generalize (x+y)/2=m at *;generalize x+y=z at *;generalize ((1:Int):Rat)/((2:Int):Rat)=ah at *;obtain⟨W,G,c,X,R⟩:=eL w [.bool Y,.slice j N s,.bool Z,.slice k O t,.bool s3,.slice l P A,.bool s4,.slice n Q B] 76 [.bool false,.slice none 0 0,.bool false,.slice none 0 0] 71;have cM:=aa X.g8 R.g4;go_enter func78,ntmps78;go_wp2_with fail;(try rw[G]);clear G;refine(L _ (a.be c) (hx.be c) (hy.be c)).mono ?_;rintro e5 w5 ⟨v5,rfl,h5,ac⟩;have:=St.mk ac;go_wp2_with fail;refine(lL 1 _ (by decide) (by decide)).mono ?_;rintro F w6 ⟨v6,rfl,h6,f⟩;have:=St.mk f;go_wp2_with fail;refine(lL 2 _ (by decide) (by decide)).mono ?_;rintro e7 w7 ⟨v7,rfl,h7,ad⟩;have:=St.mk ad;go_wp2_with fail;refine(M _ _ _ (a.be c).up h6.up h7).mono ?_;rintro e8 w8 ⟨v8,rfl,h8,ae⟩;have:=St.mk ae;go_wp2_with fail;refine(i _ _ _ (a.be c).up h5.up h8).mono ?_;rintro e9 w9 ⟨v9,rfl,H,af⟩;obtain⟨s5,o,S,C,s6,p,T,E,rfl⟩:=H.form;have:=St.mk af;replace R:=R.up (b:=w9);have cR:=R.g4;go_wp2_with fail;obtain⟨W6,F,R6,f,hk,ff⟩:=R.put4 (bJ (b:=w9) c) (by omega) (.bool s5) (.slice o S C) (.bool s6) (.slice p T E) rfl rfl;rw[F];exact aM (v:= .agg #[.bool s5,.slice o S C,.bool s6,.slice p T E]) (by simp[results,results78,go_sem,R6.k4]) rfl ⟨_,rfl,H.ke hk,f⟩
def ZX(x y:Rat)(v:Value)(w:World)(a:Glob w)(hv:SpanAt w v x y)(K:Nat)(S:RL K x)(Q:RL K y)(L:K<=1073741824):
  Calls prog 32 #[v] w fun e w'=>e= .returned (.agg #[.string ⟨(cW x).toArray⟩,.string ⟨(cW y).toArray⟩])∧Below w.1.size w w':=by
 obtain⟨A,i,s,m,B,j,t,n,C,k,u,o,D,l,z,p,rfl,q,r⟩:=hv;have U:=fun W a h=>I4 x (.agg #[.bool A,.slice i s m,.bool B,.slice j t n]) W a h K S L;have V:=fun W a h=>I4 y (.agg #[.bool C,.slice k u o,.bool D,.slice l z p]) W a h K Q L;generalize (cW x).toArray=N at *;generalize (cW y).toArray=O at *;obtain⟨W,I,c,X,R⟩:=eL w [.bool A,.slice i s m,.bool B,.slice j t n,.bool C,.slice k u o,.bool D,.slice l z p] 76 [.string ⟨#[]⟩,.string ⟨#[]⟩] 24;have cM:=aa X.g8 R.g2;go_enter func32,ntmps32;go_wp2_with fail;(try rw[I]);clear I;replace q:=q.be c;replace r:=r.be c;have M:w.1.size+1≠w.1.size:=by omega
 go_region_held3 (fun w'=>C8 w' w.1.size (.bool A) (.slice i s m) (.bool B) (.slice j t n) (.bool C) (.slice k u o) (.bool D) (.slice l z p)) (first|(with_reducible exact X.up.k8)|(with_reducible exact((G.far 0 _ M).far 1 _ M).k8))
  (first
   |(go_at_call 56;first|(with_reducible refine(U _ (a.be c).up q.up).mono ?_;rintro e5 E ⟨rfl,Y⟩;have:=St.mk Y;have d:=R.up (b:=E);have G:=X.up (b:=E);have T:=d.g2;have J:=bJ (b:=E) c)|(with_reducible refine(V _ (a.be c).up r.up).mono ?_;rintro H F ⟨rfl,f⟩;have:=St.mk f;have d:=R.up (b:=F);have G:=X.up (b:=F);have T:=d.g2;have J:=bJ (b:=F) c)))
 all_goals (
  go_wp2_with fail;obtain⟨Z,H,P,f,hk,ff⟩:=d.put2 J (by omega) (.string ⟨N⟩) (.string ⟨O⟩) rfl rfl;rw[H];exact aM (v:= .agg #[.string ⟨N⟩,.string ⟨O⟩]) (by simp[results,results32,go_sem,P.k2]) rfl ⟨rfl,by first|exact f|exact f.drew⟩)
def PoAt(w:World)(v:Value)(x:Rat)(n:Int)(z:Bool):Prop:=∃i a f d j c h e,v= .agg #[.bool i,.slice a f d,.bool j,.slice c h e,.int .i64 n,.bool z]∧RatAt w (.agg #[.bool i,.slice a f d,.bool j,.slice c h e]) x
def Bx.put6{b:Nat}(h:Bx W b cs t)(H:Below B w W)(a:B<=b)(v0 v1 v2 v3 v4 v5:Value){e f i j l:Value}{k:Int}(I:cs=[e,f,i,j,.int .i64 k,l])(hn:(cS (some e)&&(cS (some f)&&(cS (some i)&&(cS (some j)&&cS (some l)))))=true):
  ∃d,(((((W.setCell ⟨b,0,none⟩ v0).setCell ⟨b,1,none⟩ v1).setCell ⟨b,2,none⟩ v2).setCell ⟨b,3,none⟩ v3).setCell ⟨b,4,none⟩ v4).setCell ⟨b,5,none⟩ v5=d∧Bx d b [v0,v1,v2,v3,v4,v5] t∧Below B w d∧Keep W d∧∀{g:Nat} {cs:List Value} {t:TypeId},Bx W g cs t->b≠g->Bx d g cs t:=by
 subst I;simp only[az7] at hn;obtain⟨P,rfl,C,n,J,v⟩:=h.put1 H a 0 v0 hn.1;obtain⟨Q,rfl,D,o,K,x⟩:=C.put1 n a 1 v1 hn.2.1;obtain⟨R,rfl,E,q,L,y⟩:=D.put1 o a 2 v2 hn.2.2.1;obtain⟨S,rfl,m,r,M,z⟩:=E.put1 q a 3 v3 hn.2.2.2.1;have s:=r.setCell (p:=⟨b,4,none⟩) a v4;have N:=Keep.puti (m.cell 4 rfl) v4;have F:=m.set 4 v4;obtain⟨T,rfl,G,u,O,A⟩:=F.put1 s a 5 v5 hn.2.2.2.2;exact⟨_,rfl,G,u,((((J.trans K).trans L).trans M).trans N).trans O,fun k c=>A ((z (y (x (v k c) c) c) c).far 4 v4 c) c⟩
section
variable {w:World}{b g:Nat}{v0 v1 v2 v3 v4 v5:Value}
def qV(a:b≠g)(h:w.cell? ⟨g,o,none⟩=some u):((((((w.setCell ⟨b,0,none⟩ v0).setCell ⟨b,1,none⟩ v1).setCell ⟨b,2,none⟩ v2).setCell ⟨b,3,none⟩ v3).setCell ⟨b,4,none⟩ v4).setCell ⟨b,5,none⟩ v5).cell? ⟨g,o,none⟩=some u:=by
 exact(aL _ _ _ _ _ _ a).trans ((aL _ _ _ _ _ _ a).trans ((aL _ _ _ _ _ _ a).trans ((aL _ _ _ _ _ _ a).trans ((aL _ _ _ _ _ _ a).trans ((aL _ _ _ _ _ _ a).trans h)))))
def ZY(a:b≠g){u2 u3:Value}(h:C4 w g u0 u1 u2 u3):C4 ((((((w.setCell ⟨b,0,none⟩ v0).setCell ⟨b,1,none⟩ v1).setCell ⟨b,2,none⟩ v2).setCell ⟨b,3,none⟩ v3).setCell ⟨b,4,none⟩ v4).setCell ⟨b,5,none⟩ v5) g u0 u1 u2 u3:=⟨qV a h.1,qV a h.2.1,qV a h.2.2.1,qV a h.2.2.2⟩
def ZZ(a:b≠g)(h:C2 w g u0 u1):C2 ((((((w.setCell ⟨b,0,none⟩ v0).setCell ⟨b,1,none⟩ v1).setCell ⟨b,2,none⟩ v2).setCell ⟨b,3,none⟩ v3).setCell ⟨b,4,none⟩ v4).setCell ⟨b,5,none⟩ v5) g u0 u1:=⟨qV a h.1,qV a h.2⟩
end
def ax0(s:List Int)(x:Rat):decide (fE s x.num x.den=0)=decide (aP s 0 x=0):=by
 unfold aP;rw[if_pos rfl];exact decide_eq_decide.2 (by rw[Int.sign_eq_zero_iff_zero])
def ax1(s:List Int)(c:List (List Int))(B E:Nat)(x:Rat)(vc vr vx:Value)(w:World)(H:Bx w E [vc,vr] 145)(hv:WsAt w B 64 vc (s :: c))(y:RatAt w vx x)(an:(s :: c).length<=1024)(K:Nat)(J:∀a∈s :: c,a≠[]∧a.length<=65∧∀n∈a,nl n.natAbs<=K)(C:RL K x)(ac:140*K+10<=17592186044416):
  Calls prog 87 #[.pointer (some ⟨E,0,none⟩),vx] w fun e w'=>∃v',e= .returned v'∧PoAt w' v' x (aY 0 ((s :: c).map (fun a=>aP a 0 x)):Nat) (decide (aP s 0 x=0))∧Below w.1.size w w':=by
 obtain⟨r,d,o,k,t,f,q,m,rfl⟩:=y.form;obtain⟨A,Q,rfl,hc⟩:=hv.form;obtain⟨j,u0,rfl,ae,hu,ah⟩:=hv.at_ (i:=0) (l:=s) rfl;obtain⟨N,P,rfl,ap⟩:=ah.form;have aq:(0:Int)<((s :: c).length:Int):=by rw[eG];omega
 have z:=J s (iC ..);have af:=fun W h G=>BV (s :: c) B 0 x (.slice (some ⟨j,0,none⟩) (s :: c).length Q) (.agg #[.bool r,.slice d o k,.bool t,.slice f q m,.int .i64 0]) W h G (by decide) an K J C ac;have ad:=fun W h G=>CB s x (.slice N s.length P) (.agg #[.bool r,.slice d o k,.bool t,.slice f q m]) W h G K z.2.2 C z.2.1 ac;have O:=xK (ns:=s) (a:=x.num) (b:=x.den) (T:=BN^K) (fun n h=>mS (z.2.2 n h)) (mS C.1) (mS C.2);have aj:nl (fE s x.num x.den).natAbs<=K*65+1:=by
  refine cJ (jI O.1 (aZ (xL (by omega)).1 (cO (by decide) ?_)));have:=eV K z.2.1;omega
 have ag:=fun W u h=>g9 (fE s x.num x.den) u W h (by omega);rw[ax0] at ag;have ao:=H.lt;unfold eO at af;unfold dW at ad;generalize (aY 0 ((s :: c).map (fun a=>aP a 0 x)):Nat)=V at *;generalize decide (aP s 0 x=0)=Z at *;generalize fE s x.num x.den=au at *;clear J z O aj C;have ar:0<(s :: c).length:=by rw[eG];omega
 generalize (s :: c).length=n at *;obtain⟨W,U,I,X,R⟩:=eL w [.bool r,.slice d o k,.bool t,.slice f q m] 71 [.bool false,.slice none 0 0,.bool false,.slice none 0 0,.int .i64 0,.bool false] 148;have cM:=aa X.g4 R.g6;go_enter func87,ntmps87;go_wp2_with fail;(try rw[U]);clear U;have:=St.mk I;have n1:w.1.size+1≠w.1.size:=by omega
 have n2:w.1.size+1≠E:=by omega
 have n3:w.1.size+1≠j:=by omega
 go_region_held3 (fun w'=>C4 w' w.1.size (.bool r) (.slice d o k) (.bool t) (.slice f q m)∧C2 w' E (.slice (some ⟨j,0,none⟩) n Q) vr∧w'.cell? ⟨j,0,none⟩=some (.slice N s.length P))
  (first
   |(with_reducible exact⟨X.up.k4,H.up.k2,((Up.out (a:=w)).cell (p:=⟨j,0,none⟩) ae).trans hu⟩)
   |(with_reducible exact⟨ZY n1 X.up.k4,ZZ n2 H.up.k2,qV n3 (((Up.out (a:=w)).cell (p:=⟨j,0,none⟩) ae).trans hu)⟩))
  (first
   |(go_at_call 146;refine(af _ hv.up (EndAt.of y.up)).mono ?_;rintro e5 L ⟨rfl,al⟩;have:=St.mk al;have D:=R.up (b:=L);have ak:=D.g6;have Y:=bJ (b:=L) I;have ai:=y.up (b:=L))
   |(go_at_call 75;refine(ad _ ah.up y.up).mono ?_;rintro S w6 ⟨v6,rfl,h6,F⟩;have:=St.mk F)
   |(go_at_call 106;refine(ag _ _ h6.up).mono ?_;rintro e7 M ⟨rfl,am⟩;have:=St.mk am;have D:=R.up (b:=M);have ak:=D.g6;have Y:=bJ (b:=M) I;have ai:=y.up (b:=M)))
 all_goals (
  go_wp2_with fail;obtain⟨W6,S,R6,F,hk,ff⟩:=D.put6 Y (by omega) (.bool r) (.slice d o k) (.bool t) (.slice f q m) (.int .i64 (V:Int)) (.bool Z) rfl rfl;rw[S];exact aM (v:= .agg #[.bool r,.slice d o k,.bool t,.slice f q m,.int .i64 (V:Int),.bool Z]) (by simp[results,results87,go_sem,R6.k6]) rfl ⟨_,rfl,⟨_,_,_,_,_,_,_,_,rfl,ai.ke hk⟩,by first|exact F|exact F.drew⟩)
structure Fr(gb:Nat)(v:Value)(w w':World):Prop where
 be:Below gb w w'
 ke:Keep w w'
 block:∀k,gb<k->k<w.1.size->v.ownBlock≠some k->w'.heap[k]? =w.heap[k]?
def OwnTo(w:World)(v v':Value):Prop:=∀g,v'.ownBlock=some g->v.ownBlock=some g∨w.1.size<=g
def Fr.of(h:Below w.1.size w w')(b:a<=w.1.size):Fr a v w w':=⟨h.mono b,Keep.be h,fun k _ c _=>h.block k c⟩
def Fr.trans{i:Value}{j:World}(h:Fr a v w w1)(b:Fr a i w1 j)(l:OwnTo w v i):Fr a v w j:=
 ⟨h.be.trans b.be,h.ke.trans b.ke,fun k c d f=>(b.block k c (aZ d h.be.size) (fun e=>by
  rcases l k e with g|g
  ·exact f g
  ·omega)).trans (h.block k c d f)⟩
def OwnTo.trans{b c:Value}(h:OwnTo w v b)(d:OwnTo w1 b c)(f:w.1.size<=w1.1.size):OwnTo w v c:=fun g e=>by
 rcases d g e with a|a
 ·exact h g a
 ·exact .inr (aH f a)
def Bx.fr(h:Bx w g cs t)(b:Fr a v w w')(c:a<g)(hv:v.ownBlock≠some g):Bx w' g cs t:=(b.block g c h.lt hv).trans h
def SpRow(w:World)(rows:List (List Value))(l:List (Rat×Rat)):Prop:=rows.length=l.length∧∀(i:Nat) (p:Rat×Rat),l[i]? =some p->∃q a k f r b m g s c n h t d o j,rows[i]? =some [Value.bool q,.slice a k f,.bool r,.slice b m g,.bool s,.slice c n h,.bool t,.slice d o j]∧RatAt w (.agg #[.bool q,.slice a k f,.bool r,.slice b m g]) p.1∧RatAt w (.agg #[.bool s,.slice c n h,.bool t,.slice d o j]) p.2
def SpRow.ke{rows:List (List Value)}(h:SpRow w rows l)(a:Keep w w'):SpRow w' rows l:=⟨h.1,fun i p q=>by
 obtain⟨v,b,r,g,y,c,s,j,z,d,t,k,A,f,u,m,e,n,o⟩:=h.2 i p q;exact⟨v,b,r,g,y,c,s,j,z,d,t,k,A,f,u,m,e,n.ke a,o.ke a⟩⟩
def RowSp(w:World)(a:Nat)(v:Value)(l:List (Rat×Rat)):Prop:=∃rows,GrowD w a 76 8 v rows∧SpRow w rows l
def RowSp.be(h:RowSp w a v l)(b:Below w.1.size w w'):RowSp w' a v l:=by
 obtain⟨f,c,d⟩:=h;exact⟨f,c.be b,d.ke (Keep.be b)⟩
def RowSp.lt(h:RowSp w a v l):∀g,v.ownBlock=some g->a<=g∧g<w.1.size:=by
 obtain⟨d,b,c⟩:=h;exact b.lt
def RowSp.nil(w:World)(a:Nat):RowSp w a (.slice none 0 0) []:=⟨[],GrowD.nil,rfl,fun i p h=>by simp at h⟩
def RowSp.form(h:RowSp w a v l):∃A c,v= .slice A l.length c∧l.length<=c:=by
 obtain⟨f,b,d⟩:=h;rw[<-d.1];exact b.form
def L6:(Tryz.prog.info? 76).map (fun i=>(i.zero,i.size,i.bytes))=some (some (.agg #[.bool false,.slice none 0 0,.bool false,.slice none 0 0,.bool false,.slice none 0 0,.bool false,.slice none 0 0]),8,128):=by kernel_rfl
def yB(n:Nat):∀y∈Builtin.zeroCells (Value.agg #[.bool false,.slice none 0 0,.bool false,.slice none 0 0,.bool false,.slice none 0 0,.bool false,.slice none 0 0]).cells n,NoInt y:=fun y b=>by
 unfold Builtin.zeroCells at b;obtain⟨j,_,rfl⟩:=Array.mem_map.1 b;have a:(Value.agg #[.bool false,.slice none 0 0,.bool false,.slice none 0 0,.bool false,.slice none 0 0,.bool false,.slice none 0 0]).cells= #[Value.bool false,.slice none 0 0,.bool false,.slice none 0 0,.bool false,.slice none 0 0,.bool false,.slice none 0 0]:=rfl;rw[a];have a:(#[Value.bool false,.slice none 0 0,.bool false,.slice none 0 0,.bool false,.slice none 0 0,.bool false,.slice none 0 0]:Array Value).size=8:=rfl;rw[a];rcases(show j%8=0∨j%8=1∨j%8=2∨j%8=3∨j%8=4∨j%8=5∨j%8=6∨j%8=7 by omega) with h|h|h|h|h|h|h|h<;>rw[h]
 ·exact NoInt.bool _
 ·exact NoInt.slice _ _ _
 ·exact NoInt.bool _
 ·exact NoInt.slice _ _ _
 ·exact NoInt.bool _
 ·exact NoInt.slice _ _ _
 ·exact NoInt.bool _
 ·exact NoInt.slice _ _ _
def Bx.grown{a:Option Nat}(h:Bx w g cs t)(b:w.grownBy w' a)(c:a≠some g):Bx w' g cs t:=(b.block g h.lt (fun e=>c e.symm)).trans h
def L7{d:World}{vc vr b:Value}{rows:List (List Value)}{Q R S T:Bool}{t u v:Option Addr}{L M N O C E F:Nat}
  (l:Below w.1.size w W)(ai:a<w.1.size)(P:Bx W a [vc,vr] 145)(ah:∃A k c,vr= .slice A k c)(hG:GrowD W (a+1) 76 8 vr rows)(hS:SpRow W rows q)(hx:RatAt W (.agg #[.bool Q,.slice s L B,.bool R,.slice t M C]) x)(hy:RatAt W (.agg #[.bool S,.slice u N E,.bool T,.slice v O F]) y)
  (H:GrowD d (a+1) 76 8 b (rows++[[.bool Q,.slice s L B,.bool R,.slice t M C,.bool S,.slice u N E,.bool T,.slice v O F]]))(j:Keep W d)(f:W.grownBy d vr.ownBlock)(ho:b.ownBlock=vr.ownBlock∨b.ownBlock=some W.1.size):
  Bx (d.setCell ⟨a,1,none⟩ b) a [vc,b] 145∧RowSp (d.setCell ⟨a,1,none⟩ b) (a+1) b (q++[(x,y)])∧Fr a vr w (d.setCell ⟨a,1,none⟩ b)∧OwnTo w vr b:=by
 have af:vr.ownBlock≠some a:=fun e=>by have:=(hG.lt a e).1;omega
 have z:=P.grown f af;obtain⟨A,k,c,rfl⟩:=ah;have o:Keep d (d.setCell ⟨a,1,none⟩ b):=Keep.put (z.cell 1 rfl) (NoInt.slice _ _ _) b;have J:∀k,k≠a->(d.setCell ⟨a,1,none⟩ b).heap[k]? =d.heap[k]? :=fun k j=>Below.heap_setCell d ⟨a,1,none⟩ b k j;have aj:(d.setCell ⟨a,1,none⟩ b).1.size=d.1.size:=by simp[World.setCell]
 refine⟨z.set 1 b,⟨_,H.kept (fun g e=>J g (by have:=(H.lt g e).1;omega)),?_⟩,⟨?_,((Keep.be l).trans j).trans o,fun k G r h3=> ?_⟩,fun g e=> ?_⟩
 ·have m:=hS.ke (j.trans o);refine⟨by rw[bE,bE,m.1];rfl,fun i p n=> ?_⟩;rcases dE i q.length with I|I
  ·rw[gA I] at n;obtain⟨t1,U,l1,d1,t2,X,l2,d2,t3,Y,l3,d3,t4,Z,l4,d4,e,G,r⟩:=m.2 i p n;exact⟨t1,U,l1,d1,t2,X,l2,d2,t3,Y,l3,d3,t4,Z,l4,d4,by rw[gA (by have:=m.1;omega)];exact e,G,r⟩
  ·have ae:=(List.getElem?_eq_some_iff.1 n).1;rw[bE,iJ] at ae;obtain rfl:i=q.length:=by omega
   rw[fK aE,azV] at n;have ag:(x,y)=p:=by simpa using n
   subst ag;exact⟨_,_,_,_,_,_,_,_,_,_,_,_,_,_,_,_,by rw[fK (by have:=m.1;omega),m.1,azV];rfl,hx.ke (j.trans o),hy.ke (j.trans o)⟩
 ·have ac:Below a w W:=l.mono (by omega);have ad:Below a W d:=⟨f.os,f.tape,f.output,f.size,fun k j=>f.block k (by have:=l.size;omega) (fun e=>by have:=(hG.lt k e.symm).1;omega)⟩;exact(ac.trans ad).setCell (p:=⟨a,1,none⟩) aE b
 ·rw[J k (by omega),f.block k (by have:=l.size;omega) (fun e=>h3 e.symm)];exact l.block k r
 ·rcases ho with h|h
  ·exact .inl (by rw[<-h];exact e)
  ·rw[h] at e;injection e with e;exact .inr (by have:=l.size;omega)
def yC(wb w:World)(vc vr:Value)(a:List (Rat×Rat))(e:Ending)(w':World):Prop:=∃v',e= .returned (.tuple #[])∧Bx w' wb.1.size [vc,v'] 145∧RowSp w' (wb.1.size+1) v' a∧Fr wb.1.size vr w w'∧OwnTo w vr v'
def PoAt.of{z i j:Bool}{a:Option Addr}{d:Nat}(h:RatAt w (.agg #[.bool i,.slice a f c,.bool j,.slice b g d]) x):PoAt w (.agg #[.bool i,.slice a f c,.bool j,.slice b g d,.int .i64 n,.bool z]) x n z:=⟨_,_,_,_,_,_,_,_,rfl,h⟩
def SpanAt.of{o p q r:Bool}{a c:Option Addr}{l m n j:Nat}(h:RatAt w (.agg #[.bool o,.slice a k f,.bool p,.slice b l g]) x)(s:RatAt w (.agg #[.bool q,.slice c m i,.bool r,.slice d n j]) y):SpanAt w (.agg #[.bool o,.slice a k f,.bool p,.slice b l g,.bool q,.slice c m i,.bool r,.slice d n j]) x y:=⟨_,_,_,_,_,_,_,_,_,_,_,_,_,_,_,_,rfl,h,s⟩
def PoAt.ke{z:Bool}(h:PoAt w v x n z)(a:Keep w w'):PoAt w' v x n z:=by
 obtain⟨j,b,g,d,k,c,i,f,rfl,h⟩:=h;exact⟨_,_,_,_,_,_,_,_,rfl,h.ke a⟩
def GrowD.form3{rows:List (List Value)}(h:GrowD w a e k v rows):∃A n c,v= .slice A n c:=by
 obtain⟨A,c,e, -⟩:=h.form;exact⟨A,_,c,e⟩
def yD(o p q r:Bool)(b c d f:Option Addr)(k g l h m i n j:Nat):∀u∈[Value.bool o,.slice b k g,.bool p,.slice c l h,.bool q,.slice d m i,.bool r,.slice f n j],NoInt u∧u.oneCell'=true:=fun u a=>by
 simp at a;rcases a with rfl|rfl|rfl|rfl|rfl|rfl|rfl|rfl
 ·exact⟨NoInt.bool _,rfl⟩
 ·exact⟨NoInt.slice _ _ _,rfl⟩
 ·exact⟨NoInt.bool _,rfl⟩
 ·exact⟨NoInt.slice _ _ _,rfl⟩
 ·exact⟨NoInt.bool _,rfl⟩
 ·exact⟨NoInt.slice _ _ _,rfl⟩
 ·exact⟨NoInt.bool _,rfl⟩
 ·exact⟨NoInt.slice _ _ _,rfl⟩
section
variable {V:Rat->Nat}{sg:Rat->Int}{K:Nat}{D:Rat->Rat->Prop}{wb:World}{vc:Value}(hG:Glob wb)(hA:uN K D)(hV:∀x,V x<=1024)(hK1:1<=K)(hK2:K<=1073741824)
 (hat:∀(x:Rat) (W:World) (vr vx:Value),Bx W wb.1.size [vc,vr] 145->Below wb.1.size wb W->RatAt W vx x->RL K x->Calls prog 87 #[.pointer (some ⟨wb.1.size,0,none⟩),vx] W fun e w'=>∃v',e= .returned v'∧PoAt w' v' x (V x) (decide (sg x=0))∧Below W.1.size W w')
include hG hA hV hK1 hK2 hat
def ZR{a b:Rat}(h:ExK K D V sg a b l):RL K a->RL K b->∀(T:List (Rat×Rat)) (vr va vb:Value) (w:World),Bx w wb.1.size [vc,vr] 145->Below wb.1.size wb w->RowSp w (wb.1.size+1) vr T->PoAt w va a (V a) (decide (sg a=0))->PoAt w vb b (V b) (decide (sg b=0))->T.length+l.length<=1048576->
  Calls prog 86 #[.pointer (some ⟨wb.1.size,0,none⟩),va,vb] w (yC wb w vc vr (T++l)):=by
 induction h with
 | @none a b h=>
  intro ka kb T vr va vb w P al k i f hl;obtain⟨I,r,E,z,J,s,F,A,rfl,i⟩:=i;obtain⟨L,t,G,B,M,y,H,C,rfl,f⟩:=f;have bi:=hV a;have ap:=hV b;have Q:=P.lt;rw[fH];have hn:((V a:Nat):Int)-((V b:Nat):Int)<=0:=by omega
  generalize decide (sg a=0)=za at *;generalize decide (sg b=0)=zb at *;generalize V a=R at *;generalize V b=S at *;clear hat;obtain⟨W,n,c,X,Y⟩:=eL w [.bool I,.slice r E z,.bool J,.slice s F A,.int .i64 (R:Int),.bool za] 148 [.bool L,.slice t G B,.bool M,.slice y H C,.int .i64 (S:Int),.bool zb] 148;have cM:=aa X.g6 Y.g6;go_enter func86,ntmps86;go_wp2_with fail;(try rw[n]);clear n;exact aM (v:= .tuple #[]) (by simp[results,results86,go_sem]) rfl ⟨vr,rfl,P.be c,k.be c,Fr.of c (iE Q),fun g e=> .inl e⟩
 | @hit a b h ai=>
  intro ka kb T vr va vb w P al k i f hl;obtain⟨I,r,E,z,J,s,F,A,rfl,i⟩:=i;obtain⟨L,t,G,B,M,y,H,C,rfl,f⟩:=f;have ap:=hV b;have Q:=P.lt;have p:=k.lt;obtain⟨U,ac,ah⟩:=k;obtain⟨Ar,cr,rfl,bk⟩:=ac.form;have hN:((V a:Nat):Int)-((V b:Nat):Int)=1:=by omega
  clear h;have a0:=ah.1;have a1:U.length<=1073741824:=by omega
  clear a0;have am:decide (sg b=0)=true:=decide_eq_true ai;rw[am];clear am ai;generalize decide (sg a=0)=za at *;generalize V a=R at *;generalize V b=S at *;clear hat;obtain⟨W,n,c,X,Y⟩:=eL w [.bool I,.slice r E z,.bool J,.slice s F A,.int .i64 (R:Int),.bool za] 148 [.bool L,.slice t G B,.bool M,.slice y H C,.int .i64 (S:Int),.bool true] 148;have cM:=aa X.g6 Y.g6;go_enter func86,ntmps86;go_wp2_with fail;(try rw[n]);clear n;have:=St.mk c;have aq:(Value.slice Ar U.length cr).ownBlock≠some w.1.size:=fun e=>by have:=(p _ e).2;omega
  have ad:(Value.slice Ar U.length cr).ownBlock≠some (w.1.size+1):=fun e=>by have:=(p _ e).2;omega
  have ao:(Value.slice Ar U.length cr).ownBlock≠some wb.1.size:=fun e=>by have:=(p _ e).1;omega
  have n1:wb.1.size≠w.1.size:=by omega
  have n2:wb.1.size≠w.1.size+1:=by omega
  have cP:=(P.up (b:=W.drew)).k2;have a9:=(P.up (b:=W)).cell 1 rfl;have dP:=fun o:Obj=>((P.up (b:=W.drew)).alloc o).cell 1 rfl;have l1:wb.1.size<W.1.size:=(P.up (b:=W)).lt;have l2:wb.1.size≠W.1.size:=bxQ l1;have l3:W.1.size≠wb.1.size:=Nat.ne_of_gt l1;have cX:=X.k6;have cY:=Y.k6;have aw:=X.lt;have ax:=Y.lt;have bn:=bxQ aw;have bo:=bxQ ax
  go_region_law (first
    |(refine LB (by rfl) (by rfl) 76 8 128 _ underlying87 L6 rfl yB (by decide) (by decide) (by rfl) ac.up (by rfl) (Bx.new _ _ _) rfl (yD _ _ _ _ _ _ _ _ _ _ _ _ _ _ _ _) a1 (by have:=c.size;simp;omega) ?_;intro v9 w9 ag av O az;obtain⟨A9,L9,m9,rfl⟩:=ag.form3;have X9:=Bx.grown X.up O aq;have Y9:=Bx.grown Y.up O ad;have P9:=Bx.grown P.up O ao;have c9:=P9.g2;have bf:=X9.k6;have bg:=Y9.k6;have SP:=L7 (Up.out (a:=w)) Q P.up ⟨_,_,_,rfl⟩ ac.up (ah.ke (Keep.be (Up.out (a:=w)))) f.up f.up ag av O az))
  all_goals (
   go_wp2_with fail;obtain⟨z1,z2,z3,z4⟩:=SP;exact aM (v:= .tuple #[]) (by simp[results,results86,go_sem]) rfl ⟨_,rfl,z1,z2,z3,z4⟩)
 | @one a b h ai a2=>
  intro ka kb T vr va vb w P al k i f hl;obtain⟨I,r,E,z,J,s,F,A,rfl,i⟩:=i;obtain⟨L,t,G,B,M,y,H,C,rfl,f⟩:=f;have ap:=hV b;have Q:=P.lt;have p:=k.lt;obtain⟨U,ac,ah⟩:=k;obtain⟨Ar,cr,rfl,bk⟩:=ac.form;have hN:((V a:Nat):Int)-((V b:Nat):Int)=1:=by omega
  clear h;have a0:=ah.1;have a1:U.length<=1073741824:=by omega
  clear a0;have am:decide (sg b=0)=false:=decide_eq_false ai;have a5:decide (sg a=0)=false:=decide_eq_false a2;rw[am,a5];clear am ai a5 a2;generalize V a=R at *;generalize V b=S at *;clear hat;obtain⟨W,n,c,X,Y⟩:=eL w [.bool I,.slice r E z,.bool J,.slice s F A,.int .i64 (R:Int),.bool false] 148 [.bool L,.slice t G B,.bool M,.slice y H C,.int .i64 (S:Int),.bool false] 148;have cM:=aa X.g6 Y.g6;go_enter func86,ntmps86;go_wp2_with fail;(try rw[n]);clear n;have:=St.mk c;have aq:(Value.slice Ar U.length cr).ownBlock≠some w.1.size:=fun e=>by have:=(p _ e).2;omega
  have ad:(Value.slice Ar U.length cr).ownBlock≠some (w.1.size+1):=fun e=>by have:=(p _ e).2;omega
  have ao:(Value.slice Ar U.length cr).ownBlock≠some wb.1.size:=fun e=>by have:=(p _ e).1;omega
  have n1:wb.1.size≠w.1.size:=by omega
  have n2:wb.1.size≠w.1.size+1:=by omega
  have cP:=(P.up (b:=W.drew)).k2;have a9:=(P.up (b:=W)).cell 1 rfl;have dP:=fun o:Obj=>((P.up (b:=W.drew)).alloc o).cell 1 rfl;have l1:wb.1.size<W.1.size:=(P.up (b:=W)).lt;have l2:wb.1.size≠W.1.size:=bxQ l1;have l3:W.1.size≠wb.1.size:=Nat.ne_of_gt l1;have cX:=X.k6;have cY:=Y.k6;have aw:=X.lt;have ax:=Y.lt;have bn:=bxQ aw;have bo:=bxQ ax
  go_region_law (first
    |(refine LB (by rfl) (by rfl) 76 8 128 _ underlying87 L6 rfl yB (by decide) (by decide) (by rfl) ac.up (by rfl) (Bx.new _ _ _) rfl (yD _ _ _ _ _ _ _ _ _ _ _ _ _ _ _ _) a1 (by have:=c.size;simp;omega) ?_;intro v9 w9 ag av O az;obtain⟨A9,L9,m9,rfl⟩:=ag.form3;have X9:=Bx.grown X.up O aq;have Y9:=Bx.grown Y.up O ad;have P9:=Bx.grown P.up O ao;have c9:=P9.g2;have bf:=X9.k6;have bg:=Y9.k6;have SP:=L7 (Up.out (a:=w)) Q P.up ⟨_,_,_,rfl⟩ ac.up (ah.ke (Keep.be (Up.out (a:=w)))) i.up f.up ag av O az))
  all_goals (
   go_wp2_with fail;obtain⟨z1,z2,z3,z4⟩:=SP;exact aM (v:= .tuple #[]) (by simp[results,results86,go_sem]) rfl ⟨_,rfl,z1,z2,z3,z4⟩)
 | @split a b l m h h' hd hk bm hm a6 a7=>
  intro ka kb T vr va vb w P al k i f hl;obtain⟨I,r,E,z,J,s,F,A,rfl,i⟩:=i;obtain⟨L,t,G,B,M,y,H,C,rfl,f⟩:=f;have bi:=hV a;have ap:=hV b;have Q:=P.lt;have p:=k.lt;have ay:=fun W hG h=>ZW D a b (.agg #[.bool I,.slice r E z,.bool J,.slice s F A,.bool L,.slice t G B,.bool M,.slice y H C]) W hG h K ka kb hK1 hK2 hA hd;have a3:=fun W vx P c h=>hat ((a+b)/2) W vr vx P c h hk;have i1:=fun vm W P c k h1 h2=>a6 ka hk T vr (.agg #[.bool I,.slice r E z,.bool J,.slice s F A,.int .i64 (V a:Int),.bool (decide (sg a=0))]) vm W P c k h1 h2 (by rw[bE] at hl;omega);have i2:=fun v1 vm W P c k h1 h2=>a7 hk kb (T++l) v1 vm (.agg #[.bool L,.slice t G B,.bool M,.slice y H C,.int .i64 (V b:Int),.bool (decide (sg b=0))]) W P c k h1 h2 (by rw[bE] at hl⊢;omega);have bh:¬((V a:Nat):Int)-((V b:Nat):Int)<=0:=by omega
  have hZ:((V a:Nat):Int)-((V b:Nat):Int)=1->decide (sg a=0)=true∧decide (sg b=0)=false:=fun e=>⟨decide_eq_true (h' (by omega)).2,decide_eq_false (h' (by omega)).1⟩;have a4:Glob w:=hG.be al;have ae:=fun (W':World) (u:Below w.1.size w W')=>al.trans (u.mono (iE Q));rw[<-eK];unfold iF at ay;unfold yC at i1 i2;unfold yC;clear a6 a7 hat hV h h' hl hk bm hm ka kb hG hA hd;generalize (a+b)/2=a8 at *;generalize decide (sg a=0)=za at *;generalize decide (sg b=0)=zb at *;generalize decide (sg a8=0)=zm at *;generalize V a=R at *;generalize V b=S at *;generalize V a8=nm at *;obtain⟨N,hN⟩:∃N:Int,(R:Int)-(S:Int)=N:=⟨_,rfl⟩;rw[hN] at hZ bh;have bq:IntKind.i64.wrap N=N:=IntWalk.i64_in _ ⟨by omega,by omega⟩;have bp: -1024<=N∧N<=1024:=by omega
  have ad:vr.ownBlock≠some (w.1.size+1):=fun e=>by have:=(p _ e).2;omega
  by_cases an:N=1
  ·obtain⟨rfl,rfl⟩:=hZ an;subst an;clear hZ;obtain⟨W,n,c,X,Y⟩:=eL w [.bool I,.slice r E z,.bool J,.slice s F A,.int .i64 (R:Int),.bool true] 148 [.bool L,.slice t G B,.bool M,.slice y H C,.int .i64 (S:Int),.bool false] 148;have cM:=aa X.g6 Y.g6;go_enter func86,ntmps86;go_wp2_with fail;(try rw[n]);clear n;have bj:=c.size;have:=St.mk c;refine(ay _ (a4.be c) (SpanAt.of i.up f.up)).mono ?_;rintro e5 w5 ⟨v5,rfl,h5,aj⟩;have:=St.mk aj;obtain⟨s5,A5,k5,c5,s6,A6,k6,c6,rfl⟩:=h5.form;have ba:=aa (X.up (b:=w5)).k6 (Y.up (b:=w5)).k6;go_wp2_with fail;refine(a3 _ _ P.up (ae _ (Up.out (a:=w))) h5).mono ?_;rintro e6 w6 ⟨v6,rfl,h6,ak⟩;have:=St.mk ak;obtain⟨s7,A7,k7,c7,s8,A8,k8,c8,rfl,h7⟩:=h6;obtain⟨q,e7,au,Z⟩:=bI w6 [.bool s7,.slice A7 k7 c7,.bool s8,.slice A8 k8 c8,.int .i64 (nm:Int),.bool zm] 148;have:=St.mk au;have d:=Up.out (a:=w) (b:=q);have X7:=X.up (b:=q);have Y7:=Y.up (b:=q);have bb:=aa X7.k6 (aa Y7.k6 Z.k6);have s6:=ak.size;have s5:=aj.size;go_wp2_with fail;(try rw[e7]);(try clear e7);refine(i1 _ q (P.be d) (ae _ d) (k.be d) (PoAt.of (i.be d)) (PoAt.of h7.up)).mono ?_;rintro e8 w8 ⟨v8,rfl,P8,R8,j,O8⟩;have ar:vr.ownBlock≠some w6.1.size:=fun e=>by have:=(p _ e).2;omega
   have Y8:=Y7.fr j (by omega) ad;have Z8:=Z.fr j (by omega) ar;have bc:=aa Y8.k6 Z8.k6;go_wp2_with fail;refine(i2 v8 _ w8 P8 ((ae _ d).trans j.be) R8 (PoAt.of ((h7.up (b:=q)).ke j.ke)) (PoAt.of ((f.be d).ke j.ke))).mono ?_;rintro e9 w9 ⟨v9,rfl,P9,R9,F9,O9⟩;have af:OwnTo w vr v8:=fun g e=>(O8 g e).imp id (fun h=>aH d.size h);go_wp2_with fail;exact bodyPost_end (v:= .tuple #[]) (by simp[results,results86,go_sem]) rfl ⟨v9,rfl,P9,R9,((Fr.of d (iE Q)).trans j (fun g e=> .inl e)).trans F9 af,af.trans O9 (aH d.size j.be.size)⟩
  ·have q1:(N==1)=false:=by simpa using an
   clear hZ an;obtain⟨W,n,c,X,Y⟩:=eL w [.bool I,.slice r E z,.bool J,.slice s F A,.int .i64 (R:Int),.bool za] 148 [.bool L,.slice t G B,.bool M,.slice y H C,.int .i64 (S:Int),.bool zb] 148;have cM:=aa X.g6 Y.g6;go_enter func86,ntmps86;go_wp2_with fail;(try rw[n]);clear n;have bj:=c.size;have:=St.mk c;refine(ay _ (a4.be c) (SpanAt.of i.up f.up)).mono ?_;rintro e5 w5 ⟨v5,rfl,h5,aj⟩;have:=St.mk aj;obtain⟨s5,A5,k5,c5,s6,A6,k6,c6,rfl⟩:=h5.form;have ba:=aa (X.up (b:=w5)).k6 (Y.up (b:=w5)).k6;go_wp2_with fail;refine(a3 _ _ P.up (ae _ (Up.out (a:=w))) h5).mono ?_;rintro e6 w6 ⟨v6,rfl,h6,ak⟩;have:=St.mk ak;obtain⟨s7,A7,k7,c7,s8,A8,k8,c8,rfl,h7⟩:=h6;obtain⟨q,e7,au,Z⟩:=bI w6 [.bool s7,.slice A7 k7 c7,.bool s8,.slice A8 k8 c8,.int .i64 (nm:Int),.bool zm] 148;have:=St.mk au;have d:=Up.out (a:=w) (b:=q);have X7:=X.up (b:=q);have Y7:=Y.up (b:=q);have bb:=aa X7.k6 (aa Y7.k6 Z.k6);have s6:=ak.size;have s5:=aj.size;go_wp2_with fail;(try rw[e7]);(try clear e7);refine(i1 _ q (P.be d) (ae _ d) (k.be d) (PoAt.of (i.be d)) (PoAt.of h7.up)).mono ?_;rintro e8 w8 ⟨v8,rfl,P8,R8,j,O8⟩;have ar:vr.ownBlock≠some w6.1.size:=fun e=>by have:=(p _ e).2;omega
   have Y8:=Y7.fr j (by omega) ad;have Z8:=Z.fr j (by omega) ar;have bc:=aa Y8.k6 Z8.k6;go_wp2_with fail;refine(i2 v8 _ w8 P8 ((ae _ d).trans j.be) R8 (PoAt.of ((h7.up (b:=q)).ke j.ke)) (PoAt.of ((f.be d).ke j.ke))).mono ?_;rintro e9 w9 ⟨v9,rfl,P9,R9,F9,O9⟩;have af:OwnTo w vr v8:=fun g e=>(O8 g e).imp id (fun h=>aH d.size h);go_wp2_with fail;exact bodyPost_end (v:= .tuple #[]) (by simp[results,results86,go_sem]) rfl ⟨v9,rfl,P9,R9,((Fr.of d (iE Q)).trans j (fun g e=> .inl e)).trans F9 af,af.trans O9 (aH d.size j.be.size)⟩
end
end Go.Proofs.YtpjpfjephpgcbaaGreatDoor
namespace Go.Proofs.YtpjpfjephpgcbaaGreatDoor
open Sos
variable{a s w:List Int}
def jF(A:List Rat):Rat:=lF (cf A (A.length-1)) (A.take (A.length-1))+1
def KW{A:List Rat}(h:Prp A a)(l:aN a)(i:a≠[]):rZ a=jF A:=by
 obtain⟨c,j,rfl⟩:=h.eq_smul;have f:=(fT i).1 l;have k:(1:Rat)/c≠0:=by
  intro e;have:(1:Rat)/c*c=1:=by rw[gW j]
  rw[e,aqQ] at this;exact absurd this (by decide)
 have g:=Z2 f k (a.take (a.length-1));have b:∀n:Int,(n:Rat)/(1/c)=c*(n:Rat):=fun n=>by grind
 have d:(a.take (a.length-1)).map (fun n:Int=>(n:Rat)/(1/c))=(aT c a).take (a.length-1):=by
  unfold aT;rw[<-List.map_take];exact by3 (fun n _=>b n)
 rw[b,d] at g;unfold rZ jF;rw[fX,dS,g]
def ZE:aT 1 [-2,0,1]=[-2,0,1]:=by
 unfold aT;simp only[fM,aqJ,azF];rfl
def D6:Prp [-2,0,1] [-2,0,1]:=by
 have h:=jY (c:=1) (l:=[-2,0,1]) (by decide) (oB rfl);rw[show([-2,0,1]:List Int).map (fun n:Int=>(1:Rat)*(n:Rat))=[-2,0,1] from ZE] at h;exact h
def ZF:jF [-2,0,1]=3:=by
 rw[<-KW D6 (oB rfl) (by simp)];have a:jE (([-2,0,1]:List Int).take (([-2,0,1]:List Int).length-1))=2:=by decide
 have b:((cf ([-2,0,1]:List Int) (([-2,0,1]:List Int).length-1)).natAbs:Int)=1:=by decide
 unfold rZ;rw[a,b];have c:((2:Int):Rat)=2:=rfl;have d:((1:Int):Rat)=1:=rfl;rw[c,d];grind
def ZG:Pw 3 2:=by
 refine⟨by decide,fun m a=> ?_⟩;rcases(show m=0∨m=1 by omega) with rfl|rfl<;>decide
def ZH{c:List (List Int)}(f:Prp [-2,0,1] w)(h:Cn 110079 w s c):ExK 110079 y7 (fun x=>aY 0 ((s :: c).map (fun a=>aP a 0 x))) (fun x=>aP s 0 x) (((-((2:Int)^2):Int)):Rat) ((((2:Int)^2:Int)):Rat) [(-4,0),(0,4)]:=by
 have b:(((-((2:Int)^2):Int)):Rat)= -4:=by decide
 have d:((((2:Int)^2:Int)):Rat)=4:=by decide
 rw[b,d];have k:=fun x=>h.same KQ (by decide) (by decide) f D6 0 x;obtain⟨l,m,n⟩:=Z6;obtain⟨g,i,j⟩:=Z7;refine(Z3 ⟨?_,?_,?_⟩ ⟨fun e=> ?_,fun e=> ?_,fun e=> ?_⟩).mono (by decide)
 ·exact(k (-4)).1.trans l
 ·exact(k 0).1.trans m
 ·exact(k 4).1.trans n
 ·rw[(k (-4)).2,g] at e;exact absurd e (by decide)
 ·rw[(k 0).2,i] at e;exact absurd e (by decide)
 ·rw[(k 4).2,j] at e;exact absurd e (by decide)
end Go.Proofs.YtpjpfjephpgcbaaGreatDoor
namespace Go.Proofs.YtpjpfjephpgcbaaGreatDoor
open Go.RowKit Sos Tryz
variable{n:Int}{B K c d g i:Nat}{b w w':World}{u v:Value}{s z:Bool}{A:Option Addr}{l:List (List UInt8×List UInt8)}{ns:List Int}
def ay7(j:Nat):nl ((2:Int)^j).natAbs<=j/64+1:=by
 rw[Int.natAbs_pow]
 exact cJ (by
  have e:BN^(j/64+1)=2^(64*(j/64+1)):=by rw[azL];rfl
  rw[e];exact by9 (by decide) (by omega))
def uW(h:nl n.natAbs<=K)(a:1<=K):RL K (n:Rat):=⟨by rw[Rat.num_intCast];exact h,by rw[Rat.den_intCast];exact aH (cJ (m:=1) (by unfold BN;decide)) a⟩
def LU(x y:Rat):(x-y).num.sign<0↔x<y:=by
 rcases iY (x-y) with h|h|h
 ·rw[(fS _).2 h];exact⟨fun _=>by grind,fun _=>by decide⟩
 ·rw[h];exact⟨fun k=>absurd k (by decide),fun k=>by grind⟩
 ·rw[(fS _).1 h];exact⟨fun k=>absurd k (by decide),fun k=>by grind⟩
def Bx.old{cs:List Value}{t:TypeId}(h:Bx w g cs t)(a:Below B w w')(b:g<B):Bx w' g cs t:=(a.block g b).trans h
def PoAt.upp{a:World}[u:Up a b]{x:Rat}(h:PoAt a v x n z):PoAt b v x n z:=h.ke (Keep.be u.out)
def DT(w:World)(P:List (Rat×Rat)->Prop)(e:Ending)(w':World):Prop:=∃a b l,e= .returned a∧P l∧RowSp w' b a l∧Below w.1.size w w'
def ay8(s:List Int)(b:Rat)(n K:Nat)(P:List (Rat×Rat)->Prop)(v u:Value)(w:World)(Q:Glob w)(hv:WholeAt w v s)(hu:RatAt w u b)(ts:aN s)(h0:s≠[])(Y:Sz s)(am:Pw b n)(hn:n<=1000)(kb:RL 110079 b)(av:110079<=K)(aw:K<=1073741824)(D:Rat->Rat->Prop)(hA:uN K D)
  (al:∀c,StT 110079 s (aS (bB s)) c->∃l,ExK K D (fun x=>aY 0 ((s :: c).map (fun a=>aP a 0 x))) (fun x=>aP s 0 x) (((-((2:Int)^n):Int)):Rat) ((((2:Int)^n:Int)):Rat) l∧l.length<=1048576∧P l):
  Calls prog 38 #[v,u] w (DT w P):=by
 obtain⟨A,c,rfl,hc⟩:=hv.form;obtain⟨s1,H,Z,J,s2,I,k2,L,rfl⟩:=hu.form;have ad:=fun W Q h=>KE s (.slice A s.length c) W Q h ts h0 Y;have td:=gV (lE ts);have kd:∀n∈aS (bB s),nl n.natAbs<=110079:=fun n hn=>by
  obtain⟨K,hK,av,aw, -⟩:=Y.ex;exact aH (gU (pL hK (by have:=Y.1;omega)) n hn) (by omega)
 have ld:(aS (bB s)).length=s.length-1:=by rw[dF,lZ]
 have ak:∀c,StT 110079 s (aS (bB s)) c->(s :: c).length<=8∧∀a∈s :: c,a≠[]∧a.length<=65∧∀n∈a,nl n.natAbs<=110079:=fun c h=>by
  have B:=h.len;have h7:=Y.1;refine⟨by rw[eG];omega,fun a ha=> ?_⟩;rcases List.mem_cons.1 ha with rfl|ha
  ·exact⟨h0,by omega,fun n hn=>aH (Y.nums n hn) (by omega)⟩
  ·obtain⟨e1,M,e3,e4⟩:=h.mem td kd a ha;exact⟨e1,by omega,e4⟩
 unfold y6 at ad;unfold DT;clear td kd ld;obtain⟨W,eW,d,X⟩:=bI w [.bool s1,.slice H Z J,.bool s2,.slice I k2 L] 71;have cM:=X.g4;go_enter func38,ntmps38;go_wp2_with fail;(try rw[eW]);clear eW;refine(lL 1 _ (by decide) (by decide)).mono ?_;rintro e1 w1 ⟨v1,rfl,B,af⟩;obtain⟨m,f,i,g,rfl⟩:=B.form;obtain⟨w2,M,ax,G⟩:=bI w1 [.bool m,.slice f i g] 67;have p:=aC af ax;have bv:=X.lt;have bw:=af.size;have bx:w.1.size<w1.1.size:=by omega
 replace X:=X.be p;replace d:=aC d p;have au:IntBx w2 w1.1.size ((2:Int)^0):=⟨_,_,_,_,G,B.be ax⟩;clear G B;go_wp2_with fail;(try rw[M]);(try clear M);generalize w1.1.size=O at *;go_loopg [] n (fun k wr=>∃j,Hid (j+k=n)∧IntBx wr O ((2:Int)^j)∧Bx wr w.1.size [.bool s1,.slice H Z J,.bool s2,.slice I k2 L] 71∧Below w.1.size w wr)
 case atStart=>exact⟨0,by unfold Hid;omega,au,X,d⟩
 case round=>
  clear au X d;obtain⟨j,HJ,⟨m,f,i,g,G,V⟩,X,d⟩:=hrel;generalize wr=wy at *;have bz:j<=n:=by have:=HJ.out;omega
  have kp:nl ((2:Int)^j).natAbs<=20:=aH (ay7 j) (by omega);have U:=fun W v h h'=>BY (((2:Int)^j:Int):Rat) b v (.agg #[.bool s1,.slice H Z J,.bool s2,.slice I k2 L]) W h h' 110079 (uW (aH kp (by decide)) (by decide)) kb (by decide);have ae:=fun W h=>BZ ((2:Int)^j) (.agg #[.bool m,.slice f i g]) W h;obtain⟨S,hS⟩:∃S,((((2:Int)^j:Int):Rat)-b).num.sign=S:=⟨_,rfl⟩;have R:=LU (((2:Int)^j:Int):Rat) b;rw[hS] at R U;unfold eO at U;unfold iF at ae;have aj:=hu.be d;have bu:=Q.be d;have b3:=hv.be d;have:=d;cases gk with
  |succ k=>
   have b1:S<0:=R.2 (am.2 j (by have:=HJ.out;omega));clear R hS ad al ak;have an:∀W,IntAt W (.agg #[.bool m,.slice f i g]) ((2:Int)^j)->Calls prog 84 #[.agg #[.bool m,.slice f i g],.int .u64 1] W (dW W ((2:Int)^j*2^1)):=fun W h=>YZ ((2:Int)^j) 1 (.agg #[.bool m,.slice f i g]) W h (by decide) (by omega);have M:(2:Int)^j*2^1=2^(j+1):=by rw[gR];rfl
   rw[M] at an;unfold dW at an;go_wp2_with fail
   go_region_held3 (fun t=>C2 t O (.bool m) (.slice f i g)∧C4 t w.1.size (.bool s1) (.slice H Z J) (.bool s2) (.slice I k2 L)) (with_reducible exact⟨G.up.k2,X.up.k4⟩)
    (first
     |(go_at_call 83;refine(ae _ V.up).mono ?_;rintro e4 w4 ⟨v4,rfl,h4,ag⟩;have:=St.mk ag)
     |(go_at_call 53;refine(U _ _ h4.up aj.up).mono ?_;rintro e5 o ⟨rfl,ah⟩;have:=St.mk ah))
   all_goals (
    have y:=G.up (b:=o);have X5:=X.up (b:=o);have a6:=aa y.g2 X5.k4;have q:=bJ (b:=o) d;go_wp2_with fail;refine(an _ (V.up (b:=o))).mono ?_;rintro e6 e ⟨v6,rfl,C,r⟩;obtain⟨s6,A6,k6,c6,rfl⟩:=C.form;have z:=y.be r;have X6:=X5.be r;have bp:=aa z.g2 X6.k4;have T:=aC q r;go_wp2_with fail;obtain⟨W7,N,G7,ai,hk,ff⟩:=z.put2 T (by omega) (.bool s6) (.slice A6 k6 c6) rfl rfl;rw[N];clear N;go_roundg k
    case rel=>exact⟨j+1,by have:=HJ.out;unfold Hid;omega,⟨_,_,_,_,G7,C.ke hk⟩,ff X6 (by omega),ai⟩
    case measure=>omega)
  |zero=>
   obtain rfl:j=n:=HJ.out;have b2:¬S<0:=fun h=>by have:=R.1 h;have:=am.1;grind
   clear R hS;go_wp2_with fail
   go_region_held3 (fun t=>C2 t O (.bool m) (.slice f i g)∧C4 t w.1.size (.bool s1) (.slice H Z J) (.bool s2) (.slice I k2 L)) (with_reducible exact⟨G.up.k2,X.up.k4⟩)
    (first
     |(go_at_call 83;refine(ae _ V.up).mono ?_;rintro e4 w4 ⟨v4,rfl,h4,ag⟩;have:=St.mk ag)
     |(go_at_call 53;refine(U _ _ h4.up aj.up).mono ?_;rintro e5 o ⟨rfl,ah⟩;have:=St.mk ah))
   all_goals (
    have y:=G.up (b:=o);have q:=bJ (b:=o) d;have a6:=y.k2;have ay:=V.up (b:=o);clear ae U G X V aj;go_wp2_with fail;refine(ad _ (Q.be q) (hv.be q)).mono ?_;rintro e6 e ⟨v6,c,rfl,C,hT,r⟩;have z:=y.be r;have az:=ay.be r;have T:=aC q r;obtain⟨b0,E⟩:=ak c hT;obtain⟨l,a3,hl,hP⟩:=al c hT;have aq:=aB a3;have HP:=aB hP;replace E:=fun a h=>(⟨(E a h).1,(E a h).2.1,fun n hn=>aH ((E a h).2.2 n hn) av⟩:a≠[]∧a.length<=65∧∀n∈a,nl n.natAbs<=K);clear a3 hP;obtain⟨Ac,cc,rfl, -⟩:=C.form;clear ad al ak hT;have bj:O<e.1.size:=z.lt;have a0:=fun W h=>sQ ((2:Int)^j) (.agg #[.bool m,.slice f i g]) W h (aH kp (by decide));have a1:=fun W v h=>BZ (-((2:Int)^j)) v W h;have a2:=fun W h=>BZ ((2:Int)^j) (.agg #[.bool m,.slice f i g]) W h;have kn:RL K ((-((2:Int)^j):Int):Rat):=uW (by rw[azJ];exact aH kp (by omega)) (by omega);have kq:RL K (((2:Int)^j:Int):Rat):=uW (aH kp (by omega)) (by omega);have ac:=fun (x:Rat) (W:World) (vr F:Value) (P:Bx W e.1.size [.slice Ac (s :: c).length cc,vr] 145) (d:Below e.1.size e W) (h:RatAt W F x) (hk:RL K x)=>ax1 s c o.1.size e.1.size x (.slice Ac (s :: c).length cc) vr F W P (C.be d) h (by omega) K E hk (by omega);have hV:∀x:Rat,aY 0 ((s :: c).map (fun a=>aP a 0 x))<=1024:=fun x=>by have:=qR ((s :: c).map (fun a=>aP a 0 x)) 0;rw[cH] at this;omega
    have ao:=fun va vb W P p hR B h2=>ZR (wb:=e) (vc:= .slice Ac (s :: c).length cc) (Q.be T) hA hV (by omega) aw ac aq.out kn kq [] (.slice none 0 0) va vb W P p hR B h2 (by rw[azS];omega);have ba:=fun W F P p h=>ac ((-((2:Int)^j):Int):Rat) W (.slice none 0 0) F P p h kn;have bb:=fun W F P p h=>ac (((2:Int)^j:Int):Rat) W (.slice none 0 0) F P p h kq;rw[iM] at ao;unfold yC at ao;unfold dW at a0;unfold iF at a1 a2;clear ac aq hV E kb am kn kq C y ay;generalize (s :: c).length=nc at *;generalize aY 0 ((s :: c).map (fun a=>aP a 0 ((-((2:Int)^j):Int):Rat)))=Vn at *;generalize aY 0 ((s :: c).map (fun a=>aP a 0 (((2:Int)^j:Int):Rat)))=Vp at *;generalize decide (aP s 0 ((-((2:Int)^j):Int):Rat)=0)=Zn at *;generalize decide (aP s 0 (((2:Int)^j:Int):Rat)=0)=Zp at *;generalize ((-((2:Int)^j):Int):Rat)=xn at *;generalize (((2:Int)^j:Int):Rat)=xp at *;generalize (-((2:Int)^j))=pn at *;go_wp2_with fail;obtain⟨w7,N,ai,P⟩:=bI e [.slice Ac nc cc,.slice none 0 0] 145;rw[N];clear N;have:=St.mk ai;have cP:=P.g2
    go_region_held3 (fun t=>C2 t O (.bool m) (.slice f i g)) (first|(with_reducible exact z.up.k2)|(with_reducible exact G9.k2))
     (first
      |(go_at_call 68;refine(a0 _ az.up).mono ?_;rintro e8 w8 ⟨v8,rfl,h8,bh⟩;have:=St.mk bh)
      |(go_at_call 83;first|(with_reducible refine(a2 _ az.up).mono ?_;rintro e9 w9 ⟨v9,rfl,h9,bi⟩;have:=St.mk bi)|(with_reducible refine(a1 _ _ h8.up).mono ?_;rintro bq b8 ⟨b4,rfl,a7,bc⟩;have:=St.mk bc))
      |(go_at_call 87;first|(with_reducible refine(bb _ _ P.up (Up.out (a:=e)) h9.up).mono ?_;rintro br b9 ⟨b5,rfl,a8,bf⟩;have:=St.mk bf)|(with_reducible refine(ba _ _ P.up (Up.out (a:=e)) a7.up).mono ?_;rintro bs ca ⟨b6,rfl,a9,bg⟩;have:=St.mk bg))
      |(go_at_call 86;refine(ao _ _ _ P.up (Up.out (a:=e)) (RowSp.nil _ _) (a9.upp) (a8.upp)).mono ?_;rintro bt cb ⟨b7,rfl,a5,ar,ap,bm⟩;have G9:=Bx.old z.up ap.be bj;have a4:=(Up.out (a:=e)).trans ap.be;have bn:=a5.k2;obtain⟨bk,bo,rfl, -⟩:=ar.form))
    all_goals (
     go_wp2;go_ret;exact⟨_,_,l,rfl,HP.out,ar,aC T a4⟩))
def dM(a:List (List UInt8)):Int:=if vl a=true then (if a=[] then 5 else 0) else 1
def uL(a:List (List UInt8)):dM a=0∧vl a=true∧a≠[]∨dM a=1∧vl a=false∨dM a=5∧vl a=true∧a=[]:=by
 unfold dM;cases vl a with
 |false=>exact .inr (.inl ⟨rfl,rfl⟩)
 |true=>
  by_cases h:a=[]
  ·exact .inr (.inr ⟨by rw[if_pos rfl,if_pos h],rfl,h⟩)
  ·exact .inl ⟨by rw[if_pos rfl,if_neg h],rfl,h⟩
def DC(a:List (List UInt8)):dM a=0∧vl a=true∧(oP a).length≠0∧oP a=aU a∨dM a=1∧vl a=false∧oP a=[]∨dM a=5∧vl a=true∧oP a=[]:=by
 have f:(aU a).length=a.length:=cH _;rcases uL a with ⟨c,b,d⟩|⟨c,b⟩|⟨c,b,d⟩
 ·exact .inl ⟨c,b,by rw[tW b,f];exact fun e=>d (bX e),tW b⟩
 ·exact .inr (.inl ⟨c,b,xO b⟩)
 ·exact .inr (.inr ⟨c,b,by rw[tW b,d];rfl⟩)
def ZA(v:Value):Prop:=∃s A k c,v= .agg #[.bool s,.slice A k c]
def ZC(w':World)(a:List (List UInt8))(E:Int)(v b:Value):Prop:=E=0->∃D,vl a=true∧a≠[]∧ComDen (aU a) D 8∧WholeAt w' v (cC (aU a) D)∧IntAt w' b D
def uK(w:World)(a:List (List UInt8))(e:Ending)(w':World):Prop:=∃A k c b,e= .returned (.tuple #[.slice A k c,b,.int .i64 (dM a)])∧ZA b∧ZC w' a (dM a) (.slice A k c) b∧Below w.1.size w w'
def NatAt.uniqI{a b:Nat}(m:NatAt w u a)(n:NatAt w u b):a=b:=by
 obtain⟨A,c,rfl,_,r,_⟩:=m;obtain⟨t,v,e,_,s,_⟩:=n;simp only[Value.slice.injEq] at e;obtain⟨rfl,x,_⟩:=e;have q:dg a=dg b:=by
  refine aq6 (fun i=> ?_);by_cases f:i<nl a
  ·have j:i<nl b:=by omega
   rcases r with h|⟨g,z,rfl,_,o⟩
   ·rw[<-aK,h] at f;simp at f
   ·rcases s with h|⟨y,B,l,_,p⟩
    ·rw[<-aK,h] at j;simp at j
    ·simp only[Option.some.injEq,Addr.mk.injEq] at l;obtain⟨rfl,rfl,_⟩:=l;have k:=o i (by rw[aK];exact f);have d:=p i (by rw[aK];exact j);rw[k] at d;simp only[Option.some.injEq,Value.int.injEq,true_and] at d;rw[aR (by rw[aK];exact f),aR (by rw[aK];exact j)];rw[eE,eE,aR (by rw[aK];exact f),aR (by rw[aK];exact j)] at d;exact congrArg some d
  ·rw[fU (by rw[aK];omega),fU (by rw[aK];omega)]
 have k:=cU a;have d:=cU b;rw[q,d] at k;omega
def IntAt.uniqI{x y:Int}(c:IntAt w v x)(d:IntAt w v y):x=y:=by
 obtain⟨u,rfl,a⟩:=c;obtain⟨g,e,b⟩:=d;simp at e;obtain⟨f,rfl⟩:=e;have:=a.uniqI b;omega
def WholeAt.offI{l:Nat}{x m:Int}(h:WholeAt w (.slice A l c) (x :: ns))(q:IntBx w g m)(t:x≠m):∀b,A=some ⟨b,0,none⟩->b≠g:=fun b e p=>by
 subst p;obtain⟨v,s,B,z,d,j,_,k,o,hi⟩:=h.at_ (i:=0) (n:=x) rfl;rw[e] at j;simp only[Option.some.injEq,Addr.mk.injEq] at j;obtain⟨rfl,_⟩:=j;obtain⟨s',u,y,c',C,r⟩:=q;have a:=C.cell 0 rfl;have f:=C.cell 1 rfl;rw[azW] at k o;rw[k] at a;rw[o] at f;injection a with a;injection f with f;rw[a,f] at hi;exact t (hi.uniqI r)
def WholeAt.apart{B:Option Addr}{l k:Nat}(h:WholeAt w (.slice A l c) ns)(o:ns≠[])(p:aN ns)(j:Bx w g [.bool s,.slice B k d] 67)(q:IntAt w (.agg #[.bool s,.slice B k d]) 0):∀b,A=some ⟨b,0,none⟩->b≠g:=fun b e m=>by
 subst m;cases ns with
 |nil=>exact o rfl
 |cons x ns=>
  cases ns with
  |nil=>exact h.offI ⟨_,_,_,_,j,q⟩ (p x rfl) b e rfl
  |cons y ns=>
   obtain⟨t,s',r,z,u,a,_,f,v,hi⟩:=h.at_ (i:=1) (n:=y) rfl;rw[e] at a;simp only[Option.some.injEq,Addr.mk.injEq] at a;obtain⟨rfl,_⟩:=a;rw[cell_of_row w b _ _ _ _ j] at f;simp at f
def D5(d:List (List UInt8))(v:Value)(w:World)(C:Glob w)(hv:StrsAt w v d)(u:d.length<=7)(T:∀l∈d,l.length<=6):Calls prog 26 #[v] w (uK w d):=by
 obtain⟨A,c,rfl,hc⟩:=hv.form;have N:∀q∈aU d,RL 1 q:=pI (fun l u=>aH (T l u) (by decide));have X:=fun W C hv=>VD d (.slice A d.length c) W C hv (by omega) (fun _ l u=>aH (T l u) (by decide)) 1 8 7 (fun _=>N) (fun _=>u) (by decide) (by decide) (by unfold aJ;decide);have S:(aU d).length=d.length:=cH _;unfold uK;have P:=uL d;obtain⟨E,M⟩:∃E,dM d=E:=⟨_,rfl⟩;rw[M] at P⊢;clear M N;obtain⟨W,K,a,R⟩:=bI w [.bool false,.slice none 0 0] 67;have cM:=R.g2;go_enter func26,ntmps26;go_wp2_with fail;(try rw[K]);clear K;refine(X _ (C.be a) (hv.be a)).mono ?_;rintro e1 w1 ⟨v1,ag,xs,D,rfl,s,t,x,O⟩;obtain⟨Z,c1,rfl,af⟩:=s.form;obtain⟨k,g,j,i,rfl⟩:=t.form;replace R:=R.be O;replace a:=aC a O;have ae:=R.lt;obtain⟨w2,n,y,F⟩:=bI w1 [.bool k,.slice g j i] 67;replace R:=R.be y;replace s:=s.be y;replace t:=t.be y;replace a:=aC a y;have cF:=F.k2;have cM:=aa R.g2 F.k2;clear X;rcases P with ⟨rfl,f,p⟩|⟨rfl,f⟩|⟨rfl,f,p⟩
 ·obtain⟨rfl,r⟩:=x f;have z:(cC (aU d) D).length=d.length:=by rw[oN,S]
  have Q:(cC (aU d) D).length≠0:=fun e=>p (bX (by omega));have V:=oO r.pos r.dvd (pJ f).2.2;have ad:=s.apart (fun e=>Q (by rw[e];rfl)) V R (IntAt.zero _);have q0:(((cC (aU d) D).length:Int)==0)=false:=by rw[beq_eq_false_iff_ne];omega
  have B:=aB (And.intro f (And.intro p r));rw[f];clear x f p r z Q V;obtain⟨I,H⟩:∃I,cC (aU d) D=I:=⟨_,rfl⟩;have ac:=aB H;rw[H] at s q0⊢;clear H;go_wp2_with fail;(try rw[n]);(try clear n);go_region
  all_goals (
   go_wp2_with fail;obtain⟨-,U⟩:=IntBx.stored (w:=w2) (b:=w.1.size) (m:=0) ⟨_,_,_,_,R,IntAt.zero _⟩ t;have Y:=s.step U ad;clear U;obtain⟨J,o,R,a,G,L⟩:=R.put2 a (by omega) (.bool k) (.slice g j i) rfl rfl;rw[o] at Y;have zD:=t.ke G;rw[o];exact aM (v:= .tuple #[.slice Z I.length c1,.agg #[.bool k,.slice g j i],.int .i64 0]) (by simp[results,results26,go_sem,R.k2]) rfl ⟨_,_,_,_,rfl,⟨_,_,_,_,rfl⟩,(fun _=>⟨D,B.out.1,B.out.2.1,B.out.2.2,by rw[ac.out];exact Y.drew,zD.drew⟩),a.drew⟩)
 ·rw[f];clear x f;go_wp2_with fail;(try rw[n]);(try clear n);go_region
  all_goals (
   go_wp2_with fail;obtain⟨J,o,R,a,G,L⟩:=R.put2 a (by omega) (.bool k) (.slice g j i) rfl rfl;rw[o];exact aM (v:= .tuple #[.slice none 0 0,.agg #[.bool k,.slice g j i],.int .i64 1]) (by simp[results,results26,go_sem,R.k2]) rfl ⟨_,_,_,_,rfl,⟨_,_,_,_,rfl⟩,(fun h=>absurd h (by decide)),a.drew⟩)
 ·obtain⟨rfl,r⟩:=x f;have z:(cC (aU d) D).length=0:=by rw[oN,S,p];rfl
  rw[f,z];clear x f p r z;go_wp2_with fail;(try rw[n]);(try clear n);go_region
  all_goals (
   go_wp2_with fail;obtain⟨J,o,R,a,G,L⟩:=R.put2 a (by omega) (.bool k) (.slice g j i) rfl rfl;rw[o];exact aM (v:= .tuple #[.slice none 0 0,.agg #[.bool k,.slice g j i],.int .i64 5]) (by simp[results,results26,go_sem,R.k2]) rfl ⟨_,_,_,_,rfl,⟨_,_,_,_,rfl⟩,(fun h=>absurd h (by decide)),a.drew⟩)
def Euc.mono{a b g:List Int}(h:Euc B a b g)(e:B<=d):Euc d a b g:=by
 induction h with
 |done a=>exact .done a
 |one c=>exact .one c
 |step c h t f=>exact .step c (h.mono e) f
def Sqp.mono{a:Nat}{w s:List Int}(h:Sqp B w s)(d:B<=a):Sqp a w s:=by
 obtain⟨g,b,c⟩:=h.out;exact⟨⟨g,b.mono d,c⟩,h.ne,h.ts⟩
def EdT(a:List UInt8):Prop:=a.length<=1073741824∧(rd a=true->RL 20000000 ((bD a).getD 0))
def EdT.short{a:List UInt8}(h:a.length<=18):EdT a:=⟨by omega,fun c=>by
 obtain⟨q,b⟩:=Option.isSome_iff_exists.1 c;rw[b];exact bU (tS b h) (by decide)⟩
def KR{l:List UInt8}(h:l.length<=18):RL 1 (m5 l):=by
 unfold m5;split
 ·exact iG (mC 1)
 ·cases hr:bD l with
  |none=>exact iG (mC 1)
  |some q=>exact tS hr h
def KT(l:List UInt8){d:Int}(h: -1<=d∧d<=1): -1<=lC l d∧lC l d<=1:=by
 unfold lC;split
 ·exact h
 ·decide
def oS(c:List (List UInt8))(a b:List UInt8):Int:=if dM c=1∨nJ a=false∨nJ b=false then 1 else dM c
def KU(A:List Rat)(i:Int)(x:Rat)(j:Int)(y:Rat)(E n:Int):Prop:=(E≠0->n=0)∧(E=0->CntR A i x j y n)
def uM(w:World)(c:List (List UInt8))(a b:List UInt8)(e:Ending)(w':World):Prop:=∃n:Int,e= .returned (.tuple #[.int .i64 n,.int .i64 (oS c a b)])∧ -1024<=n∧n<=1024∧KU (aU c) (lC a (-1)) (m5 a) (lC b 1) (m5 b) (oS c a b) n∧Below w.1.size w w'
def ZD(f:List (List UInt8))(a b:List UInt8)(v:Value)(w:World)(j:Glob w)(hv:StrsAt w v f)(y:f.length<=7)(hs:∀l∈f,l.length<=6)(ha:a.length<=12)(a1:b.length<=12):
  Calls prog 57 #[v,.string ⟨a.toArray⟩,.string ⟨b.toArray⟩] w (uM w f a b):=by
 obtain⟨A,c,rfl,hc⟩:=hv.form;have ak:=fun W j h=>D5 f (.slice A f.length c) W j h y hs;have ah:=fun W j=>J2 a (-1) W j (by omega);have ai:=fun W j=>J2 b 1 W j (by omega);have ra:=bU (KR (l:=a) (by omega)) (show 1<=30000000 by decide);have rb:=bU (KR (l:=b) (by omega)) (show 1<=30000000 by decide);have ia:=KT a (d:= -1) (by decide);have ib:=KT b (d:=1) (by decide);have ap:∀q∈aU f,RL 1 q:=pI (fun l y=>aH (hs l y) (by decide));have aw:(aU f).length=f.length:=cH _;unfold uK at ak;unfold J1 at ah ai;unfold uM;have i:oS f a b=if dM f=1∨nJ a=false∨nJ b=false then 1 else dM f:=rfl;have hR:=uL f;obtain⟨E,ao⟩:∃E,oS f a b=E:=⟨_,rfl⟩;rw[ao] at i⊢;clear ao;generalize dM f=R at *;generalize nJ a=oa at *;generalize nJ b=z at *;generalize lC a (-1)=I at *;generalize lC b 1=J at *;generalize m5 a=B at *;generalize m5 b=C at *;go_enter func57,ntmps57;go_wp2_with fail;refine(ak _ j hv).mono ?_;rintro e1 w1 ⟨A1,k1,c1,a2,rfl,⟨s2,A2,k2,c2,rfl⟩,H,g⟩;obtain⟨w2,e2,ac,F⟩:=bI w1 [.bool s2,.slice A2 k2 c2] 67;replace g:=aC g ac;replace H:R=0->∃D,vl f=true∧f≠[]∧ComDen (aU f) D 8∧WholeAt w2 (.slice A1 k1 c1) (cC (aU f) D):=fun h=>by
  obtain⟨D,U,V,m,Z,p⟩:=H h;exact⟨D,U,V,m,Z.be ac⟩
 have am:=aB H;clear H ak;have cF:=F.k2;go_wp2_with fail;(try rw[e2]);(try clear e2);refine(ah _ (j.be g)).mono ?_;rintro e3 w3 ⟨v3,rfl,m,ad⟩;obtain⟨s4,L,k4,P,s5,M,k5,Q,rfl⟩:=m.form;obtain⟨w4,e4,ae,X⟩:=bI w3 [.bool s4,.slice L k4 P,.bool s5,.slice M k5 Q,.int .i64 I] 134;replace m:=m.be ae;have G:=aC ad ae;replace g:=aC g G;have cX:=X.k5;clear ah;go_wp2_with fail;(try rw[e4]);(try clear e4);refine(ai _ (j.be g)).mono ?_;rintro e5 w5 ⟨v5,rfl,p,af⟩;obtain⟨s6,N,k6,S,s7,O,k7,T,rfl⟩:=p.form;obtain⟨w6,k,ag,Y⟩:=bI w5 [.bool s6,.slice N k6 S,.bool s7,.slice O k7 T,.int .i64 J] 134;replace p:=p.be ag;have t:=aC af ag;replace m:=m.be t;replace X:=X.be t;replace g:=aC g t;have an:=aC G t;have cX:=X.k5;have cY:=Y.k5;clear ai;rcases hR with ⟨rfl, -, -⟩|⟨rfl, -⟩|⟨rfl, -, -⟩
 ·cases oa with
  |false=>
   obtain rfl:E=1:=by rw[i];rfl
   clear i;cases z
   all_goals (
    go_wp2_with fail;all_goals (try rw[k])
    all_goals (try clear k)
    all_goals go_ret2
    all_goals exact⟨0,rfl,by decide,by decide,⟨fun _=>rfl,(fun h=>absurd h (by decide))⟩,g⟩
   )
  |true=>
   cases z with
   |false=>
    obtain rfl:E=1:=by rw[i];rfl
    clear i;go_wp2_with fail;all_goals (try rw[k])
    all_goals (try clear k)
    all_goals go_ret2
    all_goals exact⟨0,rfl,by decide,by decide,⟨fun _=>rfl,(fun h=>absurd h (by decide))⟩,g⟩
   |true=>
    obtain rfl:E=0:=by rw[i];rfl
    clear i;obtain⟨D,al,h0,x,K⟩:=am.out rfl;replace K:=K.be an;have ar:(cC (aU f) D).length=f.length:=by rw[oN,aw]
    have au:cC (aU f) D≠[]:=fun e=>h0 (bX (by rw[<-ar,e];rfl));have ax:=oO x.pos x.dvd (pJ al).2.2;have aj:=sA _ D 1 _ ap x.nl_;have av:=nM (uE x (pJ al).2.2);obtain⟨A8,c8,e8, -⟩:=K.form;simp only[Value.slice.injEq] at e8;obtain⟨rfl,rfl,rfl⟩:=e8;have a0:=fun W j h=>CZ (cC (aU f) D) (.slice A1 (cC (aU f) D).length c1) W j h ax au (by omega) aj;have aq:=fun s W u j h (o:Sqp 24057 (aS (cC (aU f) D)) s) (r:Sz s) m p=>J0 s I J B C u (.agg #[.bool s4,.slice L k4 P,.bool s5,.slice M k5 Q,.int .i64 I]) (.agg #[.bool s6,.slice N k6 S,.bool s7,.slice O k7 T,.int .i64 J]) W j h o.ts o.ne r m p ia ib ra rb;unfold xA at aq
    have HF:Hid (∀s n,Sqp 24057 (aS (cC (aU f) D)) s->Sz s->(jO I B J C=false->n=0)->(jO I B J C=true->∃c,StT 110079 s (aS (bB s)) c∧n=fF s c I B J C)->CntR (aU f) I B J C n):=fun s n o r U V=>⟨U,fun y=>by
     obtain⟨c,m,Z⟩:=V y;exact⟨_,s,c,av,⟨⟨o.mono (by decide),m⟩,o,r,by rw[dF];omega,gU aj⟩,Z⟩⟩
    clear am al h0 x ar au ax aj av ap aw G t an ac ad ae af ag;generalize cC (aU f) D=ns at *;go_wp2_with fail;(try rw[k]);(try clear k)
    go_region_held3 (fun w'=>C5 w' w3.1.size (.bool s4) (.slice L k4 P) (.bool s5) (.slice M k5 Q) (.int .i64 I)∧C5 w' w5.1.size (.bool s6) (.slice N k6 S) (.bool s7) (.slice O k7 T) (.int .i64 J)) (with_reducible exact⟨X.up.k5,Y.up.k5⟩)
     (first
      |(go_at_call 28;refine(a0 _ (j.be g).up K.up).mono ?_;rintro e7 w7 ⟨v7,s,rfl,h7,o,r,ay⟩;have:=St.mk ay)
      |(go_at_call 77;refine(aq s _ _ (j.be g).up h7.up o r m.up p.up).mono ?_;rintro e9 w9 ⟨n,rfl,n1,n2,n3,n4,az⟩;have:=St.mk az))
    all_goals (
     go_wp2;go_ret2;exact⟨n,rfl,n1,n2,⟨(fun h=>absurd rfl h),(fun _=>HF.out s n o r n3 n4)⟩,bJ (b:=w9) g⟩)
 ·obtain rfl:E=1:=by rw[i,if_pos (.inl rfl)]
  clear i;cases oa<;>cases z
  all_goals (
   go_wp2_with fail;all_goals (try rw[k])
   all_goals (try clear k)
   all_goals go_ret2
   all_goals exact⟨0,rfl,by decide,by decide,⟨fun _=>rfl,(fun h=>absurd h (by decide))⟩,g⟩
  )
 ·cases oa with
  |false=>
   obtain rfl:E=1:=by rw[i];rfl
   clear i;cases z
   all_goals (
    go_wp2_with fail;all_goals (try rw[k])
    all_goals (try clear k)
    all_goals go_ret2
    all_goals exact⟨0,rfl,by decide,by decide,⟨fun _=>rfl,(fun h=>absurd h (by decide))⟩,g⟩
   )
  |true=>
   cases z with
   |false=>
    obtain rfl:E=1:=by rw[i];rfl
    clear i;go_wp2_with fail;all_goals (try rw[k])
    all_goals (try clear k)
    all_goals go_ret2
    all_goals exact⟨0,rfl,by decide,by decide,⟨fun _=>rfl,(fun h=>absurd h (by decide))⟩,g⟩
   |true=>
    obtain rfl:E=5:=by rw[i];rfl
    clear i;go_wp2_with fail;all_goals (try rw[k])
    all_goals (try clear k)
    all_goals go_ret2
    all_goals exact⟨0,rfl,by decide,by decide,⟨fun _=>rfl,(fun h=>absurd h (by decide))⟩,g⟩
def KV(a:List (List UInt8))(v:Value)(w:World)(d:Glob w)(hv:StrsAt w v a)(e:a.length<=7)(f:∀l∈a,l.length<=6):
  Calls prog 21 #[v] w (uM w a [] []):=by
 obtain⟨A,c,rfl,i⟩:=hv.form;have h:=ZD a [] [] (.slice A a.length c) w d hv e f (by decide) (by decide);unfold uM at *;generalize oS a [] []=E at *;go_enter func21,ntmps21;go_wp2_with fail;refine h.mono ?_;rintro g j ⟨n,rfl,b⟩;go_wp2;go_ret2;exact⟨n,rfl,b⟩
def jG(p:List UInt8×List UInt8):List Value:=[.string ⟨p.1.toArray⟩,.string ⟨p.2.toArray⟩]
def IvsAt(w:World)(v:Value)(l:List (List UInt8×List UInt8)):Prop:=∃A c,v= .slice A l.length c∧l.length<=c∧(l=[]∨∃b,A=some ⟨b,0,none⟩∧b<w.1.size∧∀(i:Nat) (p:List UInt8×List UInt8),l[i]? =some p->w.cell? ⟨b,i*2,none⟩=some (.string ⟨p.1.toArray⟩)∧w.cell? ⟨b,i*2+1,none⟩=some (.string ⟨p.2.toArray⟩))
def IvsAt.be(h:IvsAt w v l)(a:Below w.1.size w w'):IvsAt w' v l:=by
 obtain⟨A,c,hv,g,h⟩:=h;refine⟨A,c,hv,g,?_⟩;rcases h with h|⟨b,e,d,f⟩
 ·exact .inl h
 ·exact .inr ⟨b,e,aZ d a.size,fun i p h=>⟨(a.cell (p:=⟨b,i*2,none⟩) d).trans (f i p h).1,(a.cell (p:=⟨b,i*2+1,none⟩) d).trans (f i p h).2⟩⟩
def IvsAt.form(h:IvsAt w v l):∃A c,v= .slice A l.length c∧l.length<=c:=by
 obtain⟨A,c,hv,a,_⟩:=h;exact⟨A,c,hv,a⟩
def IvsAt.at_{n:Nat}(h:IvsAt w (.slice A n c) l){p:List UInt8×List UInt8}(hi:l[i]? =some p):∃b,A=some ⟨b,0,none⟩∧b<w.1.size∧w.cell? ⟨b,i*2,none⟩=some (.string ⟨p.1.toArray⟩)∧w.cell? ⟨b,i*2+1,none⟩=some (.string ⟨p.2.toArray⟩):=by
 obtain⟨f,g,e,j,h⟩:=h;simp only[Value.slice.injEq] at e;obtain⟨rfl,rfl,rfl⟩:=e;rcases h with rfl|⟨b,e,d,a⟩
 ·simp at hi
 ·exact⟨b,e,d,(a i p hi).1,(a i p hi).2⟩
def GrowD.ivs(h:GrowD w g 24 2 v (l.map jG)):IvsAt w v l:=by
 obtain⟨A,c,rfl,d⟩:=h.form;rw[cH] at d;refine⟨A,c,by rw[cH],d,?_⟩;cases l with
 |nil=>exact .inl rfl
 |cons m l=>
  obtain⟨b,e, -,k, -⟩:=h.at_ (i:=0) (r:=jG m) rfl;refine .inr ⟨b,e,k,fun i p j=> ?_⟩;obtain⟨n,a, -, -,f⟩:=h.at_ (i:=i) (r:=jG p) (by rw[iK,j];rfl);rw[e] at a;simp only[Option.some.injEq,Addr.mk.injEq] at a;obtain⟨rfl,_⟩:=a;exact⟨f 0 _ rfl,f 1 _ rfl⟩
def IvsAt.built(w:World)(l:List (List UInt8×List UInt8))(t:TypeId):IvsAt (w.alloc (.cells (l.map jG).flatten.toArray t)) (.slice (some ⟨w.1.size,0,none⟩) l.length l.length) l:=by
 refine⟨_,_,rfl,aE,.inr ⟨w.1.size,rfl,by simp,fun i p e=> ?_⟩⟩;have B:=Bx.new w (l.map jG).flatten t;have b:∀r∈l.map jG,r.length=2:=fun r a=>by
  obtain⟨q, -,rfl⟩:=List.mem_map.1 a;rfl
 have a:(l.map jG)[i]? =some (jG p):=by rw[iK,e];rfl
 have c:=mW b a (j:=0) (by decide);have d:=mW b a (j:=1) (by decide);exact⟨B.cell (i*2) c,B.cell (i*2+1) d⟩
def LP(a:List (List UInt8×List UInt8))(l m:Value)(w:World)(g:IvsAt w l a)(h:IvsAt w m a)(F:a.length<=1073741824):
  Calls prog 22 #[l,m] w fun e w'=>e= .returned (.bool true)∧Below w.1.size w w':=by
 obtain⟨A,c,rfl,B⟩:=g.form;obtain⟨r,u,rfl,C⟩:=h.form;go_enter func22,ntmps22;go_wp2_with fail;go_loopg [5] a.length (fun k i wr=>∃j,Hid (j+k=a.length)∧i= .int .i64 j∧Below w.1.size w wr)
 case atStart=>exact⟨0,by unfold Hid;omega,rfl,aG _ _⟩
 case round=>
  obtain⟨j,d,rfl,b⟩:=hrel;generalize wr=K at *;have D:(0:Int)<=(j:Int):=by omega
  cases gk with
  |zero=>
   have o:j=a.length:=d.out;subst o;go_wp2;go_ret;exact⟨rfl,b⟩
  |succ k=>
   have q:j<a.length:=by have:=d.out;omega
   have E:(j:Int)<(a.length:Int):=by omega
   obtain⟨p,f⟩:∃p,a[j]? =some p:=⟨_,aR q⟩;obtain⟨s,rfl,G,v,x⟩:=(g.be b).at_ f;obtain⟨t,rfl,H,y,z⟩:=(h.be b).at_ f;have n:=b.drew;generalize (⟨p.1.toArray⟩:ByteArray)=I at *;generalize (⟨p.2.toArray⟩:ByteArray)=J at *;clear f;go_wp2_with fail;go_region
   all_goals (
    go_wp2;go_roundg k
    case rel=>exact⟨j+1,by have:=d.out;unfold Hid;omega,by go_num,n⟩
    case measure=>omega)
def LQ:(Tryz.prog.info? 24).map (fun i=>(i.zero,i.size,i.bytes))=some (some (.agg #[.string ⟨#[]⟩,.string ⟨#[]⟩]),2,32):=by kernel_rfl
def LR(n:Nat):∀y∈Builtin.zeroCells (Value.agg #[.string ⟨#[]⟩,.string ⟨#[]⟩]).cells n,NoInt y:=fun y b=>by
 unfold Builtin.zeroCells at b;obtain⟨j,_,rfl⟩:=Array.mem_map.1 b;have a:(Value.agg #[.string ⟨#[]⟩,.string ⟨#[]⟩]).cells= #[Value.string ⟨#[]⟩,.string ⟨#[]⟩]:=rfl;rw[a];have a:(#[Value.string ⟨#[]⟩,.string ⟨#[]⟩]:Array Value).size=2:=rfl;rw[a];rcases(show j%2=0∨j%2=1 by omega) with h|h<;>rw[h]
 ·exact NoInt.string _
 ·exact NoInt.string _
def RowSp.get{n:Nat}{l:List (Rat×Rat)}(h:RowSp w B (.slice A n c) l){p:Rat×Rat}(hi:l[i]? =some p):∃b v d r k x f s m y g t o z j u q,A=some ⟨b,0,none⟩∧b<w.1.size∧
  (w.cell? ⟨b,i*8,none⟩=some (.bool v)∧w.cell? ⟨b,i*8+1,none⟩=some (.slice d r k)∧w.cell? ⟨b,i*8+2,none⟩=some (.bool x)∧w.cell? ⟨b,i*8+3,none⟩=some (.slice f s m)∧w.cell? ⟨b,i*8+4,none⟩=some (.bool y)∧w.cell? ⟨b,i*8+5,none⟩=some (.slice g t o)∧w.cell? ⟨b,i*8+6,none⟩=some (.bool z)∧w.cell? ⟨b,i*8+7,none⟩=some (.slice j u q))∧
  SpanAt w (.agg #[.bool v,.slice d r k,.bool x,.slice f s m,.bool y,.slice g t o,.bool z,.slice j u q]) p.1 p.2:=by
 obtain⟨I,D,E⟩:=h;obtain⟨v,d,r,k,x,f,s,m,y,g,t,o,z,j,u,q,e,G,H⟩:=E.2 i p hi;obtain⟨b,C, -,F,a⟩:=D.at_ e;exact⟨b,v,d,r,k,x,f,s,m,y,g,t,o,z,j,u,q,C,F,⟨a 0 _ rfl,a 1 _ rfl,a 2 _ rfl,a 3 _ rfl,a 4 _ rfl,a 5 _ rfl,a 6 _ rfl,a 7 _ rfl⟩,SpanAt.of G H⟩
def SpanAt.be{x y:Rat}(h:SpanAt w v x y)(a:Below w.1.size w w'):SpanAt w' v x y:=by
 obtain⟨q,d,m,i,r,e,n,j,s,f,o,k,t,g,p,l,rfl,b,c⟩:=h;exact SpanAt.of (b.be a) (c.be a)
def kQ(p:Rat×Rat):List UInt8×List UInt8:=(cW p.1,cW p.2)
def LT(d:List (List UInt8))(n K:Nat)(P:List (Rat×Rat)->Prop)(v:Value)(w:World)(g:Glob w)(hv:StrsAt w v d)(hl:d.length<=7)(hs:∀l∈d,l.length<=6)(Z:vl d=true->d≠[]->Pw (jF (aU d)) n)(hn:n<=1000)(a7:110079<=K)(an:K<=1073741824)(DA:Rat->Rat->Prop)(hA:uN K DA)(H:∀l,P l->l.length<=1048576∧∀p∈l,RL K p.1∧RL K p.2)
  (T:∀w s c,Prp (aU d) w->CnZ w s c->∃l,ExK K DA (fun x=>aY 0 ((s :: c).map (fun a=>aP a 0 x))) (fun x=>aP s 0 x) (((-((2:Int)^n):Int)):Rat) ((((2:Int)^n:Int)):Rat) l∧P l):
  Calls prog 13 #[v] w fun e w'=>∃v' l,e= .returned (.tuple #[v',.int .i64 (dM d)])∧(dM d=0->P l)∧(dM d≠0->l=[])∧IvsAt w' v' (l.map kQ)∧Below w.1.size w w':=by
 obtain⟨A,c,rfl,hc⟩:=hv.form;have z:=fun W g h=>D5 d (.slice A d.length c) W g h hl hs;have ao:∀q∈aU d,RL 1 q:=pI (fun l hl=>aH (hs l hl) (by decide));have a0:(aU d).length=d.length:=cH _;have S:=uL d;unfold uK at z;obtain⟨E,hE⟩:∃E,dM d=E:=⟨_,rfl⟩;rw[hE] at z S⊢;clear hE;go_enter func13,ntmps13;go_wp2_with fail;refine(z _ g hv).mono ?_;rintro e1 w1 ⟨C,k1,G,bt,rfl,⟨s2,M,k2,N,rfl⟩,V,f⟩;obtain⟨w2,r,af,F⟩:=bI w1 [.bool s2,.slice M k2 N] 67;replace f:=aC f af;rcases S with ⟨rfl,ad,h0⟩|⟨rfl, -⟩|⟨rfl, -, -⟩;rotate_left
 ·skip;clear V z T H;go_wp2_with fail;(try rw[r]);(try clear r);go_ret2;exact⟨_,[],rfl,fun h=>absurd h (by decide),fun _=>rfl,⟨_,_,rfl,aE,.inl rfl⟩,f⟩
 ·skip;clear V z T H;go_wp2_with fail;(try rw[r]);(try clear r);go_ret2;exact⟨_,[],rfl,fun h=>absurd h (by decide),fun _=>rfl,⟨_,_,rfl,aE,.inl rfl⟩,f⟩
 replace Z:=Z ad h0;obtain⟨D, -, -,I,m, -⟩:=V rfl;replace m:=m.be af;have ay:(cC (aU d) D).length=d.length:=by rw[oN,a0]
 have U:cC (aU d) D≠[]:=fun e=>h0 (bX (by rw[<-ay,e];rfl));have ac:=oO I.pos I.dvd (pJ ad).2.2;have J:=sA _ D 1 _ ao I.nl_;have aj:=uE I (pJ ad).2.2;have az:=nM aj;have av:=KW aj ac U;have al:=(IY J (by decide)).1;have a3:=gU J;have a4:(aS (cC (aU d) D)).length<=7:=by rw[dF];omega
 obtain⟨A8,c8,e8, -⟩:=m.form;simp only[Value.slice.injEq] at e8;obtain⟨rfl,rfl,rfl⟩:=e8;have a1:=fun W g h=>CZ (cC (aU d) D) (.slice C (cC (aU d) D).length G) W g h ac U (by omega) J;have Q:=fun W g h=>UK (cC (aU d) D) (.slice C (cC (aU d) D).length G) W g h U ac 9 J (by omega) (by decide) (by decide);rw[av] at Q al
 have ah:=fun s u u' W g h h' (o:Sqp 24057 (aS (cC (aU d) D)) s) (L:Sz s)=>ay8 s (jF (aU d)) n K P u u' W g h h' o.ts o.ne L Z hn (bU al (by decide)) a7 an DA hA (fun c hc=>by
  obtain⟨l,h1,h2⟩:=T _ s c az ⟨⟨o.mono (by decide),hc⟩,o,L,a4,a3⟩;exact⟨l,h1,(H l h2).1,h2⟩)
 unfold iF at Q;unfold DT at ah;clear z V I ay U ac J aj az av al T Z ao a0 h0 ad F af a3 a4;generalize cC (aU d) D=ns at *;generalize jF (aU d)=bq at *;go_wp2_with fail;(try rw[r]);(try clear r);refine(a1 _ (g.be f) m).mono ?_;rintro e3 w3 ⟨v3,s,rfl,O,o,L,ap⟩;replace m:=m.be ap;replace f:=aC f ap;have ax:=fun u' W g h h'=>ah s v3 u' W g h h' o L;clear ah a1;go_wp2_with fail;refine(Q _ (g.be f) m).mono ?_;rintro e4 w4 ⟨v4,rfl,h4,aq⟩;replace O:=O.be aq;replace f:=aC f aq;go_wp2_with fail;refine(ax _ _ (g.be f) O h4).mono ?_;rintro e5 w5 ⟨v5,bi,l,rfl,ae,h5,a8⟩;obtain⟨br,bc⟩:=H l ae;have a5:=aB ae;clear ae H;replace f:=aC f a8;obtain⟨A5,c5,rfl,bm⟩:=h5.form;clear ax Q o L O h4 m;go_wp2_with fail;go_loopg [7,25] l.length (fun k vf i wr=>∃j,Hid (j+k=l.length)∧i= .int .i64 j∧GrowD wr w5.1.size 24 2 vf (((l.take j).map kQ).map jG)∧Below w5.1.size w5 wr)
 case atStart=>exact⟨0,by unfold Hid;omega,rfl,GrowD.nil,aG _ _⟩
 case round=>
  obtain⟨j,HJ,rfl,y,B⟩:=hrel;generalize wr=wy at *;have bn:(0:Int)<=(j:Int):=by omega
  have au:=aC f B;obtain⟨Af,nf,bj,rfl⟩:=y.form3;cases gk with
  |zero=>
   have hj:j=l.length:=HJ.out;subst hj;rw[aq9] at y;have hI:=y.ivs;clear y;go_wp2;go_ret2;exact⟨_,rfl,l,a5.out,hI,au⟩
  |succ k=>
   have bb:j<l.length:=by have:=HJ.out;omega
   have bo:(j:Int)<(l.length:Int):=by omega
   obtain⟨p,Y⟩:∃p,l[j]? =some p:=⟨_,aR bb⟩;obtain⟨b,s1,C,k1,G,s2,M,k2,N,s3,A3,k3,c3,s4,A4,k4,c4,rfl,bk,S,bg⟩:=(h5.be B).get Y;have ai:=bc p (dG Y);have a2:=fun W g h=>ZX p.1 p.2 (.agg #[.bool s1,.slice C k1 G,.bool s2,.slice M k2 N,.bool s3,.slice A3 k3 c3,.bool s4,.slice A4 k4 c4]) W g h K ai.1 ai.2 an;have a6:Hid (((l.take (j+1)).map kQ).map jG=((l.take j).map kQ).map jG++[[.string ⟨(cW p.1).toArray⟩,.string ⟨(cW p.2).toArray⟩]]):=by
    unfold Hid;rw[kR,Y,aqO,aq7,aq7];rfl
   have a9:(((l.take j).map kQ).map jG).length<=1073741824:=by rw[cH,cH,bK];omega
   generalize ((l.take j).map kQ).map jG=R at *;generalize (⟨(cW p.1).toArray⟩:ByteArray)=tx at *;generalize (⟨(cW p.2).toArray⟩:ByteArray)=ty at *;clear Y ai;obtain⟨w6,e6,t,X⟩:=bI wy [.bool s1,.slice C k1 G,.bool s2,.slice M k2 N,.bool s3,.slice A3 k3 c3,.bool s4,.slice A4 k4 c4] 76;have cX:=X.k8;go_wp2_with fail;(try rw[e6]);(try clear e6);refine(a2 _ ((g.be au).be t) (bg.be t)).mono ?_;rintro e7 w7 ⟨rfl,ag⟩;have ar:Below w7.1.size w7 (w7.alloc (.cells #[.string tx,.string ty] 24)):=(aG _ _).alloc aE _;have aw:=((y.be t).be ag).be ar;have ak:=((aC B t).trans (ag.mono (aH B.size t.size))).trans (ar.mono (aH B.size (aH t.size ag.size)));have XB:=Bx.new w7 [.string tx,.string ty] 24;have bf:∀u∈[Value.string tx,.string ty],NoInt u∧u.oneCell'=true:=fun u hu=>by
    simp at hu;rcases hu with rfl|rfl
    ·exact⟨NoInt.string _,rfl⟩
    ·exact⟨NoInt.string _,rfl⟩
   clear y a2 X cX S;go_wp2_with (at_builtin;refine yE rfl rfl 24 2 32 _ underlying28 LQ rfl LR (by decide) (by decide) rfl aw rfl XB rfl bf a9 ak.size ?_;intro v8 w8 am bp ba bs);have bh:=ak.trans (aw.left ba ak.size);rw[<-a6.out] at am;go_roundg k
   case rel=>exact⟨j+1,by have:=HJ.out;unfold Hid;omega,by go_num,am,bh⟩
   case measure=>omega
end Go.Proofs.YtpjpfjephpgcbaaGreatDoor
namespace Go.Proofs.YtpjpfjephpgcbaaGreatDoor
open Sos
variable{D M R Z b d e f h q t x x0 y:Rat}{u:Int}{c:List (List Int)}{a g r s w z:List Int}{l:List (Rat×Rat)}{B K j k m n:Nat}{A:List Rat}
def big(t y:Rat):Prop:=t<=y∨y<= -t
def big.mono{u:Rat}(h:big t y)(a:u<=t):big u y:=by rcases h with h|h;exact .inl (by grind);exact .inr (by grind)
def DM(h:¬big t y): -t<y∧y<t:=by unfold big at h;constructor<;>grind
def axH(t y:Rat):big t y∨ -t<y∧y<t:=by
 by_cases h:big t y
 ·exact .inl h
 ·exact .inr (DM h)
def uR(R M:Rat)(F:Rat->Rat):Prop:=∀x y,ab x R->ab y R->x<=y->ab (F y-F x) (M*(y-x))
def sF(x:Rat)(F:Rat->Rat):Int:=(F x).num.sign
def yK{F:Rat->Rat}(h:0<F x):sF x F=1:=(fS _).1 h
def yL{F:Rat->Rat}(h:F x<0):sF x F= -1:=(fS _).2 h
def axI{F:Rat->Rat}(h:F x=0):sF x F=0:=by unfold sF;rw[h];rfl
def uS(x:Rat)(F:Rat->Rat):F x<0∧sF x F= -1∨F x=0∧sF x F=0∨0<F x∧sF x F=1:=by
 rcases iY (F x) with h|h|h
 ·exact .inl ⟨h,yL h⟩
 ·exact .inr (.inl ⟨h,axI h⟩)
 ·exact .inr (.inr ⟨h,yK h⟩)
inductive Chn(R Qb D e:Rat):(Rat->Rat)->List (Rat->Rat)->Prop
 |last {F:Rat->Rat} (h:∀x,ab x R->big e (F x)):Chn R Qb D e F []
 |two {F G:Rat->Rat} (t:Chn R Qb D e G []):Chn R Qb D e F [G]
 |step {F G H:Rat->Rat} {l:List (Rat->Rat)} (h:∀x,ab x R->∃q c d,ab q Qb∧1<=c∧c<=D∧1<=d∧d<=D∧c*F x=q*G x-d*H x) (t:Chn R Qb D e G (H :: l)):Chn R Qb D e F (G :: H :: l)
def axJ{u c g:Rat}(l:0<u)(v:u*(b+D)=t)(o:0<=t)(j:ab q b)(p:1<=c)(r:1<=d)(s:d<=D)(i:ab g u)(e:c*f=q*g-d*h):(t<=f->h<= -u)∧(f<= -t->u<=h):=by
 have x:=(j.mul i).1;have y:=(j.mul i).2;have w:=cA (show 0<=D-d by grind) (az6 l);refine⟨fun k=> ?_,fun k=> ?_⟩
 ·by_cases a:h<= -u
  ·exact a
  ·have m:=azA (show 0<d by grind) (show 0<h+u by grind);have n:=cA (show 0<=c-1 by grind) (show 0<=f by grind);grind
 ·by_cases a:u<=h
  ·exact a
  ·have m:=azA (show 0<d by grind) (show 0<u-h by grind);have n:=cA (show 0<=c-1 by grind) (show 0<= -f by grind);grind
def axK{a c g:Rat}(j:0<t)(n:0<=a)(i:ab q a)(o:1<=c)(p:c<=D)(r:1<=d)(b:ab g t)(l: -t<f)(m:f<t)(e:c*f=q*g-d*h):¬big (t*(a+D)) h:=by
 have x:=(i.mul b).1;have y:=(i.mul b).2;have s:=cA (show 0<=D-c by grind) (az6 j);have u:=azA (show 0<c by grind) (show 0<t-f by grind);have v:=azA (show 0<c by grind) (show 0<t+f by grind);have w:=cA (az6 j) (show 0<=a+D by grind);intro k;rcases k with k|k
 ·have:=cA (show 0<=d-1 by grind) (show 0<=h by grind);grind
 ·have:=cA (show 0<=d-1 by grind) (show 0<= -h by grind);grind
def mT(h:1<=Z)(n:Nat):1<=Z^n:=by
 induction n with
 |zero=>rw[azM];exact byB
 |succ n a=>
  rw[azH];have:=cA (show 0<=Z^n-1 by grind) (show 0<=Z-1 by grind);grind
def kP(l s:Int)(t:List Int)(h:s≠0):aY l (s :: t)=(if l≠0∧s≠l then 1 else 0)+aY s t:=by
 show(if s=0 then _ else _)=_
 rw[if_neg h]
def DO(l:Int)(t:List Int):aY l (0 :: t)=aY l t:=by show(if (0:Int)=0 then _ else _)=_;rw[if_pos rfl]
def LG{s g:Int}(b:s=1∨s= -1)(a:g=1∨g=0∨g= -1)(t:List Int):aY s (g :: -s :: t)=aY s (-s :: t):=by
 rcases a with rfl|rfl|rfl<;>rcases b with rfl|rfl<;>simp[aY]
def uT{a W:Rat}{F:Rat->Rat}(h:big t (F a))(d:ab (F b-F a) W)(g:W<t)(f:0<t):sF a F=sF b F∧(t<=F a∧sF a F=1∨F a<= -t∧sF a F= -1):=by
 have i:=d.1;have j:=d.2;rcases h with h|h
 ·have c:=yK (x:=a) (F:=F) (by grind);have e:=yK (x:=b) (F:=F) (by grind);exact⟨by omega,.inl ⟨h,c⟩⟩
 ·have c:=yL (x:=a) (F:=F) (by grind);have e:=yL (x:=b) (F:=F) (by grind);exact⟨by omega,.inr ⟨h,c⟩⟩
def LH{x y b:Int}{t u:List Int}(c:x=1∨x= -1)(e:x=y)(h:aY x t=aY x u):aY b (x :: t)=aY b (y :: u):=by
 subst e;have a:x≠0:=by omega
 rw[kP _ _ _ a,kP _ _ _ a,h]
def LI(x:Rat)(F:Rat->Rat):sF x F=1∨sF x F=0∨sF x F= -1:=by
 rcases uS x F with h|h|h
 ·exact .inr (.inr h.2)
 ·exact .inr (.inl h.2)
 ·exact .inl h.2
def LJ(hQ:0<=f)(hD:1<=D){a:Rat}(o:ab a R)(z:ab b R)(y:a<=b)(V:0<=M):∀(n:Nat) (F:Rat->Rat) (l:List (Rat->Rat)),l.length<=n->Chn R f D e F l->(∀G∈F :: l,uR R M G)->∀t,0<t->t<=e->M*(b-a)*(f+D)^l.length<t->big t (F a)->
  ∀s,aY s ((F :: l).map (sF a))=aY s ((F :: l).map (sF b)):=by
 have x:0<=M*(b-a):=cA V (by grind);intro n;induction n with
 |zero=>
  intro F l C Q k t i E B A s;obtain rfl:l=[]:=bX (by omega);obtain⟨w,L⟩:=uT A (k F (by simp) a b o z y) (by rwa [azS,azM,aqP] at B) i;exact LH (by omega) w rfl
 |succ n I=>
  intro F l C Q k t i E B A s;have hp:=mT (Z:=f+D) (by grind) l.length;have P:M*(b-a)<t:=by
   have:=cA x (show 0<=(f+D)^l.length-1 by grind);grind
  obtain⟨w,L⟩:=uT A (k F (by simp) a b o z y) P i;rw[fM,fM];refine LH (by omega) w ?_;cases Q with
  |last h=>rfl
  | @two _ G v=>
   cases v with
   |last h=>exact I G [] (by simp) (.last h) (fun g j=>k g (by simp at j;simp[j])) t i E (by rw[azS,azM,aqP];exact P) ((h a o).mono E) _
  | @step _ G H l h v=>
   have T:0<f+D:=by grind
   have ae:t/(f+D)*(f+D)=t:=gW (by grind);have m:0<t/(f+D):=by rw[azE];exact azA i (Rat.inv_pos.2 T)
   generalize t/(f+D)=u at *;have ah:u<=t:=by have:=cA (az6 m) (show 0<=f+D-1 by grind);grind
   rw[eG,azH] at B;have S:M*(b-a)*(f+D)^(H :: l).length<u:=by
    by_cases ad:M*(b-a)*(f+D)^(H :: l).length<u
    ·exact ad
    ·have:=cA (show 0<=M*(b-a)*(f+D)^(H :: l).length-u by grind) (az6 T);grind
   rcases axH u (G a) with hg|⟨af,ag⟩
   ·exact I G (H :: l) (by rw[eG] at C;omega) v (fun g j=>k g (j8 _ j)) u m (by grind) S hg _
   ·obtain⟨q,c,d,hq,W, -,Y,ac,U⟩:=h a o;have tH:Chn R f D e H l:=by
     cases v with
     |two t=>exact t
     |step _ t=>exact t
    obtain⟨z1,z2⟩:=axJ m ae (az6 i) hq W Y ac (show ab (G a) u from⟨by grind,by grind⟩) U;have p:big u (H a)∧sF a H= -sF a F:=by
     rcases L with ⟨J,K⟩|⟨J,K⟩
     ·have:=z1 J;exact⟨.inr this,by rw[K,yL (by grind)]⟩
     ·have:=z2 J;exact⟨.inl this,by rw[K,yK (by grind)];rfl⟩
    have X:M*(b-a)*(f+D)^l.length<u:=by
     rw[eG,azH] at S;have:=cA (cA x (show 0<=(f+D)^l.length by have:=mT (Z:=f+D) (by grind) l.length;grind)) (show 0<=f+D-1 by grind);grind
    have O:∀g∈H :: l,uR R M g:=fun g j=>k g (j8 _ (j8 _ j));have r:=I H l (by rw[eG,eG] at C;omega) tH O u m (by grind) X p.1 (sF a F)
    have N:=(uT p.1 (O H (by simp) a b o z y) (by
     have:=mT (Z:=f+D) (by grind) l.length;have:=cA x (show 0<=(f+D)^l.length-1 by grind);grind) m).1
    rw[fM,fM,<-N,p.2] at r;rw[fM,fM,fM,fM,<-N,p.2,LG (by omega) (LI a G),LG (by omega) (LI b G)];exact r
def axL{a:Rat}(r:0<=a)(C:1<=D)(m:ab x R){F:Rat->Rat}{l:List (Rat->Rat)}(h:Chn R a D e F l):∀t,0<t->t*(a+D)^l.length<=e->big t (F x)∨∃G n,l=G :: n∧big t (G x):=by
 induction h with
 |last h=>intro t b f;rw[azS,azM,aqP] at f;exact .inl ((h x m).mono f)
 | @two F G t j=>
  intro t b f;have g:=cA (az6 b) (show 0<=a+D-1 by grind);have:(a+D)^[G].length=a+D:=by rw[iJ,azH,azM,azF]
  rw[this] at f;rcases j t b (by rw[azS,azM,aqP];grind) with h|⟨_,_,h,_⟩
  ·exact .inr ⟨G,[],rfl,h⟩
  ·cases h
 | @step F G H l h t j=>
  intro t b f;have E:=cA (az6 b) (show 0<=a+D-1 by grind);rw[eG,azH] at f;have A:0<t*(a+D):=azA b (by grind);by_cases g:big t (F x)
  ·exact .inl g
  ·by_cases i:big t (G x)
   ·exact .inr ⟨G,_,rfl,i⟩
   ·exfalso;have o:=DM g;have I:=DM i;obtain⟨q,c,d,y,s,u,v, -,p⟩:=h x m;have z:=axK b r y s u v (show ab (G x) t from⟨by grind,by grind⟩) o.1 o.2 p;rcases j (t*(a+D)) A (by grind) with k|⟨B,n,w,k⟩
    ·exact i (k.mono (by grind))
    ·injection w with hl1 hl2;subst hl1;exact z k
def Lc(V:Rat->Nat)(s:Rat->Int)(a b:Rat):Prop:=(V a=V b∧s b≠0∧(s a≠0->s b=s a))∨(V a=V b+1∧s a≠0∧s b≠s a)
def axM{g:Rat}(K:0<=f)(I:1<=D)(he:0<e)(A:0<=M)(W:0<=g){F:Rat->Rat}{l:List (Rat->Rat)}(L:Chn R f D e F l)(J:∀G∈F :: l,uR R M G)(hT:∀G c,l=G :: c->∀x y,ab x R->ab y R->∃m r,1<=m∧ab r g∧F y=F x+(y-x)*(m*G x+(y-x)*r))(hd:0<d)(ac:d*((M+g+1)*(f+D)^l.length)*(2*(f+D)^l.length)<=e):
  ∀a b,ab a R->ab b R->a<b->b-a<=d->Lc (fun x=>aY 0 ((F :: l).map (sF x))) (fun x=>sF x F) a b:=by
 have hp:=mT (Z:=f+D) (by grind) l.length;obtain⟨Z,v⟩:∃Z,(f+D)^l.length=Z:=⟨_,rfl⟩;rw[v] at hp ac;have n:0<Z:=by grind
 obtain⟨t,p,ht⟩:∃t,0<t∧t*Z=e:=⟨e/Z,by rw[azE];exact azA he (Rat.inv_pos.2 n),gW (by grind)⟩;have ae:t<=e:=by have:=cA (az6 p) (show 0<=Z-1 by grind);grind
 have aj:0<(M+g+1)*Z:=azA (by grind) n;have ak:d*((M+g+1)*Z)<=t/2:=by
  by_cases h:d*((M+g+1)*Z)<=t/2
  ·exact h
  ·have:=azA (show 0<d*((M+g+1)*Z)-t/2 by grind) n;grind
 intro a b o w ai an;have al:(b-a)*((M+g+1)*Z)<=t/2:=by
  have:=cA (show 0<=d-(b-a) by grind) (az6 aj);grind
 have n1:=cA (cA W (az6 n)) (show 0<=b-a by grind);have n2:=cA (cA A (az6 n)) (show 0<=b-a by grind);have n3:=cA (az6 n) (show 0<=b-a by grind);have ah:M*(b-a)*Z<t:=by grind
 have ag:g*(b-a)<t:=by
  have:=cA (cA W (show 0<=b-a by grind)) (show 0<=Z-1 by grind);grind
 have Y:0<=M*(b-a):=cA A (by grind);have X:M*(b-a)<t:=by
  have:=cA Y (show 0<=Z-1 by grind);grind
 have B:a<=b:=az6 ai;rcases axL K I o L t p (by rw[v,ht];exact byB) with h|⟨G,c,rfl,h⟩
 ·have T:=LJ K I o w B A l.length F l aE L J t p ae (by rw[v];exact ah) h 0;obtain⟨U,h3⟩:=uT h (J F (by simp) a b o w B) X p;exact .inl ⟨T,by show sF b F≠0;omega,fun _=>U.symm⟩
 ·have tG:Chn R f D e G c:=by
   cases L with
   |two t=>exact t
   |step _ t=>exact t
  have V:∀C∈G :: c,uR R M C:=fun C af=>J C (j8 _ af);rw[eG,azH] at v
  have N:=LJ K I o w B A c.length G c aE tG V t p ae (by
   have T:=mT (Z:=f+D) (by grind) c.length;have U:=cA (cA Y (show 0<=(f+D)^c.length by grind)) (show 0<=f+D-1 by grind);have h3:M*(b-a)*Z=M*(b-a)*(f+D)^c.length+M*(b-a)*(f+D)^c.length*(f+D-1):=by rw[<-v];grind
   clear ag al n1 n2 n3 hd ak ac;grind) h
  obtain⟨z,g2⟩:=uT h (V G (by simp) a b o w B) X p;obtain⟨m,r,ao,hr,eF⟩:=hT G c rfl a b o w;have ad:ab ((b-a)*r) (g*(b-a)):=by
   have:=hr.mul (show ab (b-a) (b-a) from⟨by grind,by grind⟩);rw[byD];exact this
  have r1:=ad.1;have r2:=ad.2;have k:=N 0;have Q:=N (sF a F);have S:=N (sF b F);unfold Lc;show(aY 0 ((F :: G :: c).map (sF a))=aY 0 ((F :: G :: c).map (sF b))∧sF b F≠0∧(sF a F≠0->sF b F=sF a F))∨(aY 0 ((F :: G :: c).map (sF a))=aY 0 ((F :: G :: c).map (sF b))+1∧sF a F≠0∧sF b F≠sF a F)
  rw[fM,fM];rw[fM,fM] at k Q S;rw[fM,fM];have E:sF a G≠0:=by omega
  have H:sF b G≠0:=by omega
  rw[kP _ _ _ E,kP _ _ _ H] at k Q S;rw[if_neg (by simp),if_neg (by simp)] at k;have am:(0<F b-F a∧sF a G=1)∨(F b-F a<0∧sF a G= -1):=by
   rcases g2 with ⟨k1,O⟩|⟨k1,O⟩
   ·have:=cA (show 0<=m-1 by grind) (show 0<=G a by grind);have:=azA (show 0<b-a by grind) (show 0<m*G a+(b-a)*r by grind);exact .inl ⟨by grind,O⟩
   ·have:=cA (show 0<=m-1 by grind) (show 0<= -(G a) by grind);have:=azA (show 0<b-a by grind) (show 0< -(m*G a+(b-a)*r) by grind);exact .inr ⟨by grind,O⟩
  have va:aY 0 (sF a F :: sF a G :: c.map (sF a))=(if sF a F≠0∧sF a G≠sF a F then 1 else 0)+aY (sF a G) (c.map (sF a)):=by
   by_cases u:sF a F=0
   ·rw[u,DO,kP _ _ _ E]
   ·rw[kP _ _ _ u,kP _ _ _ E,if_neg (by simp),bA]
  have vb:aY 0 (sF b F :: sF b G :: c.map (sF b))=(if sF b F≠0∧sF b G≠sF b F then 1 else 0)+aY (sF b G) (c.map (sF b)):=by
   by_cases u:sF b F=0
   ·rw[u,DO,kP _ _ _ H]
   ·rw[kP _ _ _ u,kP _ _ _ H,if_neg (by simp),bA]
  rw[va,vb];rcases am with ⟨m1,P⟩|⟨m1,P⟩
  ·rw[P] at z k⊢;rw[<-z] at k⊢;rcases uS a F with ⟨q,i⟩|⟨q,i⟩|⟨q,i⟩<;>rcases uS b F with ⟨s,j⟩|⟨s,j⟩|⟨s,j⟩<;>rw[i,j]<;>first|(exfalso;grind)|(simp;omega)
  ·rw[P] at z k⊢;rw[<-z] at k⊢;rcases uS a F with ⟨q,i⟩|⟨q,i⟩|⟨q,i⟩<;>rcases uS b F with ⟨s,j⟩|⟨s,j⟩|⟨s,j⟩<;>rw[i,j]<;>first|(exfalso;grind)|(simp;omega)
def axE(n:Nat):(n:Rat)<=2^n:=by
 induction n with
 |zero=>rw[azM];decide
 |succ n a=>
  rw[azH,Rat.natCast_add,show((1:Nat):Rat)=1 from rfl];have:=mT (Z:=2) (by decide) n;grind
def axF(q:Rat):∃n:Nat,q<=(n:Rat):=by
 refine⟨q.num.natAbs,?_⟩;rcases iY q with h|h|h
 ·have:(0:Rat)<=(q.num.natAbs:Rat):=by exact_mod_cast dC _
  grind
 ·have:(0:Rat)<=(q.num.natAbs:Rat):=by exact_mod_cast dC _
  grind
 ·have f:(1:Rat)<=((q.den:Int):Rat):=by
   have:(1:Int)<=(q.den:Int):=by have:=q.den_pos;omega
   exact_mod_cast this
  have c:((q.den:Int):Rat)≠0:=by grind
  have e:q*((q.den:Int):Rat)=((q.num:Int):Rat):=by
   have a:=oU q;rw[<-aq3] at a;have b:((q.num:Int):Rat)/((q.den:Int):Rat)*((q.den:Int):Rat)=((q.num:Int):Rat):=gW c;rw[<-a] at b;exact b
  have hn:((q.num.natAbs:Nat):Rat)=((q.num:Int):Rat):=by
   have:=pK h;rw[<-aq3,show((q.num.natAbs:Nat):Int)=q.num by omega]
  rw[hn,<-e];have:=cA (az6 h) (show 0<=((q.den:Int):Rat)-1 by grind);grind
def axG(a:0<d)(L:Rat):∃n:Nat,L<=d*2^n:=by
 obtain⟨n,hn⟩:=axF (L/d);have b:=axE n;refine⟨n,?_⟩;have c:L/d*d=L:=gW (by grind);have:=cA (show 0<=2^n-L/d by grind) (az6 a);grind
structure Vs(R d:Rat)(V:Rat->Nat)(s:Rat->Int):Prop where
 d0:0<d
 loc:∀a b,ab a R->ab b R->a<b->b-a<=d->Lc V s a b
section
variable {R d:Rat}{V:Rat->Nat}{s:Rat->Int}(h:Vs R d V s)
include h
def Vs.halves{P:Rat->Rat->Prop}(l:∀a b,ab a R->ab b R->a<b->b-a<=d->P a b)(m:∀a b c,ab a R->ab b R->ab c R->a<c->c<b->P a c->P c b->P a b):∀a b,ab a R->ab b R->a<b->P a b:=by
 have o:∀(n:Nat) a b,ab a R->ab b R->a<b->b-a<=d*2^n->P a b:=by
  intro n;induction n with
  |zero=>intro a b e f g i;exact l a b e f g (by rw[azM,aqP] at i;exact i)
  |succ n k=>
   intro a b e f g i;rw[azH] at i;have p:=e.1;have q:=e.2;have r:=f.1;have t:=f.2
   have j:ab ((a+b)/2) R:=⟨by grind,by grind⟩;exact m a b ((a+b)/2) e f j (by grind) (by grind) (k _ _ e j (by grind) (by grind)) (k _ _ j f (by grind) (by grind))
 intro a b e f g;obtain⟨n,hn⟩:=axG h.d0 (b-a);exact o n a b e f g hn
def Vs.mono:∀a b,ab a R->ab b R->a<b->V b<=V a:=by
 refine h.halves (fun a b g j i k=> ?_) (fun a b c _ _ _ _ _ e f=>aH f e);rcases h.loc a b g j i k with ⟨e, -⟩|⟨e, -⟩<;>omega
def Vs.same:∀a b,ab a R->ab b R->a<b->V a=V b->s b≠0∧(s a≠0->s b=s a):=by
 refine h.halves (fun a b e f q u p=> ?_) (fun a b c e f g r t n o p=> ?_)
 ·rcases h.loc a b e f q u with ⟨-,v,w⟩|⟨k, -⟩
  ·exact⟨v,w⟩
  ·omega
 ·have x:=h.mono a c e g r;have y:=h.mono c b g f t;obtain⟨i,j⟩:=n (by omega);obtain⟨l,m⟩:=o (by omega);exact⟨l,fun k=>(m i).trans (j k)⟩
def Vs.none:∀a b,ab a R->ab b R->a<b->(∀x y,a<=x->x<y->y<=b->s x≠0->s y=s x)->V a=V b:=by
 refine h.halves (fun a b g j i p e=> ?_) (fun a b c g j u t v n o e=> ?_)
 ·rcases h.loc a b g j i p with ⟨k, -⟩|⟨-,q,r⟩
  ·exact k
  ·exact absurd (e a b byB i byB q) r
 ·rw[n (fun x y l f m=>e x y l f (by grind)),o (fun x y l f m=>e x y (by grind) f m)]
end
inductive Ex(V:Rat->Nat)(s:Rat->Int):Rat->Rat->List (Rat×Rat)->Prop
 |none {a b:Rat} (h:V a=V b):Ex V s a b []
 |hit {a b:Rat} (h:V a=V b+1) (hb:s b=0):Ex V s a b [(b,b)]
 |one {a b:Rat} (h:V a=V b+1) (hb:s b≠0) (ha:s a≠0):Ex V s a b [(a,b)]
 |split {a b:Rat} {l m:List (Rat×Rat)} (h:V b<V a) (h':V a=V b+1->s b≠0∧s a=0) (hl:Ex V s a ((a+b)/2) l) (hm:Ex V s ((a+b)/2) b m):Ex V s a b (l++m)
def Vs.ex{V:Rat->Nat}{s:Rat->Int}(h:Vs R d V s):∀(n:Nat) a b,ab a R->ab b R->a<b->b-a<=d*2^n->∃l,Ex V s a b l:=by
 intro n;induction n with
 |zero=>
  intro a b c e o j;rw[azM,aqP] at j;rcases h.loc a b c e o j with ⟨i, -⟩|⟨i,v, -⟩
  ·exact⟨_,.none i⟩
  ·by_cases p:s b=0
   ·exact⟨_,.hit i p⟩
   ·exact⟨_,.one i p v⟩
 |succ n r=>
  intro a b c e o j;have D:=h.mono a b c e o;by_cases u:V a=V b
  ·exact⟨_,.none u⟩
  ·by_cases f:V a=V b+1∧s b=0
   ·exact⟨_,.hit f.1 f.2⟩
   ·by_cases g:V a=V b+1∧s a≠0
    ·exact⟨_,.one g.1 (fun k=>f ⟨g.1,k⟩) g.2⟩
    ·have z:=c.1;have A:=c.2;have B:=e.1;have C:=e.2
     have q:ab ((a+b)/2) R:=⟨by grind,by grind⟩;rw[azH] at j;obtain⟨l,w⟩:=r _ _ c q (by grind) (by grind);obtain⟨m,x⟩:=r _ _ q e (by grind) (by grind);exact⟨_,.split (by omega) (fun k=>⟨fun y=>f ⟨k,y⟩,by by_cases t:s a=0;exact t;exact absurd ⟨k,t⟩ g⟩) w x⟩
def Ex.unique{V:Rat->Nat}{s:Rat->Int}{a:Rat}(h:Ex V s a b l):∀{e},Ex V s a b e->l=e:=by
 induction h with
 |none h=>intro e c;cases c with
  |none=>rfl
  |hit k=>omega
  |one k=>omega
  |split k=>omega
 |hit h f=>intro e c;cases c with
  |none=>omega
  |hit=>rfl
  |one _ k=>exact absurd f k
  |split _ k=>exact absurd f (k h).1
 |one h f j=>intro e c;cases c with
  |none=>omega
  |hit _ k=>exact absurd k f
  |one=>rfl
  |split _ k=>exact absurd (k h).2 j
 |split h g r t m n=>intro e c;cases c with
  |none=>omega
  |hit k i=>exact absurd i (g k).1
  |one k i o=>exact absurd (g k).2 o
  |split _ _ p q=>rw[m p,n q]
def DK(l:List Rat){B:Rat}(m:0<=B)(s:0<=R)(h:∀q∈l,ab q B):(∀x,ab x R->ab (aI l x) (B*(R+2)^l.length))∧(∀x,ab x R->ab (bM l x) (B*(R+2)^l.length))∧(∀x y,ab x R->ab y R->x<=y->ab (aI l y-aI l x) (B*(R+2)^l.length*(y-x)))∧(∀x y,ab x R->ab y R->∃r,ab r (B*(R+2)^l.length)∧aI l y=aI l x+(y-x)*(bM l x+(y-x)*r)):=by
 induction l with
 |nil=>
  have i:ab 0 (B*(R+2)^([]:List Rat).length):=by
   rw[azS,azM,aqP];constructor<;>grind
  refine⟨fun x _=>i,fun x _=>i,fun x y _ _ n=> ?_,fun x y _ _=>⟨0,i,by show(0:Rat)=0+(y-x)*(0+(y-x)*0);grind⟩⟩;show ab (0-0) _
  rw[azS,azM,aqP];have:=cA m (show 0<=y-x by grind);constructor<;>grind
 |cons a l z=>
  obtain⟨d,f,j,k⟩:=z (fun q v=>h q (j8 _ v));have t:=h a iC;have u:=mT (Z:=R+2) (by grind) l.length;rw[eG,azH];obtain⟨W,g⟩:∃W,B*(R+2)^l.length=W:=⟨_,rfl⟩;have D:B<=W:=by
   have:=cA m (show 0<=(R+2)^l.length-1 by grind);grind
  rw[<-azC,g];rw[g] at d f j k;clear g u;have E:0<=W*R:=cA (by grind) s;have e:W*(R+2)=W*R+W+W:=by grind
  rw[e];refine⟨fun x b=> ?_,fun x b=> ?_,fun x y b c n=> ?_,fun x y b c=> ?_⟩
  ·rw[kE];exact(((d x b).mul b).add t).mono (by grind)
  ·show ab (bM l x*x+aI l x) _
   exact(((f x b).mul b).add (d x b)).mono (by grind)
  ·have o:aI (a :: l) y-aI (a :: l) x=(aI l y-aI l x)*y+aI l x*(y-x):=by rw[kE,kE];grind
   rw[o];have A:=(j x y b c n).mul c;have C:ab (aI l x*(y-x)) (W*(y-x)):=(d x b).mul ⟨by grind,by grind⟩;have F:=cA (show 0<=W by grind) (show 0<=y-x by grind);exact(A.add C).mono (by grind)
  ·obtain⟨r,w,p⟩:=k x y b c;refine⟨r*y+bM l x,((w.mul c).add (f x b)).mono (by grind),?_⟩;show aI l y*y+a=aI l x*x+a+(y-x)*(bM l x*x+aI l x+(y-x)*(r*y+bM l x))
   rw[p];grind
def wq(k:Nat):Rat:=(((2:Int)^(64*k):Int):Rat)
def yJ{n:Int}(h:nl n.natAbs<=k):ab (n:Rat) (wq k):=by
 have a:=aZ (cyD n.natAbs) (cO (by unfold BN;decide) h);have b:(n.natAbs:Int)<(2:Int)^(64*k):=by
  have e:((2:Nat)^(64*k):Nat)=BN^k:=by rw[azL];rfl
  have:((n.natAbs:Nat):Int)<((BN^k:Nat):Int):=by exact_mod_cast a
  rw[<-e] at this;exact_mod_cast this
 unfold wq;constructor
 ·have: -((2:Int)^(64*k))<=n:=by omega
  rw[<-bx4];exact_mod_cast this
 ·have:n<=(2:Int)^(64*k):=by omega
  exact_mod_cast this
def uQ(a:List Int)(x:Rat):aX a x=aI (aT 1 a) x:=rfl
def DL(h:∀n∈a,nl n.natAbs<=k):∀q∈aT 1 a,ab q (wq k):=fun q b=>by
 obtain⟨n,hn,rfl⟩:=List.mem_map.1 b;rw[azF];exact yJ (h n hn)
def axC{b:List Int}(h:StT K a b c):∃z,(a :: c).getLast?=some z∧DvE (aX a) (aT 1 z)∧DvE (aX b) (aT 1 z):=by
 induction h with
 |done a=>exact⟨a,rfl,⟨[1],fun x=>by rw[uQ];show _=(0*x+1)*_;grind⟩,⟨[],fun x=>by show(0:Rat)=0*_;grind⟩⟩
 | @step a b q r m c A h t w=>
  obtain⟨z,s,f,n⟩:=w;refine⟨z,by rw[bxY];exact s,?_,f⟩;have o:=gJ h.m0;have p:DvE (aX r) (aT 1 z):=by
   obtain⟨u,d⟩:=n;by_cases j:0<m
   ·rw[if_pos j] at d;refine⟨u.map (fun y=>(-((bC r:Int):Rat))*y),fun x=> ?_⟩;have e:=d x;have l:aX ((aS r).map (·*(-1))) x= -1*aX (aS r) x:=DR (c:= -1) (fun i=>by rw[mG (·*(-1)) (by decide),eJ];have:((-1:Int):Rat)= -1:=rfl;rw[this];grind) x;rw[pR,iI];rw[l] at e;grind
   ·rw[if_neg j] at d;refine⟨u.map (fun y=>((bC r:Int):Rat)*y),fun x=> ?_⟩;have e:=d x;rw[pR,iI];grind
  obtain⟨v,hv⟩:=(p.lin f 1 (aT 1 q)).congr (g:=fun x=>(m:Rat)*aX a x) (fun x=>by
   have:=sH h.id_ x;rw[this,uQ q];grind)
  refine⟨v.map (fun y=>(1/(m:Rat))*y),fun x=> ?_⟩;have e:=hv x;have k:(m:Rat)*aX a x=aI v x*aI (aT 1 z) x:=e;rw[iI];have:(1/(m:Rat))*((m:Rat)*aX a x)=aX a x:=by rw[<-azC,gW o,azF]
  rw[<-this,k];grind
def axD(g:z≠[])(j:aN z)(h:∀i,1<=i->cf z i=0)(x:Rat):big 1 (aX z x):=by
 have c:cf z (z.length-1)≠0:=(fT g).1 j;have d:cf z 0≠0:=by
  by_cases f:z.length-1=0
  ·rwa [f] at c
  ·exact absurd (h _ (by omega)) c
 have e:aX z x=((cf z 0:Int):Rat):=by
  rw[uQ,oT (b:=[((cf z 0:Int):Rat)]) (fun i=> ?_)]
  ·show(0:Rat)*x+_=_;grind
  ·rw[dS,azF];cases i with
   |zero=>rfl
   |succ i=>rw[h (i+1) (by omega),bV (l:=[((cf z 0:Int):Rat)]) (by simp)];rfl
 rw[e];rcases Int.lt_or_gt_of_ne d with h|h
 ·exact .inr (by
   have:cf z 0<= -1:=by omega
   have a:((cf z 0:Int):Rat)<=((-1:Int):Rat):=by exact_mod_cast this
   exact a)
 ·exact .inl (by
   have:1<=cf z 0:=by omega
   have a:((1:Int):Rat)<=((cf z 0:Int):Rat):=by exact_mod_cast this
   exact a)
def yI(a:List Int)(x:Rat):sF x (aX a)=aP a 0 x:=by
 unfold sF aP;rw[if_pos rfl,JU,uQ];congr 2;exact oT (fun i=>by rw[dS,azF,mG (fun n:Int=>(n:Rat)) aq4]) x
def ax8(s:List Int)(c:List (List Int))(x:Rat):aY 0 ((aX s :: c.map aX).map (sF x))=aY 0 ((s :: c).map (fun a=>aP a 0 x)):=by
 rw[show(aX s :: c.map aX)=(s :: c).map aX from rfl,List.map_map];congr 1;exact by3 (fun a _=>yI a x)
def ax9(h:∀n∈r,nl n.natAbs<=K):ab (((bC r:Int)):Rat) (wq K):=yJ (by rw[dD];exact az4 h)
def LE(x:Rat)(m k:Nat):x^(m+k)=x^m*x^k:=by
 induction k with
 |zero=>rw[gQ,azM,aqP]
 |succ k a=>rw[Nat.add_succ,azH,azH,a,azC]
def pP{n:Int}(h:0<n):(1:Rat)<=(n:Rat):=by
 have:((1:Int):Rat)<=(n:Rat):=by exact_mod_cast (show(1:Int)<=n by omega)
 exact this
def axA{Q:Rat}(C:0<=R)(S:wq K*(R+2)^7<=Q){b:List Int}(h:StT K a b c):a.length<=7->b.length<=7->(∀z,(a :: c).getLast?=some z->∀x,big 1 (aX z x))->Chn R Q Q 1 (aX a) (c.map aX):=by
 have V:=mT (Z:=R+2) (by grind) 7;have l:0<=wq K:=by
  unfold wq;have:(0:Int)<=2^(64*K):=fP (aqH (by decide));exact_mod_cast this
 have W:wq K<=Q:=by
  have:=cA l (show 0<=(R+2)^7-1 by grind);grind
 have J:∀n,n<=7->(R+2)^n<=(R+2)^7:=fun n hn=>by
  obtain⟨k,G⟩:∃k,7=n+k:=⟨7-n,by omega⟩;rw[G,LE];have f:=mT (Z:=R+2) (by grind) n;have B:=mT (Z:=R+2) (by grind) k;have:=cA (show 0<=(R+2)^n by grind) (show 0<=(R+2)^k-1 by grind);grind
 induction h with
 |done a=>exact fun _ _ s=> .last (fun x _=>s a rfl x)
 | @step a b q r m c T h t y=>
  intro s H O;have w:(if 0<m then (aS r).map (·*(-1)) else aS r).length=r.length:=by
   split
   ·rw[cH,dF]
   ·exact dF r
  have o:=y H (by have:=h.r_lt;omega) (fun z P=>O z (by rw[bxY];exact P));have D:∀x,aX r x=((bC r:Int):Rat)*aX (aS r) x:=pR r;have F:r≠[]->0<(bC r:Int):=fun j=>by have:=nI h.r_trim j;omega
  have M:∀x,0<m->aX ((aS r).map (·*(-1))) x= -1*aX (aS r) x:=fun x _=>DR (c:= -1) (fun i=>by rw[mG (·*(-1)) (by decide),eJ];have:((-1:Int):Rat)= -1:=rfl;rw[this];grind) x;have hrel:r≠[]->∀x,ab x R->∃q c d,ab q Q∧1<=c∧c<=Q∧1<=d∧d<=Q∧c*aX a x=q*aX b x-d*aX (if 0<m then (aS r).map (·*(-1)) else aS r) x:=fun j x N=>by
   have e:=sH h.id_ x;have p:=F j;have U:=(ax9 h.br).2;have u:=yJ h.bm;have X:=u.1;have Y:=u.2
   have v:ab (aX q x) Q:=((DK (aT 1 q) l C (DL h.bq)).1 x N).mono (by
    rw[fX];have f:=J q.length (by have:=h.q_len;omega);have:=cA l (show 0<=(R+2)^7-(R+2)^q.length by grind);grind)
   rw[D] at e;by_cases g:0<m
   ·rw[if_pos g,M x g];exact⟨aX q x,m,(bC r:Int),v,pP g,by grind,pP p,by grind,by grind⟩
   ·rw[if_neg g];have I:0< -m:=by have:=h.m0;omega
    have f:=pP I;rw[bx4] at f;exact⟨-aX q x, -(m:Rat),(bC r:Int),v.neg,f,by grind,pP p,by grind,by grind⟩
  rw[fM];obtain⟨A,L⟩:∃A,(if 0<m then (aS r).map (·*(-1)) else aS r)=A:=⟨_,rfl⟩;rw[L] at t hrel w;clear y;cases t with
  |done=>exact .two o
  |step E B t2=>
   refine .step (hrel (fun e=>E (bX ?_))) o;rw[w,e];rfl
def p2(j:Nat):Rat:=(((2:Int)^j:Int):Rat)
def jQ(i j:Nat):p2 (i+j)=p2 i*p2 j:=by unfold p2;rw[aqS,eJ]
def jZ(j:Nat):1<=p2 j:=pP (aqH (by decide))
def DG:p2 0=1:=rfl
def uP:p2 1=2:=rfl
def DH{i:Nat}(h:i<=j):p2 i<=p2 j:=by
 obtain⟨k,rfl⟩:∃k,j=i+k:=⟨j-i,by omega⟩;rw[jQ];have:=cA (show 0<=p2 i by have:=jZ i;grind) (show 0<=p2 k-1 by have:=jZ k;grind);grind
def DI(i l:Nat):p2 i^l=p2 (i*l):=by
 induction l with
 |zero=>rw[azM,azP,DG]
 |succ l a=>rw[azH,a,Nat.mul_succ,jQ]
def DJ(k:Nat):wq k=p2 (64*k):=rfl
def LF(h:Cn K w s c)(v:aN w)(r:∀n∈aS (bB s),nl n.natAbs<=K):∀z,(s :: c).getLast?=some z->z≠[]∧aN z∧∀i,1<=i->cf z i=0:=fun z f=>by
 have t:=gV (lE h.sq.ts);have d:=h.st.mem t r;obtain⟨a,g,k,l⟩:=axC h.st;obtain rfl:a=z:=by rw[f] at g;injection g with e;exact e.symm
 obtain⟨u,p⟩:=l;have o:=axY h.sq v k ⟨u.map (fun y=>((bC (bB s):Int):Rat)*y),fun x=>by rw[pR,p,iI];grind⟩;have q:=List.mem_of_getLast? f;have j:a≠[]∧aN a:=by
  rcases List.mem_cons.1 q with e|b
  ·rw[e];exact⟨h.sq.ne,h.sq.ts⟩
  ·exact⟨(d _ b).1,(d _ b).2.1⟩
 refine⟨j.1,j.2,fun i m=> ?_⟩;have:=o i m;rw[dS,azF] at this;exact Rat.intCast_inj.1 this
def bqE{m0:Nat}(h:Cn K w s c)(tw:aN w)(q:s.length<=7)(C:∀n∈s,nl n.natAbs<=K)(O:∀n∈aS (bB s),nl n.natAbs<=K)(hn:(n+2)*7<=64*m0):
  Vs (p2 n) (1/p2 (13*(64*(K+m0))+15)) (fun x=>aY 0 ((s :: c).map (fun a=>aP a 0 x))) (fun x=>aP s 0 x):=by
 have p:0<=p2 n:=by have:=jZ n;grind
 have td:=gV (lE h.sq.ts);have ld:(aS (bB s)).length<=6:=by rw[dF,lZ];omega
 have aj:=h.st.mem td O;have l:0<=wq K:=by rw[DJ];have:=jZ (64*K);grind
 have hS:p2 n+2<=p2 (n+2):=by
  have B:=jZ n;have e:p2 (n+2)=p2 n*4:=by rw[jQ];rfl
  rw[e];grind
 have am:(p2 n+2)^7<=p2 ((n+2)*7):=by
  rw[<-DI];have A:∀(x y:Rat),0<=x->x<=y->∀m:Nat,x^m<=y^m∧0<=x^m:=fun x y g J m=>by
   induction m with
   |zero=>rw[azM,azM];exact⟨byB,by decide⟩
   |succ m N=>
    rw[azH,azH];have n1:=cA (show 0<=y^m-x^m by grind) (show 0<=y by grind);have n2:=cA N.2 (show 0<=y-x by grind);exact⟨by grind,cA N.2 g⟩
  exact(A _ _ (by grind) hS 7).1
 obtain⟨Q,f⟩:∃Q,p2 (64*(K+m0))=Q:=⟨_,rfl⟩;have E:wq K*(p2 n+2)^7<=Q:=by
  have B:p2 (64*K)*p2 ((n+2)*7)<=Q:=by rw[<-jQ,<-f];exact DH (by omega)
  have:=cA l (show 0<=p2 ((n+2)*7)-(p2 n+2)^7 by grind);rw[DJ] at *;grind
 have ae:1<=Q:=by rw[<-f];exact jZ _
 have I:∀m,m<=7->wq K*(p2 n+2)^m<=Q:=fun m hm=>by
  obtain⟨k,hk⟩:∃k,7=m+k:=⟨7-m,by omega⟩;rw[hk,LE] at E;have B:=mT (Z:=p2 n+2) (by grind) m;have h2:=mT (Z:=p2 n+2) (by grind) k;have:=cA (cA l (show 0<=(p2 n+2)^m by grind)) (show 0<=(p2 n+2)^k-1 by grind);grind
 have ah:∀x,aX (bB s) x=((bC (bB s):Int):Rat)*aX (aS (bB s)) x:=pR _;have ai:∀z,(s :: c).getLast?=some z->∀x,big 1 (aX z x):=fun z j x=>by
  obtain⟨z0,tz,hc⟩:=LF h tw O z j;exact axD z0 tz hc x
 have ag:=axA p E h.st q (by omega) ai;have ac:∀G∈aX s :: c.map aX,uR (p2 n) Q G:=fun G o x y u v J=>by
  have j:∃z,G=aX z∧z.length<=7∧∀n∈z,nl n.natAbs<=K:=by
   rcases List.mem_cons.1 o with e|o
   ·exact⟨s,e,q,C⟩
   ·obtain⟨z,j,rfl⟩:=List.mem_map.1 o;obtain⟨-, -,h3,V⟩:=aj z j;exact⟨z,rfl,by omega,V⟩
  obtain⟨z,rfl,ak,al⟩:=j;refine((DK (aT 1 z) l p (DL al)).2.2.1 x y u v J).mono ?_;rw[fX];have:=cA (show 0<=Q-wq K*(p2 n+2)^z.length by have:=I z.length ak;grind) (show 0<=y-x by grind);grind
 have F:(c.map aX).length<=6:=by rw[cH];have:=h.st.len;omega
 have hN:p2 (13*(64*(K+m0))+15)=p2 15*Q^13:=by rw[<-f,DI,<-jQ,aq1,dN]
 have ad:=jZ (13*(64*(K+m0))+15);refine⟨by rw[azE,azF];exact Rat.inv_pos.2 (by grind),fun a b ha i af hd=> ?_⟩;have H:=axM (d:=1/p2 (13*(64*(K+m0))+15)) (show 0<=Q by grind) ae (show(0:Rat)<1 by decide) (show 0<=Q by grind) (show 0<=Q by grind) ag ac (fun G l' e x y u v=> ?_) (by rw[azE,azF];exact Rat.inv_pos.2 (by grind)) ?_ a b ha i af hd
 ·unfold Lc at *;simp only[ax8,yI] at H;exact H
 ·have A:∀b,StT K s b c->b=aS (bB s)->c.map aX=G :: l'->b≠[]∧G=aX b:=fun b t _ e=>by
   cases t with
   |done=>cases e
   |step i h t=>rw[fM] at e;injection e with e1 _;exact⟨i,e1.symm⟩
  obtain⟨i,rfl⟩:=A _ h.st rfl e;have g:bB s≠[]:=fun g=>i (bX (by rw[dF,g];rfl));have hg:(0:Int)<(bC (bB s):Int):=by have:=nI (lE h.sq.ts) g;omega
  obtain⟨r,hr,T⟩:=(DK (aT 1 s) l p (DL C)).2.2.2 x y u v;refine⟨((bC (bB s):Int):Rat),r,pP hg,hr.mono (by rw[fX];exact I _ q),?_⟩;rw[<-ah,yM];exact T
 ·obtain⟨M,D⟩:∃M,64*(K+m0)=M:=⟨_,rfl⟩;obtain⟨L,W⟩:∃L,(c.map aX).length=L:=⟨_,rfl⟩;rw[W] at F⊢;rw[D] at ad⊢;rw[D] at f;have S:Q+Q=p2 (M+1):=by rw[jQ,f,uP];grind
  have eQ:Q+Q+1<=p2 (M+2):=by
   have e:p2 (M+2)=Q*4:=by rw[jQ,f];rfl
   rw[e];grind
  rw[S] at *;rw[DI];have R:(2:Rat)*p2 ((M+1)*L)=p2 ((M+1)*L+1):=by rw[jQ,uP,byD]
  rw[R];have h6:(M+1)*L<=(M+1)*6:=eV _ F;have an:p2 (M+2)*p2 ((M+1)*L)*p2 ((M+1)*L+1)<=p2 (13*M+15):=by
   rw[<-jQ,<-jQ];exact DH (by omega)
  have n0:0<=p2 ((M+1)*L)*p2 ((M+1)*L+1):=by rw[<-jQ];have:=jZ ((M+1)*L+((M+1)*L+1));grind
  generalize p2 ((M+1)*L)=X at *;generalize p2 ((M+1)*L+1)=Y at *;generalize p2 (13*M+15)=P at *;generalize p2 (M+1)=Z at *;generalize p2 (M+2)=U at *;have n1:=cA n0 (show 0<=U-(Z+1) by grind);have hP:0<P:=by grind
  have ei:1/P*P=1:=gW (by grind);have hi:0<=1/P:=by rw[azE,azF];exact az6 (Rat.inv_pos.2 hP)
  have n2:=cA hi (show 0<=P-(Z+1)*X*Y by grind);grind
def axB(h:Cn K w s c)(f:aN w)(d:s.length<=7)(b:∀n∈s,nl n.natAbs<=K)(e:∀n∈aS (bB s),nl n.natAbs<=K)(hn:n<=330):
  Vs (p2 n) (1/p2 (13*(64*(K+37))+15)) (fun x=>aY 0 ((s :: c).map (fun a=>aP a 0 x))) (fun x=>aP s 0 x):=bqE h f d b e (by omega)
def qX(a:List Int)(i:Int)(x:Rat):aP a i x=1∨aP a i x=0∨aP a i x= -1:=by
 have k:∀n:Int,n.sign=1∨n.sign=0∨n.sign= -1:=fun n=>by
  rcases aqL n 0 with h|h|h
  ·exact .inr (.inr (aqT h))
  ·rw[h];exact .inr (.inl rfl)
  ·exact .inl (aqI h)
 unfold aP;split
 ·exact k _
 ·split
  ·have:=k (cf a (a.length-1));omega
  ·exact k _
def cx9(X:Rat):∃n:Nat,X<=p2 n:=by
 obtain⟨n,hn⟩:=axF X;refine⟨n,?_⟩;have a:=axE n;have e:p2 n=2^n:=by
  unfold p2;rw[Rat.intCast_pow];rfl
 rw[e];grind
def cN(u:Int)(j:Nat):Rat:=(u:Rat)/p2 j
def yG(h: -((2:Int)^(n+j))<=u): -p2 n<=cN u j:=by
 have c:=jZ j;have e:cN u j*p2 j=u:=gW (by grind);have d: -(p2 n*p2 j)<=(u:Rat):=by
  rw[<-jQ];unfold p2;rw[<-bx4];exact_mod_cast h
 by_cases k: -p2 n<=cN u j
 ·exact k
 ·have:=azA (show 0< -p2 n-cN u j by grind) (show 0<p2 j by grind);grind
def yH(h:u<=(2:Int)^(n+j)):cN u j<=p2 n:=by
 have c:=jZ j;have e:cN u j*p2 j=u:=gW (by grind);have d:(u:Rat)<=p2 n*p2 j:=by
  rw[<-jQ];unfold p2;exact_mod_cast h
 by_cases k:cN u j<=p2 n
 ·exact k
 ·have:=azA (show 0<cN u j-p2 n by grind) (show 0<p2 j by grind);grind
def DE(h:m<=64*k)(f:u.natAbs<=2^m):nl u.natAbs<=k+1:=by
 refine cJ ?_;have c:2^m<=2^(64*k):=cO (by decide) h;have d:(2:Nat)^(64*k)=BN^k:=by rw[azL];rfl
 have e:BN^k<BN^(k+1):=by9 (by unfold BN;decide) (aqC k);omega
def DF(m:Nat):((2:Int)^m).natAbs=2^m:=by
 rw[Int.natAbs_pow];rfl
def uO(d: -((2:Int)^(n+j))<=u)(f:u<=(2:Int)^(n+j))(c:n+j<=64*k):RL (k+1) (cN u j):=by
 have e:=DF (n+j);have g:(0:Int)<2^(n+j):=aqH (by decide);refine pM (DE c (by omega)) (DE (m:=j) (k:=k) (by omega) ?_) (by omega);rw[DF];exact aE
def LC(u:Int)(j:Nat):cN (2*u) (j+1)=cN u j:=by
 unfold cN;rw[jQ,uP,eJ,show((2:Int):Rat)=2 from rfl];have:=jZ j;grind
def ax6(u t:Int)(j:Nat):(cN u j+cN (u+t) j)/2=cN (2*u+t) (j+1):=by
 unfold cN;rw[jQ,uP,aqE,aqE,eJ,show((2:Int):Rat)=2 from rfl];have:=jZ j;grind
def LD{t:Int}(d:0<t)(j:Nat):cN u j<cN (u+t) j:=by
 have g:=jZ j;have e:cN u j*p2 j=u:=gW (by grind);have c:cN (u+t) j*p2 j=((u+t:Int):Rat):=gW (by grind);rw[aqE] at c;have f:=pP d;by_cases k:cN u j<cN (u+t) j
 ·exact k
 ·have:=cA (show 0<=cN u j-cN (u+t) j by grind) (show 0<=p2 j by grind);grind
inductive ExQ(K:Nat)(V:Rat->Nat)(s:Rat->Int):Rat->Rat->List (Rat×Rat)->Prop
 |none {a b:Rat} (h:V a=V b):ExQ K V s a b []
 |hit {a b:Rat} (h:V a=V b+1) (hb:s b=0):ExQ K V s a b [(b,b)]
 |one {a b:Rat} (h:V a=V b+1) (hb:s b≠0) (ha:s a≠0):ExQ K V s a b [(a,b)]
 |split {a b:Rat} {l m:List (Rat×Rat)} (h:V b<V a) (h':V a=V b+1->s b≠0∧s a=0) (hk:RL K ((a+b)/2)) (hl:ExQ K V s a ((a+b)/2) l) (hm:ExQ K V s ((a+b)/2) b m):ExQ K V s a b (l++m)
section
variable {K K':Nat}{V V':Rat->Nat}{s s':Rat->Int}{a b:Rat}{l:List (Rat×Rat)}
def ExQ.exk(h:ExQ K V s a b l):ExK K (fun _ _=>True) V s a b l:=by
 induction h with
 |none h=>exact .none (by omega)
 |hit h c=>exact .hit h c
 |one h c e=>exact .one h c e
 |split h d f _ _ g i=>exact .split h d trivial f g i
def ExQ.mono(h:ExQ K V s a b l)(e:K<=K'):ExQ K' V s a b l:=by
 induction h with
 |none h=>exact .none h
 |hit h c=>exact .hit h c
 |one h c f=>exact .one h c f
 |split h d g _ _ i j=>exact .split h d (bU g e) i j
def ExK.unique{D m:Rat->Rat->Prop}(h:ExK K D V s a b l):∀{f:List (Rat×Rat)},ExK K' m V' s' a b f->(∀x,V x=V' x)->(∀x,s x=0↔s' x=0)->l=f:=by
 induction h with
 |none h=>intro f e c d;cases e with
  |none=>rfl
  |hit k=>rw[<-c,<-c] at k;omega
  |one k=>rw[<-c,<-c] at k;omega
  |split k=>rw[<-c,<-c] at k;omega
 |hit h g=>intro f e c d;cases e with
  |none k=>rw[<-c,<-c] at k;omega
  |hit=>rfl
  |one _ k=>exact absurd ((d _).1 g) k
  |split _ k=>exact absurd ((d _).1 g) (k (by rw[<-c,<-c];exact h)).1
 |one h g n=>intro f e c d;cases e with
  |none k=>rw[<-c,<-c] at k;omega
  |hit _ k=>exact absurd ((d _).2 k) g
  |one=>rfl
  |split _ k=>exact absurd ((d _).2 (k (by rw[<-c,<-c];exact h)).2) n
 |split h i _ _ u v o p=>intro f e c d;cases e with
  |none k=>rw[<-c,<-c] at k;omega
  |hit k j=>rw[<-c,<-c] at k;exact absurd ((d _).2 j) (i k).1
  |one k j q=>rw[<-c,<-c] at k;exact absurd ((d _).1 (i k).2) q
  |split _ _ _ _ r t=>rw[o r c d,p t c d]
end
def Vs.exk{V:Rat->Nat}{s:Rat->Int}{N:Nat}(h:Vs (p2 n) d V s)(G:1/p2 N<=d)(R:n+(N+n+1)<=64*m):∀(k j:Nat) (u:Int),j+k=N+n+1-> -((2:Int)^(n+j))<=u->u+2^(n+1)<=(2:Int)^(n+j)->
  ∃l,ExQ (m+1) V s (cN u j) (cN (u+2^(n+1)) j) l∧(∀p∈l,RL (m+1) p.1∧RL (m+1) p.2)∧l.length+V (cN (u+2^(n+1)) j)<=V (cN u j):=by
 intro k;induction k with
 |zero=>
  intro j u H o q;have c:(0:Int)<2^(n+1):=aqH (by decide);have r:ab (cN u j) (p2 n):=⟨yG o,yH (by omega)⟩;have t:ab (cN (u+2^(n+1)) j) (p2 n):=⟨yG (by omega),yH q⟩;have y:RL (m+1) (cN u j):=uO o (by omega) (by omega);have g:RL (m+1) (cN (u+2^(n+1)) j):=uO (by omega) q (by omega);have v:=LD (u:=u) c j;have I:cN (u+2^(n+1)) j-cN u j<=d:=by
   have e:cN (u+2^(n+1)) j-cN u j=1/p2 N:=by
    obtain rfl:j=N+(n+1):=by omega
    unfold cN;rw[jQ,aqE,show(((2:Int)^(n+1):Int):Rat)=p2 (n+1) from rfl];have:=jZ N;have:=jZ (n+1);grind
   rw[e];exact G
  rcases h.loc _ _ r t v I with ⟨f, -⟩|⟨f,i, -⟩
  ·exact⟨_,.none f,(fun p c=>by cases c),by rw[azS];omega⟩
  ·by_cases z:s (cN (u+2^(n+1)) j)=0
   ·exact⟨_,.hit f z,fun p c=>by rw[List.mem_singleton.1 c];exact⟨g,g⟩,by rw[iJ];omega⟩
   ·exact⟨_,.one f z i,fun p c=>by rw[List.mem_singleton.1 c];exact⟨y,g⟩,by rw[iJ];omega⟩
 |succ k A=>
  intro j u H o q;have c:(0:Int)<2^(n+1):=aqH (by decide);have r:ab (cN u j) (p2 n):=⟨yG o,yH (by omega)⟩;have t:ab (cN (u+2^(n+1)) j) (p2 n):=⟨yG (by omega),yH q⟩;have y:RL (m+1) (cN u j):=uO o (by omega) (by omega);have g:RL (m+1) (cN (u+2^(n+1)) j):=uO (by omega) q (by omega);have v:=LD (u:=u) c j;have S:=h.mono _ _ r t v;have Q:(2:Int)^(n+(j+1))=2*2^(n+j):=by rw[show n+(j+1)=n+j+1 by omega,gR];omega
  have E:RL (m+1) (cN (2*u+2^(n+1)) (j+1)):=uO (n:=n) (by omega) (by omega) (by omega);by_cases P:V (cN u j)<=V (cN (u+2^(n+1)) j)
  ·exact⟨_,.none (by omega),(fun p c=>by cases c),by rw[azS];omega⟩
  ·by_cases f:V (cN u j)=V (cN (u+2^(n+1)) j)+1∧s (cN (u+2^(n+1)) j)=0
   ·exact⟨_,.hit f.1 f.2,fun p c=>by rw[List.mem_singleton.1 c];exact⟨g,g⟩,by rw[iJ];omega⟩
   ·by_cases i:V (cN u j)=V (cN (u+2^(n+1)) j)+1∧s (cN u j)≠0
    ·exact⟨_,.one i.1 (fun k=>f ⟨i.1,k⟩) i.2,fun p c=>by rw[List.mem_singleton.1 c];exact⟨y,g⟩,by rw[iJ];omega⟩
    ·obtain⟨l,w,M,C⟩:=A (j+1) (2*u) (by omega) (by omega) (by omega);obtain⟨L,x,O,D⟩:=A (j+1) (2*u+2^(n+1)) (by omega) (by omega) (by omega);have F:cN (2*u+2^(n+1)+2^(n+1)) (j+1)=cN (u+2^(n+1)) j:=by rw[<-LC (u+2^(n+1)) j];congr 1;omega
     rw[F] at x D;rw[LC] at w C;rw[<-ax6] at w C x D E;refine⟨l++L,.split (by omega) (fun k=>⟨fun J=>f ⟨k,J⟩,?_⟩) E w x,fun p c=> ?_,by rw[bE];omega⟩
     ·by_cases B:s (cN u j)=0
      ·exact B
      ·exact absurd ⟨k,B⟩ i
     ·rcases List.mem_append.1 c with c|c
      ·exact M p c
      ·exact O p c
def ax7(h:CnZ w s c)(y:aN w)(hn:n<=330):∃l,ExQ 1000000000 (fun x=>aY 0 ((s :: c).map (fun a=>aP a 0 x))) (fun x=>aP s 0 x) (((-((2:Int)^n):Int)):Rat) ((((2:Int)^n:Int)):Rat) l∧(∀p∈l,RL 1500000 p.1∧RL 1500000 p.2)∧l.length<=8:=by
 obtain⟨f,A,g, -, -⟩:=h;have i:=g.nums;have r:=g.1;have t:=gU (pL i (by omega));have hv:=axB f y r (fun n hn=>aH (i n hn) (by decide)) (fun n hn=>aH (t n hn) (by decide)) hn;have z:(2:Int)^(n+1)=2*2^n:=by rw[gR];omega
 have d:(0:Int)<2^n:=aqH (by decide);obtain⟨l,j,k,v⟩:=hv.exk (N:=13*(64*(110079+37))+15) (m:=1431520) (byB) (by omega) (13*(64*(110079+37))+15+n+1) 0 (-(2^n)) (by omega) (by rw[gQ];exact aq5 _) (by simp only[gQ];omega);have e:∀u:Int,cN u 0=(u:Rat):=fun u=>by unfold cN;rw[DG];grind
 rw[e,e,show -(2:Int)^n+2^(n+1)=2^n by omega] at j v;have o:=qR ((s :: c).map (fun a=>aP a 0 (((-((2:Int)^n):Int)):Rat))) 0;rw[cH,eG] at o;have q:=f.st.len;rw[dF,lZ] at q;exact⟨l,j.mono (by decide),fun p d=>⟨bU (k p d).1 (by decide),bU (k p d).2 (by decide)⟩,by omega⟩
def axZ{l:List Rat}(h:∀x,x≠x0->aI l x=0):aI l x0=0:=by
 have g:∀x,aI (fG l [-x0,1]) x=0:=fun x=>by
  rw[fY];by_cases f:x=x0
  ·have:aI [-x0,1] x=0:=by show(0*x+1)*x+ -x0=0;grind
   rw[this,gX]
  ·rw[h x f,aqQ]
 have b:=DQ g;by_cases a:aW aV l=[]
 ·rw[<-oT (iS l) x0,a];rfl
 ·exfalso;have d:=(fT a).1 (jS l);have j:=List.length_pos_iff.2 a;have e:conv (cf (aW aV l)) (cf [-x0,1]) ((aW aV l).length-1+1)=0:=by
   rw[gL (iS l) (fun _=>rfl),<-uU];exact b _
  rw[p5 (fun i c=>bV (by omega)) (fun i c=>bV (by show 2<=i;omega))] at e;exact m6 d (show(1:Rat)≠0 by decide) e
def ay0(x0:Rat):∀l:List Rat,∃q:List Rat,q.length<=l.length-1∧∀x,aI l x=aI q x*(x-x0)+aI l x0:=by
 intro l;induction l with
 |nil=>exact⟨[],aE,fun x=>by show(0:Rat)=0*(x-x0)+0;grind⟩
 |cons a l c=>
  cases l with
  |nil=>exact⟨[],aE,fun x=>by show 0*x+a=0*(x-x0)+(0*x0+a);grind⟩
  |cons b l=>
   obtain⟨q,d,h⟩:=c;exact⟨aI (b :: l) x0 :: q,by simp only[eG] at *;omega,fun x=>by rw[kE a,h x,kE _ q,kE a (b :: l) x0];grind⟩
def sI(x0 x:Rat):aI [-x0,1] x=x-x0∧bM [-x0,1] x=1:=by
 constructor
 ·show(0*x+1)*x+ -x0=x-x0;grind
 ·show((0*x+0)*x+(0*x+1))=1;grind
def ay1(x0:Rat):∀(n:Nat) (l:List Rat),l.length<=n->(∃x,aI l x≠0)->∃(m:Nat) (h:List Rat),aI h x0≠0∧∀x,aI l x=aI (fJ [-x0,1] m) x*aI h x:=by
 intro n;induction n with
 |zero=>
  intro l c ⟨x,b⟩;obtain rfl:=bX (Nat.le_zero.1 c);exact absurd rfl b
 |succ n g=>
  intro l c ⟨x,b⟩;by_cases a:aI l x0=0
  ·obtain⟨q,i,e⟩:=ay0 x0 l;obtain⟨m,h,d,f⟩:=g q (by omega) ⟨x,fun k=>b (by rw[e,k,a];grind)⟩
   exact⟨m+1,h,d,fun y=>by
    show _=aI (fG (fJ [-x0,1] m) [-x0,1]) y*_
    rw[e,a,f,fY,(sI x0 y).1];grind⟩
  ·exact⟨0,l,a,fun y=>by show _=aI [1] y*_;show _=(0*y+1)*_;grind⟩
def ay2(h:x≠x0)(m:Nat):aI (fJ [-x0,1] m) x≠0:=by
 induction m with
 |zero=>show(0*x+1:Rat)≠0;grind
 |succ m a=>
  show aI (fG (fJ [-x0,1] m) [-x0,1]) x≠0
  rw[fY,(sI x0 x).1];exact m6 a (fun e=>h (by grind))
def ay3(b:g≠[])(c:aN g):∃x,aX g x≠0:=by
 apply bz0;intro h;have a:∀x,aI (aT 1 g) x=0:=fun x=>bz0 (fun k=>h ⟨x,k⟩);have:=DQ a (g.length-1);rw[dS,azF] at this;exact gJ ((fT b).1 c) this
def ay4(h:Sqp B w s)(tw:aN w)(x0:Rat):aX w x0=0↔aX s x0=0:=by
 obtain⟨g,I,hg,tg, -, -,O⟩:=h.out;have d:∀x,aX w x=aX s x*aX g x:=fun x=>by
  have:=sH (A:=w) (Q:=s) (B:=g) (C:=[]) (m:=1) (fun i=>by rw[eR,az5,O];omega) x;rw[bxS,DS] at this;grind
 refine⟨fun b=> ?_,fun b=>by rw[d,b,aqQ]⟩;apply bz0;intro v;have N:aX g x0=0:=by
  rw[d] at b;exact(Rat.mul_eq_zero.1 b).resolve_left v
 obtain⟨k,u,R,U⟩:=(JS I).2;have S:=gJ R;have K:∀x,(k:Rat)*bM (aT 1 w) x=((bC (bB w):Int):Rat)*(aX u x*aX g x):=fun x=>by
  have a:=sH (A:=aS (bB w)) (Q:=u) (B:=g) (C:=[]) (m:=k) (fun i=>by rw[eR,U];omega) x;rw[DS] at a;rw[<-yM,pR];grind
 obtain⟨m,q,t,c⟩:=ay1 x0 (aT 1 g).length (aT 1 g) aE (ay3 hg tg);have T:m≠0:=fun e=>by
  subst e;have a:=c x0;rw[show aI (fJ [-x0,1] 0) x0=0*x0+1 from rfl] at a;have o:aI (aT 1 g) x0=0:=N;rw[o] at a;exact t (by grind)
 have V:∀x,bM (aT 1 w) x=bM (aT 1 s) x*aI (aT 1 g) x+aI (aT 1 s) x*bM (aT 1 g) x:=uV (fun x=>d x);have L:∀x,bM (aT 1 g) x=bM (fJ [-x0,1] m) x*aI q x+aI (fJ [-x0,1] m) x*bM q x:=uV c;obtain⟨G,J⟩:∃G:Rat,((bC (bB w):Int):Rat)=G:=⟨_,rfl⟩
 have ac:=axZ (x0:=x0) (l:=j0 ((fG (fG (aT 1 u) q) [-x0,1]).map (fun y=>G*y)) ((j0 (fG (fG (fW (aT 1 s)) q) [-x0,1]) (j0 ((fG (aT 1 s) q).map (fun y=>(m:Rat)*y)) (fG (fG (aT 1 s) (fW q)) [-x0,1]))).map (fun y=>(-(k:Rat))*y))) (fun x hx=>by
  rw[lG,iI,iI,lG,lG,iI,fY,fY,fY,fY,fY,fY,fY,<-qW,<-qW,(sI x0 x).1];have hP:=ay2 hx m;have a:=K x;have o:=V x;have Y:=L x;have E:=LN [-x0,1] m x;have Z:=c x;have F:aX g x=aI (aT 1 g) x:=rfl;have H:aX u x=aI (aT 1 u) x:=rfl;rw[(sI x0 x).1,(sI x0 x).2] at E;rw[J,F,H] at a;generalize aI (fJ [-x0,1] m) x=P at *;generalize bM (fJ [-x0,1] m) x=P' at *;generalize aI (aT 1 g) x=p at *;generalize bM (aT 1 g) x=r at *;generalize bM (aT 1 w) x=w1 at *;generalize aI (aT 1 s) x=n at *;generalize bM (aT 1 s) x=z at *;generalize aI (aT 1 u) x=u0 at *;generalize aI q x=j at *;generalize bM q x=X at *;generalize (m:Rat)=M at *;generalize (k:Rat)=f at *;clear b v N c T d V L K O I R S U t F H J;obtain⟨D,hD⟩:∃D,x-x0=D:=⟨_,rfl⟩;rw[hD] at E⊢;have af:P*(G*(u0*j*D)+ -f*(z*j*D+(M*(n*j)+n*X*D)))=0:=by
   have k1:r*D=M*P*j+P*X*D:=by rw[Y];grind
   have W:f*w1*D=G*(u0*p)*D:=by rw[a]
   rw[o] at W;have k3:f*(z*p+n*r)*D=f*(z*p*D+n*(r*D)):=by grind
   rw[k3,k1,Z] at W;grind
  exact(Rat.mul_eq_zero.1 af).resolve_left hP)
 rw[lG,iI,iI,lG,lG,iI,fY,fY,fY,fY,fY,fY,fY,(sI x0 x0).1] at ac;have ad:(m:Rat)≠0:=by
  have:((m:Nat):Rat)≠((0:Nat):Rat):=fun e=>T (by exact_mod_cast e);exact this
 have ae:aI (aT 1 s) x0≠0:=v;refine m6 S (m6 ad (m6 ae t)) ?_;grind
def LO{e:Int}(c:e=1∨e= -1)(t:List Int):(∀s∈t,s=1∨s=0∨s= -1)->∀l:Int,l=1∨l= -1->aY l (t++[e])%2=if l=e then 0 else 1:=by
 induction t with
 |nil=>
  intro _ l a;rw[iM,kP _ _ _ (by omega)];rcases a with rfl|rfl<;>rcases c with rfl|rfl<;>decide
 |cons s t f=>
  intro h l a;have b:=fun l a=>f (fun s d=>h s (j8 _ d)) l a;rw[bz4];rcases h s iC with rfl|rfl|rfl
  ·rw[kP _ _ _ (by decide)];have:=b 1 (.inl rfl);rcases a with rfl|rfl<;>rcases c with rfl|rfl<;>simp at this⊢<;>omega
  ·rw[DO];exact b l a
  ·rw[kP _ _ _ (by decide)];have:=b (-1) (.inr rfl);rcases a with rfl|rfl<;>rcases c with rfl|rfl<;>simp at this⊢<;>omega
def ay5(h:∀i,1<=i->cf z i=0)(x:Rat):aX z x=((cf z 0:Int):Rat):=by
 rw[uQ,oT (b:=[((cf z 0:Int):Rat)]) (fun i=> ?_)]
 ·show(0:Rat)*x+_=_;grind
 ·rw[dS,azF];cases i with
  |zero=>rfl
  |succ i=>rw[h (i+1) (by omega),bV (l:=[((cf z 0:Int):Rat)]) (by simp)];rfl
def ay6(h:Cn K w s c)(C:aN w)(u:∀n∈aS (bB s),nl n.natAbs<=K)(p:aP s 0 x≠0)(q:aP s 0 y≠0)(hn:fF s c 0 x 0 y=1):aP s 0 x*aP s 0 y<0:=by
 unfold fF at hn;obtain⟨z,g⟩:∃z,(s :: c).getLast?=some z:=⟨_,byP (by simp)⟩;obtain⟨E,D,m⟩:=LF h C u z g;have l:∀x,aP z 0 x=(cf z 0).sign:=fun x=>by
  rw[<-yI];unfold sF;rw[ay5 m,xJ]
 rw[fM,fM,kP _ _ _ p,kP _ _ _ q,if_neg (by simp),if_neg (by simp)] at hn;have A:=qX s 0 x;have B:=qX s 0 y;rcases List.eq_nil_or_concat c with rfl|⟨f,d,rfl⟩
 ·exfalso;rw[aqJ,aqJ] at hn;simp[aY] at hn
 ·rw[List.concat_eq_append] at g hn;rw[List.getLast?_cons,bz7] at g;obtain rfl:d=z:=by simpa using g
  have F:(cf d 0).sign≠0:=fun e=>by
   have i:cf d (d.length-1)≠0:=(fT E).1 D;have r:=Int.sign_eq_zero_iff_zero.1 e;by_cases t:d.length-1=0
   ·rw[t] at i;exact i r
   ·exact i (m _ (by omega))
  have o:(cf d 0).sign=1∨(cf d 0).sign= -1:=by
   have:=qX d 0 0;rw[l] at this;omega
  rw[aq7,aq7,List.map_singleton,List.map_singleton,l,l] at hn;have v:=LO o (f.map (fun a=>aP a 0 x)) (fun s j=>by obtain⟨a, -,rfl⟩:=List.mem_map.1 j;exact qX a 0 x) (aP s 0 x) (by omega);have p2:=LO o (f.map (fun a=>aP a 0 y)) (fun s j=>by obtain⟨a, -,rfl⟩:=List.mem_map.1 j;exact qX a 0 y) (aP s 0 y) (by omega);generalize aY (aP s 0 x) (f.map (fun a=>aP a 0 x)++[(cf d 0).sign])=H at *;generalize aY (aP s 0 y) (f.map (fun a=>aP a 0 y)++[(cf d 0).sign])=I at *;generalize (cf d 0).sign=e at *;have G:aP s 0 x≠aP s 0 y:=fun k=>by
   rw[k] at v;omega
  generalize aP s 0 x=a at *;generalize aP s 0 y=b at *;rcases A with rfl|rfl|rfl<;>rcases B with rfl|rfl|rfl<;>first|omega|(exfalso;exact p rfl)|(exfalso;exact q rfl)|decide
def ExQ.congr{V V':Rat->Nat}{s s':Rat->Int}{a:Rat}(h:ExQ K V s a b l)(d:∀x y,((V' x:Nat):Int)-(V' y:Nat)=(V x:Nat)-(V y:Nat))(c:∀x,s' x=0↔s x=0):ExQ K V' s' a b l:=by
 induction h with
 | @none a b h=>exact .none (by have:=d a b;omega)
 | @hit a b h e=>exact .hit (by have:=d a b;omega) ((c _).2 e)
 | @one a b h e g=>exact .one (by have:=d a b;omega) (fun k=>e ((c _).1 k)) (fun k=>g ((c _).1 k))
 | @split a b l m h f i _ _ j n=>
  have:=d a b;exact .split (by omega) (fun k=>⟨fun o=>(f (by omega)).1 ((c _).1 o),(c _).2 (f (by omega)).2⟩) i j n
def ax2:∀N:Nat,b<=p2 N->∃n,n<=N∧Pw b n:=by
 intro N;induction N with
 |zero=>exact fun h=>⟨0,mC 0,h,fun m d=>by omega⟩
 |succ N e=>
  intro h;by_cases a:b<=p2 N
  ·obtain⟨n,f,c⟩:=e a;exact⟨n,by omega,c⟩
  ·refine⟨N+1,aE,h,fun m d=> ?_⟩;have:=DH (show m<=N by omega);show p2 m<b
   grind
def ax3(h:RL K b):b<=p2 (64*K):=by
 have c:=(yJ h.1).2;rw[DJ] at c;have d:=jZ (64*K);by_cases f:b<=0
 ·grind
 ·have g:(1:Rat)<=((b.den:Int):Rat):=pP (by have:=b.den_pos;omega);have e:b*((b.den:Int):Rat)=(b.num:Rat):=by
   have c:(b.num:Rat)/((b.den:Int):Rat)=b:=by rw[<-Rat.divInt_eq_div];exact Rat.num_divInt_den b
   have:=gW (a:=(b.num:Rat)) (b:=((b.den:Int):Rat)) (by grind);rwa [c] at this
  have:=cA (show 0<=b by grind) (show 0<=((b.den:Int):Rat)-1 by grind);grind
def yF(A:List Rat)(n:Nat)(l:List (Rat×Rat)):Prop:=∃w s c,Prp A w∧CnZ w s c∧ExQ 1000000000 (fun x=>aY 0 ((s :: c).map (fun a=>aP a 0 x))) (fun x=>aP s 0 x) (((-((2:Int)^n):Int)):Rat) ((((2:Int)^n:Int)):Rat) l∧(∀p∈l,RL 1500000 p.1∧RL 1500000 p.2)∧l.length<=8
def ax4(d:Prp A w)(e:CnZ w s c)(hn:n<=330):∃l,ExK 1000000000 (fun _ _=>True) (fun x=>aY 0 ((s :: c).map (fun a=>aP a 0 x))) (fun x=>aP s 0 x) (((-((2:Int)^n):Int)):Rat) ((((2:Int)^n:Int)):Rat) l∧yF A n l:=by
 obtain⟨l,b,f,g⟩:=ax7 e d.2.1 hn;exact⟨l,b.exk,w,s,c,d,e,b,f,g⟩
def sG(d:Prp A w)(f:Sqp B w s)(x:Rat):(aI A x).num.sign=0↔aP s 0 x=0:=by
 obtain⟨l,k,c,g,j⟩:=d;have e:aI A x=c*aX w x:=by
  unfold aX;rw[<-iI];exact oT (fun i=>by rw[j,mG (fun q=>c*q) (gX _),dS,azF]) x
 have b:=ay4 f k x;have a:∀q:Rat,q.num.sign=0↔q=0:=fun q=>by rw[Int.sign_eq_zero_iff_zero];exact Rat.num_eq_zero
 rw[<-yI];unfold sF;rw[a,a,<-b,e];exact⟨fun h=>(Rat.mul_eq_zero.1 h).resolve_left g,fun h=>by rw[h,gX]⟩
def ax5(a:Prp A w)(e:CnZ w s c):x<y∧aP s 0 x*aP s 0 y<0∧fF s c 0 x 0 y=1∨x=y∧aP s 0 x=0↔x<y∧(aI A x).num.sign≠0∧(aI A y).num.sign≠0∧fF s c 0 x 0 y=1∨x=y∧(aI A x).num.sign=0:=by
 obtain⟨f,b,d, -, -⟩:=e;have g:=gU (pL d.nums (by have:=d.1;omega));rw[ne_eq,ne_eq,sG a b x,sG a b y];refine or_congr (and_congr_right fun _=>⟨fun h=>⟨fun k=> ?_,fun k=> ?_,h.2⟩,fun h=>⟨ay6 f a.2.1 (fun n hn=>aH (g n hn) (by decide)) h.1 h.2.1 h.2.2,h.2.2⟩⟩) Iff.rfl
 ·have:=h.1;rw[k,bxB] at this;exact absurd this (by decide)
 ·have:=h.1;rw[k,Int.mul_zero] at this;exact absurd this (by decide)
