/- Laws. -/
import Derived.Test.YticcgnnefilhcaaGreatDoorT16
import Derived.Test.YticcgnnefilhcaaGreatDoorT17
set_option linter.all false
set_option maxHeartbeats 8000000
set_option maxRecDepth 99999
namespace Go.Proofs.YticcgnnefilhcaaGreatDoor
open Go.RowKit Sos Tryz
variable{K KB N k n:Nat}{B R:List Rat}{Q a b f q r x xs y ys:List Int}{w w':World}{u v:Value}{D E g h m:Int}{c i:Bool}{d j s:Rat}{A e:Option Addr}
structure QuoOf(x c Q:List Int):Prop where
 trim:aN Q
 ne:c≠[]
 tc:aN c
 id_:∀i,cf x i=conv (cf Q) (cf c) i
inductive Sqf(B:Nat):List Int->List Int->List (List Int)->Prop
 |done {p r:List Int} (h:p.length<=1):Sqf B p r []
 |step {p r c Qp Qr:List Int} {l:List (List Int)} (h:1<p.length) (hg:pO B p r c) (hp:QuoOf p c Qp) (hr:QuoOf r c Qr) (t:Sqf B c Qr l):Sqf B p r (Qp :: l)
structure GcdFit(K B:Nat)(xs ys:List Int):Prop where
 tx:aN xs
 ty:aN ys
 kx:∀n∈xs,nl n.natAbs<=K
 ky:∀n∈ys,nl n.natAbs<=K
 b1:xs.length<ys.length->(K+1)*(ys.length-xs.length+2)*3^xs.length<=B
 b2:¬xs.length<ys.length->(K+1)*(xs.length-ys.length+2)*3^ys.length<=B
 lx:xs.length<=1073741824
 ly:ys.length<=1073741824
structure SqfInv(K B:Nat)(Inv:Nat->List Int->List Int->Prop):Prop where
 fit:∀n p r,Inv n p r->GcdFit K B p r
 go:∀n p r c,Inv n p r->1<p.length->pO B p r c->∃Qp Qr n',n'<n∧QuoOf p c Qp∧QuoOf r c Qr∧(∀x∈c,nl x.natAbs<=K)∧(∀x∈Qp,nl x.natAbs<=K)∧(∀x∈Qr,nl x.natAbs<=K)∧c.length<=1073741824∧Inv n' c Qr
def cxP{B:Nat}(h:GcdFit K B xs ys)(a b:Value)(w:World)(f:Glob w)(j:WholeAt w a xs)(k:WholeAt w b ys)(i:1<=K)(d:5*B+8<=aJ):
  Calls prog 96 #[a,b] w fun e w'=>∃c g,e= .returned c∧WholeAt w' c g∧pO B xs ys g∧Below w.1.size w w':=
 XV xs ys a b w f j k h.tx h.ty K B h.kx h.ky i h.b1 h.b2 d h.lx h.ly
def bzX(w:World)(B:Nat)(a:List Int)(e:Ending)(w':World):Prop:=
 ∃v g Q l,e= .returned v∧WsAt w' w.1.size 40 v l∧pO B (aS a) (bB (aS a)) g∧QuoOf (aS a) g Q∧Sqf B Q g l∧Below w.1.size w w'
def cqX(e:List Int)(v:Value)(w:World)(hG:Glob w)(hv:WholeAt w v e)(ht:aN e)(K B:Nat)(hK:∀n∈e,nl n.natAbs<=K)(af:1<=K)(P:7*K+8<=aJ)(ae:5*B+8<=aJ)(hl:e.length<=1073741824)
  (ab:Nat->List Int->List Int->Prop)(hI:SqfInv K B ab)(ak:GcdFit K B (aS e) (bB (aS e)))
  (au:∀g,pO B (aS e) (bB (aS e)) g->∃Q n,QuoOf (aS e) g Q∧(∀x∈g,nl x.natAbs<=K)∧(∀x∈Q,nl x.natAbs<=K)∧g.length<=1073741824∧n<=1073741824∧ab n Q g):
  Calls prog 59 #[v] w (bzX w B e):=by
 obtain⟨A,c,rfl,hc⟩:=hv.form;have ap:=qQ e _ w hG hv ht K hK (by omega) (by omega);have a2:=dF e;have a1:=dzP hK;have a4:=gV ht;unfold bzX;generalize aS e=p at *;have U:p.length<=1073741824:=by omega
 have aj:=fun W v h=>JN p v W h K a1 (by unfold aJ at P⊢;omega) U;clear a2;generalize bB p=d at *;go_enter func59,ntmps59;go_wp2_with fail;refine ap.mono ?_;rintro e1 w1 ⟨v1,rfl,b,a⟩;obtain⟨A1,c1,rfl,a9⟩:=b.form;clear ap;go_wp2_with fail;refine(aj _ _ b).mono ?_;rintro e2 w2 ⟨v2,rfl,i,ag⟩;obtain⟨A2,c2,rfl,ba⟩:=i.form;replace b:=b.be ag;replace a:=aC a ag;clear aj;go_wp2_with fail;refine(cxP ak _ _ _ (hG.be a) b i af ae).mono ?_;rintro e3 w3 ⟨v3,g,rfl,u,s,ah⟩;obtain⟨A3,c3,rfl,bb⟩:=u.form;replace b:=b.be ah;replace a:=aC a ah;obtain⟨Q,n,z,kg,kQ,lg,ln,L⟩:=au g s;have aw:=aB s;have HQ:=aB z;have ar:=fun W b i=>YI Q p g (.slice A1 p.length c1) (.slice A3 g.length c3) W b i z.ne z.trim a4 z.tc z.id_ K kQ kg P U lg;clear s z au ak i;go_wp2_with fail;refine(ar _ b u).mono ?_;rintro e4 w4 ⟨v4,rfl,h4,ai⟩;obtain⟨A4,c4,rfl,bc⟩:=h4.form;replace u:=u.be ai;replace a:=aC a ai;clear ar b;go_wp2_with fail;go_loopg [4,5,6] n (fun k vr vp vf wr=>∃r p N O G H m,vr= .slice N r.length O∧vp= .slice G p.length H∧WholeAt wr (.slice N r.length O) r∧WholeAt wr (.slice G p.length H) p∧WsAt wr w.1.size 40 vf m∧ab k p r∧k<=1073741824∧m.length+k<=n∧Hid (∀l,Sqf B p r l->Sqf B Q g (m++l))∧Below w.1.size w wr)
 case atStart=>exact⟨g,Q,A3,c3,A4,c4,[],rfl,rfl,u,h4,RowsAt.nil _ _ _ _,L,ln,by simp,fun l h=>h,a⟩
 case round=>
  clear u h4 a L;obtain⟨r,p,N,O,G,H,m,rfl,rfl,j,V,f,L,hk,bk,HS,a⟩:=hrel;generalize wr=wy at *;have hF:=hI.fit _ _ _ L;have U:=hF.lx;obtain⟨Af,a8,rfl,bj⟩:=f.form;have az:=fun W=>JO p.length H G W (by omega);go_wp2_with fail;refine(az _).mono ?_;rintro e5 w5 ⟨rfl,rfl⟩;by_cases b:p.length<=1
  ·have q1:¬(0:Int)<(p.length:Int)-1:=by omega
   have y:=HS.out [] (Sqf.done b);rw[fH] at y;have HE:=aB y;clear y b;go_wp2;go_ret;exact⟨_,g,Q,m,rfl,f,aw.out,HQ.out,HE.out,a⟩
  ·have q1:(0:Int)<(p.length:Int)-1:=by omega
   have an:1<p.length:=by omega
   clear b;go_wp2_with fail;refine(cxP hF _ _ _ (hG.be a) V j af ae).mono ?_;rintro e6 w6 ⟨v6,c,rfl,o,s,R⟩;obtain⟨A6,c6,rfl,bf⟩:=o.form;obtain⟨q,Qr,n',bm,C,D,kc,a5,a6,lc,a0⟩:=hI.go _ _ _ c L an s;have y:∀l,Sqf B c Qr l->Sqf B Q g (m++(q :: l)):=fun l t=>HS.out _ (Sqf.step an s C D t);have HE:=aB y;have aq:=fun W b i=>YI q p c (.slice G p.length H) (.slice A6 c.length c6) W b i C.ne C.trim hF.tx C.tc C.id_ K a5 kc P U lc;have a3:=fun W b i=>YI Qr r c (.slice N r.length O) (.slice A6 c.length c6) W b i D.ne D.trim hF.ty D.tc D.id_ K a6 kc P hF.ly lc;replace j:=j.be R;replace V:=V.be R;replace f:=f.be R;replace a:=aC a R;clear y C D s HS;go_wp2_with fail;refine(aq _ V o).mono ?_;rintro e7 M ⟨v7,rfl,I,S⟩;obtain⟨A7,c7,rfl,bg⟩:=I.form;replace j:=j.be S;replace o:=o.be S;replace f:=f.be S;replace a:=aC a S;clear aq;have E:Below M.1.size M (M.alloc (.cells #[.slice A7 q.length c7] 40)):=(aG _ _).alloc aE _;replace j:=j.be E;replace o:=o.be E;replace I:=I.be E;replace f:=f.be E;replace a:=aC a E;have X:=Bx.new M [.slice A7 q.length c7] 40;have ad:=X.cell 0 rfl;obtain⟨a7,F,Y,av⟩:=id f;go_wp2_with (at_builtin;refine K4 rfl rfl 40 24 underlying101 Y3 w.1.size _ a7 rfl F M.1.size (.slice A7 q.length c7) rfl ad ⟨_,_,_,rfl⟩ (by rw[Y];omega) (by rw[Y];unfold maxLen;omega) a.size ?_;intro v8 w8 ao T J);have zf:=WsAt.push F Y av I ao T J;have zr:=j.grown F T J;have Z:=o.grown F T J;have zb:=K5 a J F aE;obtain⟨A8,c8,rfl,bh⟩:=zf.form;have al:(m++[q]).length=m.length+1:=by rw[bG];rfl
   clear ao T J F Y av f I j o a X ad E;generalize am:m++[q]=LS at *;have ay:=aB am;have ax:=aB al;clear am al;go_wp2_with fail;refine(a3 _ zr Z).mono ?_;rintro e9 w9 ⟨v9,rfl,h9,ac⟩;obtain⟨A9,c9,rfl,bi⟩:=h9.form;replace Z:=Z.be ac;replace zf:=zf.be ac;replace zb:=aC zb ac;go_wp2;go_roundg n'
   case rel=>exact⟨Qr,c,A9,c9,A6,c6,LS,rfl,rfl,h9,Z,zf,a0,by omega,by have:=ax.out;omega,fun l t=>by have:=HE.out l t;rw[<-ay.out,eK];exact this,zb⟩
   case measure=>omega
def G9(a:List Int):List (List UInt8):=(tT a (cf a (a.length-1))).map cW
def cqY(w:World)(B:Nat)(a:List Int)(e:Ending)(w':World):Prop:=
 ∃v g Q l,e= .returned (.tuple #[v,.int .i64 0])∧TsAt w' w.1.size 22 v (l.map G9)∧pO B (aS a) (bB (aS a)) g∧QuoOf (aS a) g Q∧Sqf B Q g l∧Below w.1.size w w'
def WsAt.mono{B a:Nat}{b:List (List Int)}(h:WsAt w B 40 v b)(j:a<=B):WsAt w a 40 v b:=by
 obtain⟨l,e,f,i⟩:=h;refine⟨l,?_,f,i⟩;rcases e with h|⟨g,c,d,hv,k,h⟩
 ·exact .inl h
 ·exact .inr ⟨g,c,d,hv,aH j k,h⟩
def WsAt.grown{B:Nat}{K:List Value}{p:List (List Int)}(h:WsAt w k 40 u p)(G:PRow w B 22 v K)(E:Keep w w')(C:w.grownBy w' v.ownBlock):WsAt w' k 40 u p:=by
 have o:∀(b:Nat) (n:Array Value) (t:TypeId),w.heap[b]? =some (Obj.cells n t (0,0))->t≠22->w'.heap[b]? =w.heap[b]? :=fun b n t a H=>by
  refine C.block b (Array.getElem?_eq_some_iff.1 a).1 (fun e=> ?_);rcases G with ⟨rfl,_⟩|⟨g,m,f,rfl,_,d,_⟩
  ·simp[Value.ownBlock] at e
  ·simp[Value.ownBlock] at e;subst e;rw[d] at a;injection a with a;injection a with _ a;exact H a.symm
 obtain⟨us,r,s,y⟩:=h;refine⟨us,?_,s,fun i x l I F=> ?_⟩
 ·rcases r with h|⟨g,m,f,hv,a,d,h⟩
  ·exact .inl h
  ·exact .inr ⟨g,m,f,hv,a,(o g f 40 d (by decide)).trans d,h⟩
 ·obtain⟨A,c,e,z,h⟩:=y i x l I F;refine⟨A,c,e,z,?_⟩;rcases h with h|⟨b,J,q,j,D⟩
  ·exact .inl h
  ·exact .inr ⟨b,J,q,⟨(o b _ 43 j.1 (by decide)).trans j.1,j.2⟩,D.ke E⟩
def cqZ(a:List (List UInt8))(va:Value)(w:World)(N:Glob w)(R:StrsAt w va a)(ay:a.length<=1073741824)(p:Nat)(af:a.length<=65->∀l∈a,l.length<=1073741824)(ae:a.length<=65->∀q∈aU a,RL p q)(a4:p<=1024)
  (hv:vl a=true)(h0:a≠[])(K B:Nat)(ad:1<=K)(au:K<=1073741824)(ar:5*B+8<=aJ)(L:Nat->List Int->List Int->Prop)(hI:SqfInv K B L)
  (al:∀D,ComDen (aU a) D (1+65*p)->(∀n∈cC (aU a) D,nl n.natAbs<=K)∧GcdFit K B (aS (cC (aU a) D)) (bB (aS (cC (aU a) D)))∧
   ∀g,pO B (aS (cC (aU a) D)) (bB (aS (cC (aU a) D))) g->∃Q n,QuoOf (aS (cC (aU a) D)) g Q∧(∀x∈g,nl x.natAbs<=K)∧(∀x∈Q,nl x.natAbs<=K)∧g.length<=1073741824∧n<=1073741824∧L n Q g)
  (ag:∀D Q g l,ComDen (aU a) D (1+65*p)->pO B (aS (cC (aU a) D)) (bB (aS (cC (aU a) D))) g->QuoOf (aS (cC (aU a) D)) g Q->Sqf B Q g l->l.length<=1073741824∧∀f∈l,f≠[]∧f.length<=1073741824∧∀n∈f,nl n.natAbs<=K):
  Calls prog 18 #[va] w fun e w'=>∃D,ComDen (aU a) D (1+65*p)∧cqY w B (cC (aU a) D) e w':=by
 obtain⟨A,c,rfl,hc⟩:=R.form;go_enter func18,ntmps18;go_wp2_with fail;refine(azT a _ _ N R ay af p (1+65*p) ae aE (by unfold aJ;omega)).mono ?_;rintro e1 G ⟨v1,bg,xs,D,rfl,F,hD,an,d⟩;obtain⟨A1,c1,rfl,a6⟩:=F.form;obtain⟨s1,B1,k1,d1,rfl⟩:=hD.form;obtain⟨rfl,s⟩:=an hv;obtain⟨p1, -,t1⟩:=pJ hv;obtain⟨kn,ai,ak⟩:=al D s;have ah:=fun Q g l=>ag D Q g l s;have a1:=oO s.pos s.dvd t1;have Z:(cC (aU a) D).length=a.length:=by rw[oN];unfold aU;rw[cH]
 have lx:(cC (aU a) D).length<=65:=by rw[Z];exact p1
 have ln:(cC (aU a) D).length≠0:=by rw[Z];exact fun e=>h0 (bX e)
 have q0:(((cC (aU a) D).length:Int)==0)=false:=by rw[beq_eq_false_iff_ne];omega
 rw[hv];have ao:=aB s;clear al ag an s Z t1 p1 R ae af;have V:=fun W h=>fun d:Below w.1.size w W=>cqX (cC (aU a) D) (.slice A1 (cC (aU a) D).length c1) W (N.be d) h a1 K B kn ad (by unfold aJ;omega) ar (by omega) L hI ai ak;unfold bzX at V;go_wp2_with fail;have o:Below G.1.size G (G.alloc (.cells #[.bool s1,.slice B1 k1 d1] 43)):=(aG _ _).alloc aE _;replace F:=F.be o;replace d:=aC d o;clear o;generalize G.alloc (.cells #[.bool s1,.slice B1 k1 d1] 43)=w2 at *;refine(V _ F d).mono ?_;rintro e3 w3 ⟨v3,g,Q,l,rfl,m,U,O,P,av⟩;obtain⟨A3,c3,rfl,a7⟩:=m.form;obtain⟨ll,az⟩:=ah Q g l U O P;have I:=aB (And.intro U (And.intro O P));replace d:=aC d av;clear U O P ah V ak ai;go_wp2_with fail;go_loopg [7,24] l.length (fun k vf i wr=>∃j,Hid (j+k=l.length)∧i= .int .i64 j∧WsAt wr w2.1.size 40 (.slice A3 l.length c3) l∧TsAt wr w.1.size 22 vf ((l.take j).map G9)∧Below w.1.size w wr)
 case atStart=>exact⟨0,by unfold Hid;omega,rfl,m,RowsAt.nil _ _ _ _,d⟩
 case round=>
  clear m d;obtain⟨j,J,rfl,m,t,d⟩:=hrel;generalize wr=wy at *;have bb:(0:Int)<=(j:Int):=by omega
  obtain⟨Af,aq,rfl,a9⟩:=t.form;cases gk with
  |zero=>
   have hj:j=l.length:=J.out;subst hj;rw[F9] at t;go_wp2_with fail;refine aM (v:= .tuple #[.slice Af (l.map G9).length aq,.int .i64 0]) (by simp[results,results18,go_sem]) rfl ⟨D,ao.out,_,g,Q,l,rfl,t,I.out.1,I.out.2.1,I.out.2.2,d⟩
  |succ k=>
   have aw:j<l.length:=by have:=J.out;omega
   have bc:(j:Int)<(l.length:Int):=by omega
   obtain⟨f,C⟩:∃f,l[j]? =some f:=⟨_,aR aw⟩;obtain⟨b,u,rfl,a5,hu,aj⟩:=m.at_ C;obtain⟨Au,cu,rfl,ba⟩:=aj.form;obtain⟨f0,fl,fk⟩:=az f (dG C);have am:(l.take (j+1)).map G9=(l.take j).map G9++[G9 f]:=by
    rw[kR,C,azM];rfl
   have ac:=aB am;have bf:((l.take j).map G9).length<=1073741824:=by rw[cH,bK];omega
   clear am C;generalize (l.take j).map G9=TS at *;go_wp2_with fail;refine(cxC f _ _ (N.be d) aj f0 K fk ad au fl).mono ?_;rintro e5 y ⟨v5,rfl,h5,S⟩;obtain⟨r,ab⟩:∃r,Hid (G9 f=r):=⟨_,rfl⟩;have z:StrsAt y v5 r:=by rw[<-ab.out];exact h5
   clear h5;rw[ab.out] at ac;obtain⟨H,M,rfl,a8⟩:=z.form;have o:Below y.1.size y (y.alloc (.cells #[.slice H r.length M] 22)):=(aG _ _).alloc aE _;replace m:=(m.be S).be o;replace t:=(t.be S).be o;replace z:=z.be o;replace d:=aC d S;replace d:=aC d o;have X:=Bx.new y [.slice H r.length M] 22;have ap:=X.cell 0 rfl;obtain⟨a3,E,Y,a2⟩:=id t;go_wp2_with (at_builtin;refine K4 rfl rfl 22 24 underlying33 dx0 w.1.size _ a3 rfl E y.1.size (.slice H r.length M) rfl ap ⟨_,_,_,rfl⟩ (by rw[Y];omega) (by rw[Y];unfold maxLen;omega) d.size ?_;intro v8 w8 a0 ax T);have zf:=TsAt.push E Y a2 z a0 T;have z3:=WsAt.grown m E ax T;have zb:=K5 d T E aE;rw[<-ac.out] at zf;go_roundg k
   case rel=>exact⟨j+1,by have:=J.out;unfold Hid;omega,by go_num,z3,zf,zb⟩
   case measure=>omega
def cxH:dyS [45,49]=some (-1):=by decide
def LY:dyS [48]=some 0:=by decide
def ayM:dyS [49]=some 1:=by decide
def byC:dyS [50]=some 2:=by decide
def ayN:dyS [45,50]=some (-2):=by decide
def cxI:dyS [45,51]=some (-3):=by decide
def cqC:dyS [45,49,47,52]=some (mkRat (-1) 4):=by
 unfold dyS;rw[show iA [45,49,47,52]=some (true,[49],[52]) by decide];simp only[];rw[if_neg (by decide),if_pos (by decide)];rfl
def cqD:dyS [49,47,50]=some (mkRat 1 2):=by
 unfold dyS;rw[show iA [49,47,50]=some (false,[49],[50]) by decide];simp only[];rw[if_neg (by decide),if_pos (by decide)];rfl
def cqE:dyS [49,47,52]=some (mkRat 1 4):=by
 unfold dyS;rw[show iA [49,47,52]=some (false,[49],[52]) by decide];simp only[];rw[if_neg (by decide),if_pos (by decide)];rfl
def cqF:mkRat (-1) 4= -1/4:=by rw[Rat.mkRat_eq_div];rfl
def cqG:mkRat 1 2=1/2:=by rw[Rat.mkRat_eq_div];rfl
def cqH:mkRat 1 4=1/4:=by rw[Rat.mkRat_eq_div];rfl
def bzQ:aU [[48],[48],[49]]=[0,0,1]:=by unfold aU;simp only[List.map,LY,ayM];rfl
def bzR:aU [[49],[50]]=[1,2]:=by unfold aU;simp only[List.map,ayM,byC];rfl
def bzS:aU [[45,49],[49]]=[-1,1]:=by unfold aU;simp only[List.map,cxH,ayM];rfl
def bzT:aU [[45,51],[49]]=[-3,1]:=by unfold aU;simp only[List.map,cxI,ayM];rfl
def aqW:aU [[48],[48],[45,50],[50]]=[0,0, -2,2]:=by unfold aU;simp only[List.map,LY,ayN,byC];rfl
def aqX{a:List (List UInt8)}{b:List Rat}(h:aU a=b)(c:a.length<=65)(d:a.all rd=true)(e:b.getLast?≠some 0):vl a=true:=by
 unfold vl;rw[iQ,h];exact⟨c,d,e⟩
def cqI:vl [[48],[48],[49]]=true:=aqX bzQ (by decide) (by simp[rd,LY,ayM]) (by decide)
def cqJ:vl [[49],[50]]=true:=aqX bzR (by decide) (by simp[rd,ayM,byC]) (by decide)
def cxJ:vl [[45,49],[49]]=true:=aqX bzS (by decide) (by simp[rd,cxH,ayM]) (by decide)
def cxK:vl [[45,51],[49]]=true:=aqX bzT (by decide) (by simp[rd,cxI,ayM]) (by decide)
def cqK:vl [[48],[48],[45,50],[50]]=true:=aqX aqW (by decide) (by simp[rd,LY,ayN,byC]) (by decide)
def cxL{n:Int}(h:n.natAbs<BN):RL 1 (n:Rat):=⟨cJ (by rw[GA];exact h),cJ (by rw[GA];show 1<BN;decide)⟩
def aqY{a:List Rat}(h:∀q∈a,∃n:Int,q=n∧n.natAbs<BN):∀q∈a,RL 1 q:=fun q b=>by
 obtain⟨n,rfl,hn⟩:=h q b;exact cxL hn
def cqL:∀q∈([0,0,1]:List Rat),RL 1 q:=aqY (fun q a=>by
 simp at a;rcases a with rfl|rfl
 ·exact⟨0,rfl,by decide⟩
 ·exact⟨1,rfl,by decide⟩)
def cqM:∀q∈([1,2]:List Rat),RL 1 q:=aqY (fun q a=>by
 simp at a;rcases a with rfl|rfl
 ·exact⟨1,rfl,by decide⟩
 ·exact⟨2,rfl,by decide⟩)
def cqN:∀q∈([-1,1]:List Rat),RL 1 q:=aqY (fun q a=>by
 simp at a;rcases a with rfl|rfl
 ·exact⟨-1,rfl,by decide⟩
 ·exact⟨1,rfl,by decide⟩)
def cqO:∀q∈([-3,1]:List Rat),RL 1 q:=aqY (fun q a=>by
 simp at a;rcases a with rfl|rfl
 ·exact⟨-3,rfl,by decide⟩
 ·exact⟨1,rfl,by decide⟩)
def cqP:∀q∈([0,0, -2,2]:List Rat),RL 1 q:=aqY (fun q a=>by
 simp at a;rcases a with rfl|rfl|rfl
 ·exact⟨0,rfl,by decide⟩
 ·exact⟨-2,rfl,by decide⟩
 ·exact⟨2,rfl,by decide⟩)
def cqQ{Q:List Rat}(h:DivRes [0,0,1] [1,2] Q R K):Q=[mkRat (-1) 4,mkRat 1 2]∧R=[mkRat 1 4]:=by
 have s:=h.q_len;have t:=h.r_lt;have z:∀i,3<=i->cf Q i=0:=fun i r=>bV (by simp at s;omega);have c:∀i,1<=i->cf R i=0:=fun i r=>bV (by simp at t;omega);have q:=h.id_ 3;have p:=h.id_ 2;have o:=h.id_ 1;have n:=h.id_ 0;have j:cf ([1,2]:List Rat) 0=1:=rfl;have k:cf ([1,2]:List Rat) 1=2:=rfl;have l:cf ([1,2]:List Rat) 2=0:=rfl;have m:cf ([1,2]:List Rat) 3=0:=rfl;have d:cf ([0,0,1]:List Rat) 0=0:=rfl;have e:cf ([0,0,1]:List Rat) 1=0:=rfl;have f:cf ([0,0,1]:List Rat) 2=1:=rfl;have g:cf ([0,0,1]:List Rat) 3=0:=rfl;simp only[conv,bW,azA,dzC,Nat.reduceSub,Nat.reduceAdd,j,k,l,m,d,e,f,g,z 3 (by omega),c 3 (by omega),c 2 (by omega),c 1 (by omega)] at q p o n;rw[cqF,cqG,cqH];have w:cf Q 2=0:=by grind
 have v:cf Q 1=1/2:=by grind
 have u:cf Q 0= -1/4:=by grind
 have x:cf R 0=1/4:=by grind
 refine⟨oZ h.q_trim (fun a b=> ?_) (fun i=> ?_),oZ h.r_trim (fun a b=> ?_) (fun i=> ?_)⟩
 ·simp at b;rw[<-b];grind
 ·match i with
  |0=>exact u
  |1=>exact v
  |2=>exact w
  |i+3=>rw[z (i+3) (by omega),bV (by simp)]
 ·simp at b;rw[<-b];grind
 ·match i with
  |0=>exact x
  |i+1=>rw[c (i+1) (by omega),bV (by simp)]
def cxM(D:Int)(x:Int):cC [(x:Rat),1] D=[x*D,D]:=by
 unfold cC;show[x*D.tdiv (1:Int),1*D.tdiv (1:Int)]=_
 rw[Int.tdiv_one,y8]
def bzU(D:Int):cC [0,0, -2,2] D=[0,0, -2*D,2*D]:=by
 unfold cC;show[0*D.tdiv (1:Int),0*D.tdiv (1:Int), -2*D.tdiv (1:Int),2*D.tdiv (1:Int)]=_
 rw[Int.tdiv_one,azK]
def bzV(b:0<D):aS [0,0, -2*D,2*D]=[0,0, -1,1]:=by
 have a:(bC [0,0, -2*D,2*D]:Int)=2*D:=by
  rw[CK,CK,CK,CK,JP,Nat.gcd_zero_left,fL,fL];show((Nat.gcd (Nat.gcd (Nat.gcd (2*D.natAbs) (2*D.natAbs)) 0) 0:Nat):Int)=_
  rw[Nat.gcd_self,OA,OA];omega
 unfold aS jX;rw[a];show[(0:Int).tdiv (2*D),(0:Int).tdiv (2*D),(-2*D).tdiv (2*D),(2*D).tdiv (2*D)]=_
 rw[Int.zero_tdiv,Int.tdiv_self (by omega),show -2*D= -(2*D) by omega,Int.neg_tdiv,Int.tdiv_self (by omega)]
def cxN(n:Nat)(p r:List Int):Prop:=(n=2∧p=[0,1, -1]∧r=[0, -1])∨(n=1∧p=[0, -1]∧r=[1])∨(n=0∧p=[1]∧r=[1])
def DA{l:List Int}(a:1<=K)(h:l.all (fun n=>decide (n.natAbs<BN))=true):∀n∈l,nl n.natAbs<=K:=fun n hn=>by
 have:=List.all_eq_true.1 h n hn;exact aH (cJ (by rw[GA];exact of_decide_eq_true this)) a
def cqR:SqfInv 100 1000000 cxN:=by
 refine⟨fun n p r h=> ?_,fun n p r c h b a=> ?_⟩
 ·rcases h with ⟨rfl,rfl,rfl⟩|⟨rfl,rfl,rfl⟩|⟨rfl,rfl,rfl⟩;all_goals exact⟨oB rfl,oB rfl,DA (by decide) (by decide),DA (by decide) (by decide),by decide,by decide,by decide,by decide⟩
 ·rcases h with ⟨rfl,rfl,rfl⟩|⟨rfl,rfl,rfl⟩|⟨rfl,rfl,rfl⟩
  ·rw[cxA a];exact⟨[-1,1],[1],1,by decide,⟨oB rfl,by decide,oB rfl,dzW (n:=6) (by decide) (by decide) (by decide)⟩,⟨oB rfl,by decide,oB rfl,dzW (n:=6) (by decide) (by decide) (by decide)⟩,DA (by decide) (by decide),DA (by decide) (by decide),DA (by decide) (by decide),by decide,.inr (.inl ⟨rfl,rfl,rfl⟩)⟩
  ·rw[cxB a];exact⟨[0, -1],[1],0,by decide,⟨oB rfl,by decide,oB rfl,dzW (n:=6) (by decide) (by decide) (by decide)⟩,⟨oB rfl,by decide,oB rfl,dzW (n:=6) (by decide) (by decide) (by decide)⟩,DA (by decide) (by decide),DA (by decide) (by decide),DA (by decide) (by decide),by decide,.inr (.inr ⟨rfl,rfl,rfl⟩)⟩
  ·exact absurd b (by decide)
def aqZ{c Q':List Int}(h:QuoOf x c Q)(h':QuoOf x c Q'):Q=Q':=by
 refine oZ h.trim h'.trim (fun i=> ?_)
 have a:=YJ (d:=fun j=>cf Q j+(-1)*cf Q' j) (L:=Q.length+Q'.length) h.ne h.tc (fun i b=>by
  show cf Q i+(-1)*cf Q' i=0
  rw[bV (by omega),bV (by omega)];simp) (fun i _=>by
  rw[qD,X7,<-h.id_,<-h'.id_];omega) i
 have e:cf Q i+(-1)*cf Q' i=0:=a;omega
def cxO{g:List Int}{l:List (List Int)}(m:pO 1000000 [0,0, -1,1] [0, -2,3] g)(k:QuoOf [0,0, -1,1] g Q)(h:Sqf 1000000 Q g l):l=[[-1,1],[0, -1]]:=by
 have a:=cx9 m;subst a;have b:Q=[0,1, -1]:=aqZ k ⟨oB rfl,by decide,oB rfl,dzW (n:=6) (by decide) (by decide) (by decide)⟩;subst b;cases h with
 |done h=>simp at h
 |step w o q s u=>
  have c:=cxA o;subst c;have d:=aqZ q (Q':=[-1,1]) ⟨oB rfl,by decide,oB rfl,dzW (n:=6) (by decide) (by decide) (by decide)⟩;have e:=aqZ s (Q':=[1]) ⟨oB rfl,by decide,oB rfl,dzW (n:=6) (by decide) (by decide) (by decide)⟩;subst d;subst e;cases u with
  |done h=>simp at h
  |step x p r t v=>
   have f:=cxB p;subst f;have i:=aqZ r (Q':=[0, -1]) ⟨oB rfl,by decide,oB rfl,dzW (n:=6) (by decide) (by decide) (by decide)⟩;have j:=aqZ t (Q':=[1]) ⟨oB rfl,by decide,oB rfl,dzW (n:=6) (by decide) (by decide) (by decide)⟩;subst i;subst j;cases v with
   |done=>rfl
   |step h _ _ _ _=>simp at h
def cqS:G9 [0, -1]=[[48],[49]]:=by
 unfold G9 tT;show[cW (((0:Int):Rat)/((-1:Int):Rat)),cW (((-1:Int):Rat)/((-1:Int):Rat))]=_
 rw[show((0:Int):Rat)/((-1:Int):Rat)=0 by grind,show((-1:Int):Rat)/((-1:Int):Rat)=1 by grind,tL LY,tL ayM]
def cz9(P Q:Value)(w:World)(j:Glob w)(o:StrsAt w P [[45,49],[49]])(p:StrsAt w Q [[45,51],[49]]):
  Calls prog 7 #[P,Q] w fun e w'=>e= .returned (.tuple #[.string ⟨#[45,50]⟩,.int .i64 0])∧Below w.1.size w w':=by
 obtain⟨A,c,rfl,hc⟩:=o.form;obtain⟨R,Y,rfl,ad⟩:=p.form;replace o:StrsAt w (.slice A 2 c) [[45,49],[49]]:=o;replace p:StrsAt w (.slice R 2 Y) [[45,51],[49]]:=p;go_enter func7,ntmps7;go_wp2_with fail;refine(azT [[45,49],[49]] _ _ j o (by decide) (fun _=>by decide) 1 66 (fun _=>by rw[bzS];exact cqN) (by decide) (by unfold aJ;decide)).mono ?_;rintro e1 h ⟨v1,ag,xs,D,rfl,b,d,L,a⟩;obtain⟨rfl,s⟩:=L cxJ;rw[bzS] at b s;have G:cC [-1,1] D=[-1*D,D]:=cxM D (-1);rw[G] at b;obtain⟨S,Z,rfl,ae⟩:=b.form;replace b:WholeAt h (.slice S 2 Z) [-1*D,D]:=b;obtain⟨B,l,z,m,rfl⟩:=d.form;rw[cxJ];clear L G;go_wp2_with fail;have r:Below h.1.size h (h.alloc (.cells #[.bool B,.slice l z m] 43)):=(aG _ _).alloc aE _;have X:=Bx.new h [.bool B,.slice l z m] 43;replace b:=b.be r;replace d:=d.be r;replace a:=aC a r;clear r;generalize h.1.size=I at *;generalize h.alloc (.cells #[.bool B,.slice l z m] 43)=w2 at *;refine(azT [[45,51],[49]] _ _ (j.be a) (p.be a) (by decide) (fun _=>by decide) 1 66 (fun _=>by rw[bzT];exact cqO) (by decide) (by unfold aJ;decide)).mono ?_;rintro e3 i ⟨v3,ah,ys,E,rfl,f,n,M,q⟩;obtain⟨rfl,t⟩:=M cxK;rw[bzT] at f t;have H:cC [-3,1] E=[-3*E,E]:=cxM E (-3);rw[H] at f;obtain⟨T,c3,rfl,af⟩:=f.form;replace f:WholeAt i (.slice T 2 c3) [-3*E,E]:=f;obtain⟨O,C,N,F,rfl⟩:=n.form;rw[cxK];clear M H;replace X:=X.be q;replace b:=b.be q;replace d:=d.be q;replace a:=aC a q;have U:∀g:Obj,(i.alloc g).cell? ⟨I,0,none⟩=some (.bool B):=fun g=>(X.alloc g).cell 0 rfl;have V:∀g:Obj,(i.alloc g).cell? ⟨I,1,none⟩=some (.slice l z m):=fun g=>(X.alloc g).cell 1 rfl;have J:=fun W v u x y j h1 h2 h3 h4=>czA D E s.pos t.pos (aH s.nl_ (by decide)) (aH t.nl_ (by decide)) v u x y W j h1 h2 h3 h4;unfold iF at J;clear s t;go_wp2_with fail;have k:Below i.1.size i (i.alloc (.cells #[.bool O,.slice C N F] 43)):=(aG _ _).alloc aE _;replace b:=b.be k;replace f:=f.be k;replace d:=d.be k;replace n:=n.be k;replace a:=aC a k;clear k X U V;generalize i.alloc (.cells #[.bool O,.slice C N F] 43)=w4 at *;refine(J _ _ _ _ _ (j.be a) b f d n).mono ?_;rintro e5 w5 ⟨v5,rfl,h5,ab⟩;replace a:=aC a ab;have K:=I4 _ _ _ (j.be a) h5 1 (cxL (by decide)) (by decide);rw[show cW ((-2:Int):Rat)=[45,50] from tL ayN] at K;go_wp2_with fail;refine K.mono ?_;rintro e6 w6 ⟨rfl,ac⟩;replace a:=aC a ac;go_wp2_with fail;exact aM (v:= .tuple #[.string ⟨#[45,50]⟩,.int .i64 0]) (by simp[results,results7,go_sem]) rfl ⟨rfl,a⟩
def StrsAt.built(w:World)(a:List (List UInt8))(t:TypeId):StrsAt (w.alloc (.cells (a.map (fun l=>Value.string ⟨l.toArray⟩)).toArray t)) (.slice (some ⟨w.1.size,0,none⟩) a.length a.length) a:=by
 refine⟨_,_,rfl,aE,.inr ⟨w.1.size,0,rfl,by simp,fun i l b=> ?_⟩⟩;have B:=Bx.new w (a.map (fun l=>Value.string ⟨l.toArray⟩)) t;rw[bA];exact B.cell i (by rw[iK,b];rfl)
def bzC(a:List (List UInt8))(b c:Value)(w:World)(f:StrsAt w b a)(g:StrsAt w c a)(d:a.length<=1099511627776):
  Calls prog 15 #[b,c] w fun e w'=>e= .returned (.bool true)∧Below w.1.size w w':=
 (dx1 a a b c w f g d d).mono (fun e w' h=>⟨by rw[h.1,decide_eq_true rfl],h.2⟩)
def cz6:GcdFit 100 1000000 [0,0, -1,1] [0, -2,3]:=⟨oB rfl,oB rfl,DA (by decide) (by decide),DA (by decide) (by decide),by decide,by decide,by decide,by decide⟩
def cz7(a:nl D.natAbs<=66):∀n∈[0,0, -2*D,2*D],nl n.natAbs<=100:=fun n hn=>by
 simp only[List.mem_cons,List.not_mem_nil,or_false] at hn;have b:nl (2:Int).natAbs<=1:=cJ (by decide);have c:nl (-2:Int).natAbs<=1:=cJ (by decide);have d:nl (0:Int).natAbs<=1:=cJ (by decide);rcases hn with rfl|rfl|rfl|rfl
 ·omega
 ·omega
 ·exact aH (gT _ _ _ _ c a) (by decide)
 ·exact aH (gT _ _ _ _ b a) (by decide)
def cz8(h:Value)(w:World)(k:Glob w)(m:StrsAt w h [[48],[48],[45,50],[50]]):
  Calls prog 18 #[h] w fun e w'=>∃v,e= .returned (.tuple #[v,.int .i64 0])∧TsAt w' w.1.size 22 v [G9 [-1,1],[[48],[49]]]∧Below w.1.size w w':=by
 refine(cqZ [[48],[48],[45,50],[50]] h w k m (by decide) 1 (fun _=>by decide) (fun _=>by rw[aqW];exact cqP) (by decide) cqK (by decide) 100 1000000 (by decide) (by decide) (by unfold aJ;decide) cxN cqR ?_ ?_).mono ?_
 ·intro D b;rw[aqW] at b⊢;rw[bzU,bzV b.pos,bzN];refine⟨cz7 (aH b.nl_ (by decide)),cz6,fun g a=> ?_⟩;rw[cx9 a];exact⟨[0,1, -1],2,⟨oB rfl,by decide,oB rfl,dzW (n:=6) (by decide) (by decide) (by decide)⟩,DA (by decide) (by decide),DA (by decide) (by decide),by decide,by decide,.inl ⟨rfl,rfl,rfl⟩⟩
 ·intro D Q g l b a c d;rw[aqW] at b a c;rw[bzU,bzV b.pos] at a c;rw[bzN] at a;rw[cxO a c d];refine⟨by decide,fun f j=> ?_⟩;simp only[List.mem_cons,List.not_mem_nil,or_false] at j;rcases j with rfl|rfl
  ·exact⟨by decide,by decide,DA (by decide) (by decide)⟩
  ·exact⟨by decide,by decide,DA (by decide) (by decide)⟩
 ·rintro e w' ⟨D,b,v,g,Q,l,rfl,i,a,c,d,o⟩;rw[aqW] at b a c;rw[bzU,bzV b.pos] at a c;rw[bzN] at a;rw[cxO a c d] at i;refine⟨v,rfl,?_,o⟩;rw[<-cqS];exact i
def PX(w:World)(B:Glob w):Calls prog 6 #[] w fun e w'=>e= .returned (.bool true)∧Below w.1.size w w':=by
 go_enter func6,ntmps6;go_wp2_with fail;have c:Below w.1.size w (w.alloc (.cells #[.string ⟨#[48]⟩,.string ⟨#[48]⟩,.string ⟨#[49]⟩] 9)):=(aG _ _).alloc aE _;have p:Below w.1.size w ((w.alloc (.cells #[.string ⟨#[48]⟩,.string ⟨#[48]⟩,.string ⟨#[49]⟩] 9)).alloc (.cells #[.string ⟨#[49]⟩,.string ⟨#[50]⟩] 9)):=c.alloc (by simp) _;have h:StrsAt ((w.alloc (.cells #[.string ⟨#[48]⟩,.string ⟨#[48]⟩,.string ⟨#[49]⟩] 9)).alloc (.cells #[.string ⟨#[49]⟩,.string ⟨#[50]⟩] 9)) (.slice (some ⟨w.1.size,0,none⟩) 3 3) [[48],[48],[49]]:=(StrsAt.built w [[48],[48],[49]] 9).be ((aG _ _).alloc aE _);have y:StrsAt ((w.alloc (.cells #[.string ⟨#[48]⟩,.string ⟨#[48]⟩,.string ⟨#[49]⟩] 9)).alloc (.cells #[.string ⟨#[49]⟩,.string ⟨#[50]⟩] 9)) (.slice (some ⟨w.1.size+1,0,none⟩) 2 2) [[49],[50]]:=by
  have:=StrsAt.built (w.alloc (.cells #[.string ⟨#[48]⟩,.string ⟨#[48]⟩,.string ⟨#[49]⟩] 9)) [[49],[50]] 9;rw[World.size_alloc] at this;exact this
 have a:=p;clear c p;generalize (w.alloc (.cells #[.string ⟨#[48]⟩,.string ⟨#[48]⟩,.string ⟨#[49]⟩] 9)).alloc (.cells #[.string ⟨#[49]⟩,.string ⟨#[50]⟩] 9)=W at *;refine(cqW [[48],[48],[49]] [[49],[50]] _ _ _ (B.be a) h y (by decide) (by decide) 1 (fun _=>by decide) (fun _=>by decide) (fun _=>by rw[bzQ];exact cqL) (fun _=>by rw[bzR];exact cqM) (by decide)).mono ?_;rintro T g ⟨v,u,n,Q,R,rfl,hv,D,E, -, -,F⟩;obtain⟨rfl,C⟩:=F cqI cqJ (by decide);rw[bzQ,bzR] at C;obtain⟨rfl,rfl⟩:=cqQ C;have f:StrsAt g v [[45,49,47,52],[49,47,50]]:=by
  have e:List.map cW [mkRat (-1) 4,mkRat 1 2]=[[45,49,47,52],[49,47,50]]:=by
   show[cW (mkRat (-1) 4),cW (mkRat 1 2)]=_
   rw[tL cqC,tL cqD]
  rw[e] at hv;exact hv
 have d:StrsAt g u [[49,47,52]]:=by
  have e:List.map cW [mkRat 1 4]=[[49,47,52]]:=by
   show[cW (mkRat 1 4)]=_
   rw[tL cqE]
  rw[e] at D;exact D
 obtain⟨J,N,rfl, -⟩:=f.form;obtain⟨I,M,rfl, -⟩:=d.form;replace f:StrsAt g (.slice J 2 N) [[45,49,47,52],[49,47,50]]:=f;replace d:StrsAt g (.slice I 1 M) [[49,47,52]]:=d;replace a:=aC a E;clear h y hv D F C E;go_wp2_with fail;have c:Below g.1.size g (g.alloc (.cells #[.string ⟨#[45,49]⟩,.string ⟨#[49]⟩] 9)):=(aG _ _).alloc aE _;have p:Below g.1.size g ((g.alloc (.cells #[.string ⟨#[45,49]⟩,.string ⟨#[49]⟩] 9)).alloc (.cells #[.string ⟨#[45,51]⟩,.string ⟨#[49]⟩] 9)):=c.alloc (by simp) _;have h:StrsAt ((g.alloc (.cells #[.string ⟨#[45,49]⟩,.string ⟨#[49]⟩] 9)).alloc (.cells #[.string ⟨#[45,51]⟩,.string ⟨#[49]⟩] 9)) (.slice (some ⟨g.1.size,0,none⟩) 2 2) [[45,49],[49]]:=(StrsAt.built g [[45,49],[49]] 9).be ((aG _ _).alloc aE _);have y:StrsAt ((g.alloc (.cells #[.string ⟨#[45,49]⟩,.string ⟨#[49]⟩] 9)).alloc (.cells #[.string ⟨#[45,51]⟩,.string ⟨#[49]⟩] 9)) (.slice (some ⟨g.1.size+1,0,none⟩) 2 2) [[45,51],[49]]:=by
  have:=StrsAt.built (g.alloc (.cells #[.string ⟨#[45,49]⟩,.string ⟨#[49]⟩] 9)) [[45,51],[49]] 9;rw[World.size_alloc] at this;exact this
 replace f:=f.be p;replace d:=d.be p;replace a:=aC a p;clear c p;generalize (g.alloc (.cells #[.string ⟨#[45,49]⟩,.string ⟨#[49]⟩] 9)).alloc (.cells #[.string ⟨#[45,51]⟩,.string ⟨#[49]⟩] 9)=W at *;refine(cz9 _ _ _ (B.be a) h y).mono ?_;rintro U q ⟨rfl,z⟩;replace f:=f.be z;replace d:=d.be z;replace a:=aC a z;clear h y z;go_wp2_with fail;have c:Below q.1.size q (q.alloc (.cells #[.string ⟨#[48]⟩,.string ⟨#[48]⟩,.string ⟨#[45,50]⟩,.string ⟨#[50]⟩] 9)):=(aG _ _).alloc aE _;have h:StrsAt (q.alloc (.cells #[.string ⟨#[48]⟩,.string ⟨#[48]⟩,.string ⟨#[45,50]⟩,.string ⟨#[50]⟩] 9)) (.slice (some ⟨q.1.size,0,none⟩) 4 4) [[48],[48],[45,50],[50]]:=StrsAt.built q [[48],[48],[45,50],[50]] 9;replace f:=f.be c;replace d:=d.be c;replace a:=aC a c;clear c;generalize q.alloc (.cells #[.string ⟨#[48]⟩,.string ⟨#[48]⟩,.string ⟨#[45,50]⟩,.string ⟨#[50]⟩] 9)=W at *;refine(cz8 _ _ (B.be a) h).mono ?_;rintro V m ⟨v3,rfl,j,A⟩;obtain⟨G,K,rfl, -⟩:=j.form;replace j:TsAt m W.1.size 22 (.slice G 2 K) [G9 [-1,1],[[48],[49]]]:=j;replace f:=f.be A;replace d:=d.be A;replace a:=aC a A;clear h A;go_wp2_with fail;have c:Below m.1.size m (m.alloc (.cells #[.string ⟨#[45,49,47,52]⟩,.string ⟨#[49,47,50]⟩] 9)):=(aG _ _).alloc aE _;have h:StrsAt (m.alloc (.cells #[.string ⟨#[45,49,47,52]⟩,.string ⟨#[49,47,50]⟩] 9)) (.slice (some ⟨m.1.size,0,none⟩) 2 2) [[45,49,47,52],[49,47,50]]:=StrsAt.built m [[45,49,47,52],[49,47,50]] 9;(try replace f:=f.be c);(try replace d:=d.be c);(try replace j:=j.be c);(try replace k:=k.be c);replace a:=aC a c;clear c;generalize m.alloc (.cells #[.string ⟨#[45,49,47,52]⟩,.string ⟨#[49,47,50]⟩] 9)=O at *;refine(bzC _ _ _ _ f h (by decide)).mono ?_;rintro X r ⟨rfl,s⟩;(try replace f:=f.be s);(try replace d:=d.be s);(try replace j:=j.be s);replace a:=aC a s;clear h s;go_wp2_with fail;have c:Below r.1.size r (r.alloc (.cells #[.string ⟨#[49,47,52]⟩] 9)):=(aG _ _).alloc aE _;have h:StrsAt (r.alloc (.cells #[.string ⟨#[49,47,52]⟩] 9)) (.slice (some ⟨r.1.size,0,none⟩) 1 1) [[49,47,52]]:=StrsAt.built r [[49,47,52]] 9;(try replace f:=f.be c);(try replace d:=d.be c);(try replace j:=j.be c);(try replace k:=k.be c);replace a:=aC a c;clear c;generalize r.alloc (.cells #[.string ⟨#[49,47,52]⟩] 9)=P at *;refine(bzC _ _ _ _ d h (by decide)).mono ?_;rintro Y o ⟨rfl,t⟩;(try replace f:=f.be t);(try replace d:=d.be t);(try replace j:=j.be t);replace a:=aC a t;clear h t;obtain⟨b,u4,rfl,ab,ac,k⟩:=j.at_ (i:=1) (l:=[[48],[49]]) rfl;obtain⟨H,L,rfl, -⟩:=k.form;replace k:StrsAt o (.slice H 2 L) [[48],[49]]:=k;go_wp2_with fail;have c:Below o.1.size o (o.alloc (.cells #[.string ⟨#[48]⟩,.string ⟨#[49]⟩] 9)):=(aG _ _).alloc aE _;have h:StrsAt (o.alloc (.cells #[.string ⟨#[48]⟩,.string ⟨#[49]⟩] 9)) (.slice (some ⟨o.1.size,0,none⟩) 2 2) [[48],[49]]:=StrsAt.built o [[48],[49]] 9;(try replace f:=f.be c);(try replace d:=d.be c);(try replace j:=j.be c);(try replace k:=k.be c);replace a:=aC a c;clear c;generalize o.alloc (.cells #[.string ⟨#[48]⟩,.string ⟨#[49]⟩] 9)=S at *;refine(bzC _ _ _ _ k h (by decide)).mono ?_;rintro Z w7 ⟨rfl,x⟩;(try replace f:=f.be x);(try replace d:=d.be x);(try replace j:=j.be x);replace a:=aC a x;clear h x;go_wp2;go_ret;exact⟨rfl,a⟩
def jH(n:Nat)(a:List (List UInt8)):Bool:=a.all (fun l=>decide (l.length<=n))
def LX(n:Nat)(a:List (List UInt8))(v:Value)(w:World)(hv:StrsAt w v a)(hn:n<=1073741824)(G:a.length<=1073741824)(y:∀l∈a,l.length<=9223372036854775807):
  Calls prog 16 #[.int .i64 n,v] w fun e w'=>e= .returned (.bool (jH n a))∧w=w':=by
 obtain⟨A,c,rfl,C⟩:=hv.form;go_enter func16,ntmps16;go_wp2_with fail;go_loopg [5] a.length (fun k i wr=>∃j,Hid (j+k=a.length)∧i= .int .i64 j∧Hid (jH n (a.take j)=true)∧w=wr)
 case atStart=>exact⟨0,by unfold Hid;omega,rfl,rfl,rfl⟩
 case round=>
  obtain⟨j,f,rfl,g,rfl⟩:=hrel;have E:(0:Int)<=(j:Int):=by omega
  cases gk with
  |zero=>
   have m:j=a.length:=f.out;have r:Hid (jH n a=true):=by
    have:=g.out;rwa [m,F9] at this
   subst m;go_wp2;go_ret;rw[r.out];exact⟨rfl,rfl⟩
  |succ k=>
   have x:j<a.length:=by have:=f.out;omega
   have F:(j:Int)<(a.length:Int):=by omega
   obtain⟨t,d⟩:∃t,a[j]? =some t:=⟨_,aR x⟩;have p:jH n (a.take (j+1))=decide (t.length<=n):=by
    unfold jH;rw[kR,d,azB,aqJ];have:=g.out;unfold jH at this;rw[this];simp
   have o:¬t.length<=n->jH n a=false:=fun h=>by
    unfold jH;rw[List.all_eq_false];exact⟨t,dG d,by simpa using h⟩
   have u:=aB p;have s:=aB o;have I:=y t (dG d);obtain⟨b,J,rfl,B,D⟩:=hv.at_ d;have H:(⟨t.toArray⟩:ByteArray).size=t.length:=by simp[ByteArray.size]
   clear p o d g;by_cases q:t.length<=n
   ·have z:¬(n:Int)<(t.length:Int):=by omega
    go_wp2;go_roundg k
    case rel=>exact⟨j+1,by have:=f.out;unfold Hid;omega,by go_num,by unfold Hid;rw[u.out];exact decide_eq_true q,rfl⟩
    case measure=>omega
   ·have z:(n:Int)<(t.length:Int):=by omega
    go_wp2;go_ret;rw[s.out q];exact⟨rfl,rfl⟩
def bzY(w:World)(v:Value)(a:List (List (List UInt8))):Prop:=
 ∃g c,v= .slice (some ⟨g,0,none⟩) a.length c∧∀(i:Nat) (p:List (List UInt8)),a[i]? =some p->∃A d,w.cell? ⟨g,i,none⟩=some (.slice A p.length d)∧StrsAt w (.slice A p.length d) p
def Q5(n d:Nat)(a:List (List (List UInt8))):Bool:=a.all (fun p=>decide (p.length<=n)&&jH d p)
def dx2(n d:Nat)(a:List (List (List UInt8)))(v:Value)(w:World)(hv:bzY w v a)(hn:n<=1073741824)(z:d<=1073741824)(K:a.length<=1073741824)(C:∀p∈a,∀l∈p,l.length<=9223372036854775807):
  Calls prog 5 #[.int .i64 n,.int .i64 d,v] w fun e w'=>e= .returned (.bool (Q5 n d a))∧w=w':=by
 obtain⟨g,c,rfl,hv⟩:=hv;go_enter func5,ntmps5;go_wp2_with fail;go_loopg [7] a.length (fun k i wr=>∃j,Hid (j+k=a.length)∧i= .int .i64 j∧Hid (Q5 n d (a.take j)=true)∧w=wr)
 case atStart=>exact⟨0,by unfold Hid;omega,rfl,rfl,rfl⟩
 case round=>
  obtain⟨j,o,rfl,r,rfl⟩:=hrel;have I:(0:Int)<=(j:Int):=by omega
  cases gk with
  |zero=>
   have s:j=a.length:=o.out;have y:Hid (Q5 n d a=true):=by
    have:=r.out;rwa [s,F9] at this
   subst s;go_wp2;go_ret;rw[y.out];exact⟨rfl,rfl⟩
  |succ k=>
   have B:j<a.length:=by have:=o.out;omega
   have J:(j:Int)<(a.length:Int):=by omega
   obtain⟨p,m⟩:∃p,a[j]? =some p:=⟨_,aR B⟩;have u:Q5 n d (a.take (j+1))=(decide (p.length<=n)&&jH d p):=by
    unfold Q5;rw[kR,m,azB,aqJ];have:=r.out;unfold Q5 at this;rw[this];simp
   have t:(decide (p.length<=n)&&jH d p)=false->Q5 n d a=false:=fun h=>by
    unfold Q5;rw[List.all_eq_false];exact⟨p,dG m,by rw[h];simp⟩
   have q:=aB u;have b:=aB t;have D:=C p (dG m);obtain⟨A,dd,H,E⟩:=hv j p m;clear u t m r;by_cases x:p.length<=n
   ·have F:¬(n:Int)<(p.length:Int):=by omega
    have f:decide (p.length<=n)=true:=decide_eq_true x;rw[f] at q b;clear f;go_wp2_with fail;refine(LX d p _ _ E z (by omega) D).mono ?_;rintro G L ⟨rfl,rfl⟩;cases hs:jH d p with
    |true=>
     rw[hs] at q;clear b;go_wp2;go_roundg k
     case rel=>exact⟨j+1,by have:=o.out;unfold Hid;omega,by go_num,by unfold Hid;rw[q.out];rfl,rfl⟩
     case measure=>omega
    |false=>
     rw[hs] at b;go_wp2;go_ret;rw[b.out rfl];exact⟨rfl,rfl⟩
   ·have F:(n:Int)<(p.length:Int):=by omega
    have f:decide (p.length<=n)=false:=decide_eq_false x;rw[f] at b;clear f;go_wp2;go_ret;rw[b.out rfl];exact⟨rfl,rfl⟩
def bzZ{d:Nat}{b:List (List (List UInt8))}(h:Q5 n d b=true){p:List (List UInt8)}(e:p∈b):p.length<=n∧∀l∈p,l.length<=d:=by
 have a:=List.all_eq_true.1 h p e;rw[azX,iQ] at a;exact⟨a.1,fun l c=>of_decide_eq_true (List.all_eq_true.1 a.2 l c)⟩
def exO{c c':Nat}{a b:List (List UInt8)}(g:StrsAt w (.slice A a.length c) a)(h:StrsAt w (.slice e b.length c') b)(t:TypeId):
  bzY (w.alloc (.cells #[.slice A a.length c,.slice e b.length c'] t)) (.slice (some ⟨w.1.size,0,none⟩) 2 2) [a,b]:=by
 have B:=Bx.new w [.slice A a.length c,.slice e b.length c'] t;have f:Below w.1.size w (w.alloc (.cells #[.slice A a.length c,.slice e b.length c'] t)):=(aG _ _).alloc aE _;refine⟨w.1.size,2,rfl,fun i p d=> ?_⟩;match i,d with
 |0,d=>
  simp at d;subst d;exact⟨A,c,B.cell 0 rfl,g.be f⟩
 |1,d=>
  simp at d;subst d;exact⟨e,c',B.cell 1 rfl,h.be f⟩
def IzK(K:Nat)(q:Rat):Prop:=∃z:Int,q=z∧nl z.natAbs<=K
def IzK.zero(K:Nat):IzK K 0:=⟨0,rfl,by simp[dO]⟩
def cxT{f:List Vc->Rat}{K F N:Nat}(b:∀L:List Vc,(∀v∈L,∀i,IzK K (v i))->L.length<=N->IzK F (f L)):∀(R P:List Vc),P.length+R.length<=N->(∀v∈P++R,∀i,IzK K (v i))->IzK (F+K+R.length) (eF f P R)
 |[],_,_,_=>IzK.zero _
 |u :: R,P,hl,h=>by
  obtain⟨x,c,g⟩:=h u (by simp) 0
  obtain⟨y,d,j⟩:=b ((P++R).map bN) (fun v hv i=>by
   obtain⟨p,a,rfl⟩:=List.mem_map.1 hv;exact h p (by rcases List.mem_append.1 a with a|a<;>simp[a]) (i+1)) (by simp at hl⊢;omega)
  obtain⟨z,e,k⟩:=cxT b R (P++[u]) (by simp at hl⊢;omega) (by simpa using h)
  exact⟨x*y-z,by rw[eF,c,d,e,Rat.intCast_sub,eJ],by
   have:=IV (x*y) z (F+K+R.length) (aH (gT _ _ _ _ g j) (by omega)) k;simp only[eG];omega⟩
def cxU{K N:Nat}:∀(n:Nat) (L:List Vc),(∀v∈L,∀i,IzK K (v i))->L.length<=N->IzK (1+n*(K+N)) (dyV n L)
 |0,_,_,_=>⟨1,rfl,aH (cJ (m:=1) (by unfold BN;decide)) (by omega)⟩
 |n+1,L,h,a=>by
  obtain⟨z,b,c⟩:=cxT (fun L h a=>cxU n L h a) L [] (by simpa using a) h;exact⟨z,b,aH c (by rw[y9];omega)⟩
def dx9{x y j:Nat}{a b:Vc}(f:∀i,IzK K (a i))(g:∀i,IzK K (b i)):IzK (1+(x+y)*(K+(x+y))) (eZ x y j k a b):=by
 have e:∀{p:Vc},(∀i,IzK K (p i))->∀i d,IzK K (b6 i p d):=fun c i d=>by
  rw[b6];split
  ·exact c _
  ·exact IzK.zero _
 refine cxU _ _ (fun v hv i=> ?_) (by simp);obtain⟨p,c,rfl⟩:=List.mem_map.1 hv;rcases List.mem_append.1 c with c|c<;>obtain⟨t, -,rfl⟩:=List.mem_map.1 c
 ·exact e f _ _
 ·exact e g _ _
def vc(a:List Int):Vc:=fun i=>((cf a i:Int):Rat)
def E2{d:Nat}(h:a.length<=d):vc a d=0:=by unfold vc;rw[bV h];rfl
def cxV(h:∀n∈a,nl n.natAbs<=K)(i:Nat):IzK K (vc a i):=⟨_,rfl,iU h i⟩
def bx3(b:a≠[])(c:aN a):vc a (a.length-1)≠0:=fun e=>(fT b).1 c (Rat.intCast_inj.1 e)
def bq1(Q:Nat->Rat)(b:Vc)(t:Nat)(h:∀k,t<=k->Q k=0):Sp ((dn t).map (b6 · b)) (conv Q b):=by
 have e:∀s,Sp ((dn s).map (b6 · b)) (fun d=>bW (fun k=>Q k*b6 k b d) s):=fun s=>by
  induction s with
  |zero=>exact .zero
  |succ s i=>exact .add (Q s) (b6 s b) _ (by simp[dn]) (i.mono fun v hv=>by simp only[dn,fM,List.mem_cons];exact Or.inr hv)
 have g:conv Q b=fun d=>bW (fun k=>Q k*b6 k b d) t:=funext fun d=>by
  have a:bW (fun k=>Q k*b6 k b d) (d+1+t)=conv Q b d:=by
   rw[AA,qC (f:=fun k=>Q (d+1+k)*b6 (d+1+k) b d) (fun k _=>by show _*b6 _ b d=0;rw[b6,if_neg (by omega)];grind),bz9];unfold conv
   exact mH fun k j=>by show Q k*b6 k b d=_;rw[b6,if_pos (by omega)]
  have c:bW (fun k=>Q k*b6 k b d) (t+(d+1))=bW (fun k=>Q k*b6 k b d) t:=by
   rw[AA,qC (f:=fun k=>Q (t+k)*b6 (t+k) b d) (fun k _=>by rw[h (t+k) (by omega)];grind),bz9]
  show conv Q b d=_
  rw[<-a,<-c,G5 (d+1) t]
 rw[g];exact e t
def cxW(h:PQRes xs ys KB m q r)(c:ys≠[])(g:aN ys)(b:q≠[]):q.length+ys.length<=xs.length+1:=by
 have d:=dq6 (p:=cf q) (q:=cf ys) (m:=q.length-1) (n:=ys.length-1) (fun j f=>bV (by omega)) (fun j f=>bV (by omega));have i:=h.r_lt;have k:=List.length_pos_iff.2 b;have o:=List.length_pos_iff.2 c;have a:=h.id_ (q.length-1+(ys.length-1));rw[d,bV (l:=r) (by omega),Y6] at a;apply Decidable.byContradiction;intro hn;rw[bV (l:=xs) (by omega),Int.mul_zero] at a;rcases Int.mul_eq_zero.1 a.symm with e|e
 ·exact(fT b).1 h.q_trim e
 ·exact(fT c).1 g e
def dxA(h:s*s=1):s=1∨s= -1:=by
 have:(s-1)*(s+1)=0:=by grind
 rcases Rat.mul_eq_zero.1 this with e|e
 ·exact .inl (by grind)
 ·exact .inr (by grind)
def IzK.sq{q:Rat}(h:IzK K q)(b:s*s=1):IzK K (s*q):=by
 obtain⟨z,rfl,a⟩:=h;rcases dxA b with rfl|rfl
 ·exact⟨z,by grind,a⟩
 ·exact⟨-z,by rw[bxW];grind,by rw[B4];exact a⟩
structure SbI(T:Nat->Nat->Rat)(K:Nat)(a b:List Int)(g h:Int)(s:Rat):Prop where
 a0:a≠[]
 ta:aN a
 tb:aN b
 ka:∀n∈a,nl n.natAbs<=K
 kb:∀n∈b,nl n.natAbs<=K
 kg:nl g.natAbs<=K
 kh:nl h.natAbs<=K
 h0:h≠0
 g0:g≠0
 alt:(b=[]∧T 0 0=0)∨(b≠[]∧SubI T (a.length-1) (b.length-1) (vc a) (vc b) g h s∧(a.length=1->h=1∧s*T 0 0=1))
def azU(a:Int)(n:Nat):((a^n:Int):Rat)=(a:Rat)^n:=by
 induction n with
 |zero=>rfl
 |succ n b=>rw[gR,eJ,b,bxX]
def bq2{x y z:Int}(a:y≠0)(e:(x:Rat)=y*(z:Rat)):x.tdiv y=z:=by
 rw[<-eJ] at e;rw[Rat.intCast_inj.1 e];exact Int.mul_tdiv_cancel_left z a
def SbI.round{T:Nat->Nat->Rat}(H:SbI T K a b g h s)(W:∀j k,IzK K (T j k))(X:1<b.length)(P:PQRes a b KB m q r):
  let δ:=a.length-b.length
  let l:=cf b (b.length-1)
  let f:=(l^(δ+1)).tdiv m
  let h':=if δ=0 then h else (l^δ).tdiv (h^(δ-1))
  b.length<=a.length∧SbI T K b (jX (r.map (·*f)) (g*h^δ)) l h' (s*(-1)^((b.length-1)*(a.length-1)))∧r.length<b.length∧f≠0:=by
 intro δ l f h';have C:b≠[]:=fun e=>by rw[e] at X;simp at X
 obtain⟨hn,u, -⟩:b≠[]∧SubI T (a.length-1) (b.length-1) (vc a) (vc b) g h s∧_:=H.alt.resolve_left (fun e=>C e.1);have a1:=List.length_pos_iff.2 H.a0;have al:=u.le;have ad:b.length<=a.length:=by omega
 have A:a.length-1-(b.length-1)=δ:=by show _=a.length-b.length;omega
 have F:l≠0:=(fT C).1 H.tb;have O:vc b (b.length-1)=(l:Rat):=rfl;obtain⟨e,he,hm⟩:=P.pow;have M:l^(δ+1)=m*f:=by
  have o:l^(δ+1)=l^e*l^(δ+1-e):=by rw[<-V1];congr 1;show δ+1=e+(δ+1-e);have:δ=a.length-b.length:=rfl;omega
  show l^(δ+1)=m*(l^(δ+1)).tdiv m
  rw[hm,o];show _=l^e*(l^e*l^(δ+1-e)).tdiv (l^e)
  rw[Int.mul_tdiv_cancel_left _ (Int.pow_ne_zero F)]
 have I:f≠0:=fun G=>by rw[G,Int.mul_zero] at M;exact Int.pow_ne_zero F M
 have ae:(l:Rat)^(δ+1)=(m:Rat)*f:=by rw[<-azU,M,eJ]
 have S:∀d,vc b (b.length-1)^(a.length-1-(b.length-1)+1)*vc a d=(f:Rat)*vc r d+(f:Rat)*conv (vc q) (vc b) d:=fun d=>by
  rw[A,O,ae];have o:=congrArg (fun z:Int=>(z:Rat)) (P.id_ d);simp only[eJ,bzA] at o;rw[oD] at o;have V:(m:Rat)*vc a d=conv (vc q) (vc b) d+vc r d:=o
  grind
 have R:Sp ((dn (a.length-1-(b.length-1)+1)).map (b6 · (vc b))) (fun d=>(f:Rat)*conv (vc q) (vc b) d):=by
  rw[show(fun d=>(f:Rat)*conv (vc q) (vc b) d)=conv (fun k=>(f:Rat)*vc q k) (vc b) from funext fun d=>(X7 _ _ _ _).symm,A];refine bq1 _ _ _ fun k hk=> ?_;by_cases hq:q=[]
  ·rw[hq];show _*vc [] k=0;rw[E2 (by simp)];grind
  ·have:=cxW P C H.tb hq;have B:δ=a.length-b.length:=rfl;rw[E2 (by omega)];grind
 have Z:(g:Rat)*(h:Rat)^δ≠0:=fun e=>by
  rcases Rat.mul_eq_zero.1 e with e|e
  ·exact u.g0 e
  ·exact m9 u.h0 _ e
 have w:∀d,(f:Rat)*vc r d=(g:Rat)*(h:Rat)^(a.length-1-(b.length-1))*((f:Rat)*vc r d/((g:Rat)*(h:Rat)^δ)):=fun d=>by rw[A,bzB _ (_/_),gW Z]
 have ag:=P.r_lt;have ab:∀d,b.length-1<=d->(f:Rat)*vc r d/((g:Rat)*(h:Rat)^δ)=0:=fun d B=>by rw[E2 (by omega),gX,bxV,azS]
 obtain⟨s',ah,af⟩:=u.rest R S w (by omega) ab;have gh:g*h^δ≠0:=fun e=>Z (by rw[<-azU,<-eJ,e];rfl);have J:∀d,IzK K ((f:Rat)*vc r d/((g:Rat)*(h:Rat)^δ))∧vc (jX (r.map (·*f)) (g*h^δ)) d=(f:Rat)*vc r d/((g:Rat)*(h:Rat)^δ):=fun d=>by
  have E:IzK K ((f:Rat)*vc r d/((g:Rat)*(h:Rat)^δ)):=by
   by_cases B:d<b.length-1
   ·rw[af d B];exact(W _ _).sq ah
   ·rw[ab d (by omega)];exact IzK.zero K
  refine⟨E,?_⟩;obtain⟨z,y, -⟩:=E;have Y:=w d;rw[y,A] at Y;rw[y];unfold vc;rw[WS,mG (·*f) (azK f) r d];congr 1;refine bq2 gh ?_;rw[eJ,eJ,azU,bzB];exact Y
 have ak:aN (jX (r.map (·*f)) (g*h^δ)):=by
  by_cases p:r=[]
  ·rw[p];intro x hx;simp[jX] at hx
  ·have Q:jX (r.map (·*f)) (g*h^δ)≠[]:=fun e=>p (by have:=congrArg List.length e;rw[JR,cH] at this;exact bX this);rw[fT Q,JR,cH];intro e;have v:=(J (r.length-1)).2;unfold vc at v;rw[e] at v;have c:=w (r.length-1);rw[show(f:Rat)*vc r (r.length-1)/((g:Rat)*(h:Rat)^δ)=0 from v.symm,gX] at c;rcases Rat.mul_eq_zero.1 c with e|e
   ·exact I (Rat.intCast_inj.1 e)
   ·exact bx3 p P.r_trim e
 have aj:∀n∈jX (r.map (·*f)) (g*h^δ),nl n.natAbs<=K:=fun n hn=>by
  obtain⟨i,E,rfl⟩:=List.getElem_of_mem hn;obtain⟨⟨z,y,U⟩,c⟩:=J i;rw[y] at c;unfold vc at c;rw[fZ E] at c;rw[Rat.intCast_inj.1 c];exact U
 have kl:nl l.natAbs<=K:=iU H.kb _;have N:(h':Rat)*(h:Rat)^δ=(l:Rat)^δ*h∧nl h'.natAbs<=K:=by
  by_cases L:δ=0
  ·have o:h'=h:=if_pos L;rw[o,L];exact⟨by simp,H.kh⟩
  ·obtain⟨t,ht, -,D⟩:=u.head (by have B:δ=a.length-b.length:=rfl;omega);rw[A,O] at D;obtain⟨z,y,U⟩:=(W (b.length-1) (b.length-1)).sq ht;rw[y] at D;have o:h'=z:=by
    show(if δ=0 then h else (l^δ).tdiv (h^(δ-1)))=z
    rw[if_neg L];exact bq2 (Int.pow_ne_zero H.h0) (by rw[azU,azU];exact D)
   rw[o];refine⟨?_,U⟩;have V:(h:Rat)^δ=(h:Rat)^(δ-1)*h:=by rw[<-bxX];congr 1;omega
   rw[D,V];grind
 have ac:h'≠0:=fun G=>by
  have:=N.1;rw[G,show((0:Int):Rat)=0 from rfl,azS] at this;rcases Rat.mul_eq_zero.1 this.symm with e|e
  ·exact m9 (fun e=>F (Rat.intCast_inj.1 e)) _ e
  ·exact u.h0 e
 refine⟨ad,⟨C,H.tb,ak,H.kb,aj,kl,N.2,ac,F,?_⟩,ag,I⟩;have ai:vc (jX (r.map (·*f)) (g*h^δ))=fun d=>(f:Rat)*vc r d/((g:Rat)*(h:Rat)^δ):=funext fun d=>(J d).2;by_cases p:r=[]
 ·refine .inl ⟨by rw[p];rfl,u.null R S w (by omega) fun d=> ?_⟩;rw[p,E2 (by simp),gX,bxV,azS]
 ·have Q:jX (r.map (·*f)) (g*h^δ)≠[]:=fun e=>p (by have:=congrArg List.length e;rw[JR,cH] at this;exact bX this);have r1:=List.length_pos_iff.2 p;refine .inr ⟨Q,?_,fun v=>by omega⟩
  have v:=u.step R S w (l:=r.length-1) (h':=(h':Rat)) (by omega) (fun d B=>by rw[E2 (by omega),gX,bxV,azS]) (fun e=>by
   have c:=w (r.length-1);rw[e,gX] at c;rcases Rat.mul_eq_zero.1 c with e|e
   ·exact I (Rat.intCast_inj.1 e)
   ·exact bx3 p P.r_trim e) (by rw[A,O];exact N.1)
  rw[ai,JR,cH];exact v
def SbI.last{T:Nat->Nat->Rat}(H:SbI T K a b g h s)(i:∀j k,IzK K (T j k))(d:b.length=1):IzK K (s*T 0 0)∧((if a.length-1=0 then h else (cf b 0^(a.length-1)).tdiv (h^(a.length-1-1)):Int):Rat)=s*T 0 0:=by
 have m:b≠[]:=fun e=>by rw[e] at d;simp at d
 obtain⟨-,c,p⟩:b≠[]∧SubI T (a.length-1) (b.length-1) (vc a) (vc b) g h s∧_:=H.alt.resolve_left (fun e=>m e.1);refine⟨(i 0 0).sq c.s1,?_⟩;have r:=List.length_pos_iff.2 H.a0;split
 ·obtain⟨n,o⟩:=p (by omega);rw[n,o];rfl
 ·rw[d] at c;obtain⟨t, -,q,f⟩:=c.head (by omega);obtain⟨z,l, -⟩:=(i 0 0).sq c.s1;rw[q rfl,l,dzC,azA] at f;rw[l];congr 1;exact bq2 (Int.pow_ne_zero H.h0) (by rw[azU,azU];exact f)
def aqB(a b:List Int)(j k:Nat):Rat:=eZ (b.length-1-j) (a.length-1-j) j k (vc a) (vc b)
def kC(a b:List Int):Rat:=eZ (b.length-1) (a.length-1) 0 0 (vc a) (vc b)
def SbI.start(f:a≠[])(c:b≠[])(p:aN a)(h:aN b)(s:b.length<=a.length)(l:∀n∈a,nl n.natAbs<=K)(o:∀n∈b,nl n.natAbs<=K)(j:1<=K):SbI (aqB a b) K a b 1 1 1:=by
 have g:nl (1:Int).natAbs<=K:=aH (cJ (m:=1) (by unfold BN;decide)) j;have q:=List.length_pos_iff.2 f;have r:=List.length_pos_iff.2 c;refine⟨f,p,h,l,o,g,g,by decide,by decide,.inr ⟨c,SubI.start (by omega) (fun d k=>E2 (by omega)) (fun d k=>E2 (by omega)) (bx3 c h),fun i=>⟨rfl,?_⟩⟩⟩;have e:b.length=1:=by omega
 rw[aqB,i,e];exact aqS 1
def bq3(d:∀n∈a,nl n.natAbs<=K)(e:∀n∈b,nl n.natAbs<=K)(N:Nat)(g:a.length+b.length<=N)(j k:Nat):IzK (1+N*(K+N)) (aqB a b j k):=by
 obtain⟨z,c,f⟩:=dx9 (x:=b.length-1-j) (y:=a.length-1-j) (j:=j) (k:=k) (cxV d) (cxV e);refine⟨z,c,aH f ?_⟩;have:(b.length-1-j+(a.length-1-j))*(K+(b.length-1-j+(a.length-1-j)))<=N*(K+N):=C5 (by omega) (by omega);omega
def byF(a b:List Int):kC a b=(-1)^((b.length-1)*(a.length-1))*kC b a:=azF _ _ _ _ _ _
def Q8(b:Bool):Rat:=if b then -1 else 1
def dx7(b:Bool):Q8 (!b)= -Q8 b:=by cases b<;>simp[Q8]
def dx8(b:Bool):Q8 b*Q8 b=1:=by
 cases b
 ·exact aqS 1
 ·show(-1:Rat)* -1=1
  grind
def bq0(m n:Nat):(-1:Rat)^(m*n)=if m%2=1∧n%2=1 then -1 else 1:=by
 have h:∀k:Nat,(-1:Rat)^k=if k%2=1 then -1 else 1:=fun k=>by
  induction k with
  |zero=>rfl
  |succ k c=>
   rw[bxX,c];by_cases e:k%2=1
   ·rw[if_pos e,if_neg (by omega)];grind
   ·rw[if_neg e,if_pos (by omega)];grind
 rw[h];congr 1;rw[Nat.mul_mod];have a:m%2=0∨m%2=1:=by omega
 have b:n%2=0∨n%2=1:=by omega
 rcases a with a|a<;>rcases b with b|b<;>rw[a,b]<;>simp
structure SbJ(T:Nat->Nat->Rat)(K N:Nat)(s0:Rat)(a b:List Int)(g h:Int)(ng:Bool):Prop where
 len:a.length<=N
 lb:b.length<=N
 inv:∃s,SbI T K a b g h s∧Q8 ng=s0*s
def SbJ.a0{T:Nat->Nat->Rat}(H:SbJ T K N d a b g h c):a≠[]∧aN a∧aN b∧(∀n∈a,nl n.natAbs<=K)∧(∀n∈b,nl n.natAbs<=K)∧nl g.natAbs<=K∧nl h.natAbs<=K∧h≠0∧g≠0:=by
 obtain⟨s,H, -⟩:=H.inv;exact⟨H.a0,H.ta,H.tb,H.ka,H.kb,H.kg,H.kh,H.h0,H.g0⟩
def azE(a b:List Int)(m:Int):Int:=(cf b (b.length-1)^(a.length-b.length+1)).tdiv m
def aqA(a b:List Int)(h:Int):Int:=if a.length-b.length=0 then h else (cf b (b.length-1)^(a.length-b.length)).tdiv (h^(a.length-b.length-1))
def SbJ.le{T:Nat->Nat->Rat}(H:SbJ T K N j a b g h i)(c:1<b.length):b.length<=a.length:=by
 obtain⟨s,H, -⟩:=H.inv;have f:b≠[]:=fun e=>by rw[e] at c;simp at c
 have k:=List.length_pos_iff.2 H.a0;obtain⟨-,d, -⟩:b≠[]∧SubI T (a.length-1) (b.length-1) (vc a) (vc b) g h s∧_:=H.alt.resolve_left (fun e=>f e.1);have:=d.le;omega
def SbJ.round{T:Nat->Nat->Rat}{l:Rat}{d:Bool}(H:SbJ T K N l a b g h d)(t:∀j k,IzK K (T j k))(u:1<b.length)(P:PQRes a b KB m q r):
  SbJ T K N l b (jX (r.map (·*azE a b m)) (g*h^(a.length-b.length))) (cf b (b.length-1)) (aqA a b h) (if (a.length-1)%2=1∧(b.length-1)%2=1 then !d else d)∧r.length<b.length∧azE a b m≠0∧aW aV (r.map (·*azE a b m))=r.map (·*azE a b m):=by
 obtain⟨s,n,i⟩:=H.inv;obtain⟨w,o,p,f⟩:=n.round t u P;have v:=H.lb;refine⟨⟨v,by rw[JR,cH];omega,_,o,?_⟩,p,f,qB fun x c e=> ?_⟩
 ·rw[bq0];by_cases e:(a.length-1)%2=1∧(b.length-1)%2=1
  ·rw[if_pos e,if_pos e.symm,dx7,i];grind
  ·rw[if_neg e,if_neg (fun h=>e h.symm),i];grind
 ·rw[List.getLast?_map] at c;cases hr:r.getLast? with
  |none=>rw[hr] at c;simp at c
  |some y=>
   rw[hr] at c;simp only[bxU,Option.some.injEq] at c;rw[e] at c;rcases Int.mul_eq_zero.1 c with h|h
   ·exact P.r_trim y hr h
   ·exact f h
def SbJ.last{T:Nat->Nat->Rat}(H:SbJ T K N d a b g h c)(o:∀j k,IzK K (T j k))(q:d*d=1):(b=[]->T 0 0=0)∧(b.length=1->∃z:Int,(if a.length-1=0 then h else (cf b 0^(a.length-1)).tdiv (h^(a.length-1-1)))=z∧nl z.natAbs<=K∧((if c then -z else z:Int):Rat)=d*T 0 0):=by
 obtain⟨s,f,i⟩:=H.inv;refine⟨fun e=> ?_,fun e=> ?_⟩
 ·rcases f.alt with h|h
  ·exact h.2
  ·exact absurd e h.1
 ·obtain⟨⟨z,l,p⟩,n⟩:=f.last o e;refine⟨z,Rat.intCast_inj.1 (n.trans l),p,?_⟩;have m:((if c then -z else z:Int):Rat)=Q8 c*z:=by
   cases c
   ·simp[Q8]
   ·simp only[Q8,if_true];rw[bxW];grind
  have r:s*s=1:=by have:=dx8 c;rw[i] at this;grind
  rw[m,<-l,i];grind
def U8(x y:List Int):Bool:=decide (x.length<y.length∧(x.length-1)%2=1∧(y.length-1)%2=1)
def SbJ.start(f:x≠[])(l:y≠[])(g:aN x)(i:aN y)(b:∀n∈x,nl n.natAbs<=K)(c:∀n∈y,nl n.natAbs<=K)(o:1<=K)(p:x.length+y.length<=N):
  let M:=1+N*(K+N)
  ∃T d,d*d=1∧kC x y=d*T 0 0∧(∀j k,IzK M (T j k))∧SbJ T M N d (if x.length<y.length then y else x) (if x.length<y.length then x else y) 1 1 (U8 x y):=by
 intro M;have a:K<=M:=by
  have m:=List.length_pos_iff.2 f;have:1*(K+N)<=N*(K+N):=dK _ (by omega);show K<=1+N*(K+N)
  omega
 by_cases h:x.length<y.length
 ·rw[if_pos h,if_pos h];refine⟨aqB y x,_,azG ((y.length-1)*(x.length-1)),?_,bq3 c b N (by omega),by omega,by omega,1,SbI.start l f i g (by omega) (fun n hn=>aH (c n hn) a) (fun n hn=>aH (b n hn) a) (by omega),?_⟩
  ·rw[byF];rfl
  ·rw[bq0,aqS];unfold Q8 U8;by_cases e:(y.length-1)%2=1∧(x.length-1)%2=1
   ·rw[if_pos e,decide_eq_true ⟨h,e.2,e.1⟩];rfl
   ·rw[if_neg e,decide_eq_false (fun k=>e ⟨k.2.2,k.2.1⟩)];rfl
 ·rw[if_neg h,if_neg h];refine⟨aqB x y,1,aqS 1,(cz4 _).symm,bq3 b c N (by omega),by omega,by omega,1,SbI.start f l g i (by omega) (fun n hn=>aH (b n hn) a) (fun n hn=>aH (c n hn) a) (by omega),?_⟩;unfold Q8 U8;rw[decide_eq_false (fun k=>h k.1)];exact(aqS 1).symm
def cxS(b:∀n∈x,nl n.natAbs<=K)(c:∀n∈y,nl n.natAbs<=K)(a:x.length+y.length<=N):IzK (1+N*(K+N)) (kC x y):=by
 have:=bq3 b c N a 0 0;unfold aqB at this;rwa [azA,azA] at this
def dx5(w:World)(q:Rat)(M:Nat)(e:Ending)(w':World):Prop:=∃z:Int,(z:Rat)=q∧nl z.natAbs<=M∧dW w z e w'
def Off2(A:Option Addr)(g:Nat):Prop:=∀b,A=some ⟨b,0,none⟩->b≠g∧b≠g+1
def Off2.lt{l c g:Nat}(h:WholeAt w (.slice A l c) f)(i:f≠[])(n:w.1.size<=g):Off2 A g:=fun b e=>by
 obtain⟨k,c',d,_,h⟩:=h;simp only[Value.slice.injEq] at d;obtain⟨rfl,_,rfl⟩:=d;obtain⟨m,rows,a,j,_⟩:=h.resolve_left i;rw[e] at a;simp at a;subst a;have:=j.lt;omega
def Off2.fre{g l c:Nat}(h:bzJ n (.slice A l c))(a:g+1<n):Off2 A g:=fun b e=>by
 subst e;have:=h _ _ _ rfl;simp at this;omega
def dx6(x y:List Int)(va vb:Value)(w:World)(I:WholeAt w va x)(bo:WholeAt w vb y)(x0:x≠[])(y0:y≠[])(tx:aN x)(ty:aN y)(K N:Nat)(kx:∀n∈x,nl n.natAbs<=K)(ky:∀n∈y,nl n.natAbs<=K)(hK:1<=K)(hN:x.length+y.length<=N)(dr:N<=128)(dp:K<=1048576):
  Calls prog 67 #[va,vb] w (dx5 w (kC x y) (1+N*(K+N))):=by
 obtain⟨T,s0,d7,ar,hT,HJ⟩:=SbJ.start x0 y0 tx ty kx ky hK hN;have e0:1+N*(K+N)<=150000000:=by
  have:=C5 dr (show K+N<=1048704 by omega);omega
 obtain⟨A,c,rfl,hc⟩:=I.form;obtain⟨J,P,rfl,du⟩:=bo.form;have ah:=fun (l d:Nat) (B:Option Addr) (W:World) (h:l<=1099511627776)=>(JO l d B W h).mono (R':=fun e Z=>e= .returned (.int .i64 ((l:Int)-1))∧W=Z) (fun e Z h=>⟨h.1,h.2.symm⟩);have eb:x.length<=128:=by omega
 have ed:y.length<=128:=by omega
 have ea:=List.length_pos_iff.2 x0;have ec:=List.length_pos_iff.2 y0;generalize 1+N*(K+N)=M at *;obtain⟨W,eW,f,R⟩:=bI w [.bool false,.slice none 0 0] 43;have az:WholeAt W (.slice A x.length c) x:=I.be f;have a2:WholeAt W (.slice J y.length P) y:=bo.be f;clear tx ty kx ky hK hN I bo hc du dp;go_enter func67,ntmps67;go_upto_if 18 with fail;(try rw[eW]);clear eW;go_cut [0,1,5] (fun va vb vn wx=>∃a b Pa pa Pb pb,va= .slice Pa a.length pa∧vb= .slice Pb b.length pb∧vn= .bool (U8 x y)∧wx=W∧Hid (a=(if x.length<y.length then y else x)∧b=if x.length<y.length then x else y)∧WholeAt W (.slice Pa a.length pa) a∧WholeAt W (.slice Pb b.length pb) b)
 case first=>
  by_cases aj:x.length<y.length
  ·have dx:(x.length:Int)<(y.length:Int):=by omega
   have X:x.length%2=0∨x.length%2=1:=by omega
   have Y:y.length%2=0∨y.length%2=1:=by omega
   have HL:Hid (y=(if x.length<y.length then y else x)∧x=if x.length<y.length then x else y):=⟨(if_pos aj).symm,(if_pos aj).symm⟩;rcases X with X|X
   ·have r1:((x.length:Int)-1).tmod 2=1:=by rw[R5 (by omega)];omega
    rcases Y with Y|Y
    ·have r2:((y.length:Int)-1).tmod 2=1:=by rw[R5 (by omega)];omega
     have D:Hid (U8 x y=true):=decide_eq_true ⟨aj,by omega,by omega⟩;clear X Y aj;go_wp2_with (go_at_call 25;refine(ah _ _ _ _ (by omega)).mono ?_;rintro eD wD ⟨rfl,rfl⟩);go_meet;exact⟨y,x,J,P,A,c,rfl,rfl,by rw[D.out],rfl,HL,a2,az⟩
    ·have r2:((y.length:Int)-1).tmod 2=0:=by rw[R5 (by omega)];omega
     have D:Hid (U8 x y=false):=decide_eq_false (by omega);clear X Y aj;go_wp2_with (go_at_call 25;refine(ah _ _ _ _ (by omega)).mono ?_;rintro eD wD ⟨rfl,rfl⟩);go_meet;exact⟨y,x,J,P,A,c,rfl,rfl,by rw[D.out],rfl,HL,a2,az⟩
   ·have r1:((x.length:Int)-1).tmod 2=0:=by rw[R5 (by omega)];omega
    have D:Hid (U8 x y=false):=decide_eq_false (by omega);clear X Y aj;go_wp2_with (go_at_call 25;refine(ah _ _ _ _ (by omega)).mono ?_;rintro eD wD ⟨rfl,rfl⟩);go_meet;exact⟨y,x,J,P,A,c,rfl,rfl,by rw[D.out],rfl,HL,a2,az⟩
  ·have dx:¬(x.length:Int)<(y.length:Int):=by omega
   have HL:Hid (x=(if x.length<y.length then y else x)∧y=if x.length<y.length then x else y):=⟨(if_neg aj).symm,(if_neg aj).symm⟩;have D:Hid (U8 x y=false):=decide_eq_false (by omega);clear aj;go_wp2;go_meet;exact⟨x,y,A,c,J,P,rfl,rfl,by rw[D.out],rfl,HL,az,a2⟩
 case rest=>
  obtain⟨a,b,Pa,pa,Pb,pb,rfl,rfl,rfl,rfl,HL,I,i⟩:=hcut;generalize wc=W at *;have bf:Hid (SbJ T M N s0 a b 1 1 (U8 x y)):=by rw[HL.out.1,HL.out.2];exact HJ
  have ax:=fun g h=>Off2.lt I bf.out.a0.1 (g:=g) h;have aq:∀g,W.1.size<=g->Off2 Pb g:=fun g h=>Off2.lt i (by rw[HL.out.2];split<;>assumption) h;have b2:=aB ar;clear HJ az a2 x0 y0 eb ed ea ec ar HL;generalize U8 x y=n0 at *;go_wp2_with fail;refine(lL 1 _ (by decide) (by decide)).mono ?_;rintro e1 w1 ⟨v1,rfl,p,S⟩;obtain⟨s1,A1,k1,c1,rfl⟩:=p.form;replace R:=R.be S;replace cM:=R.g2;replace f:=aC f S;go_wp2_with fail;refine(lL 1 _ (by decide) (by decide)).mono ?_;rintro e2 w2 ⟨v2,rfl,C,U⟩;obtain⟨s2,A2,k2,c2,rfl⟩:=C.form;replace R:=R.be U;replace cM:=R.g2;replace hk:=Keep.be U;replace p:=p.ke hk;replace f:=aC f U;have bw:W.1.size<=w2.1.size:=aH S.size U.size;replace I:=(I.be S).be U;replace i:=(i.be S).be U;replace ax:=ax _ bw;replace aq:=aq _ bw;go_wp2_with fail;have b4:=R.lt;have d8:=f.size;obtain⟨W2,b5,Q,G,H⟩:=D8 w2 [.bool s1,.slice A1 k1 c1] 43 [.bool s2,.slice A2 k2 c2] 43;replace R:=R.be Q;replace hk:=Keep.be Q;replace f:=aC f Q;replace p:=p.ke hk;replace C:=C.ke hk;rw[b5];clear b5;replace cM:=aa R.k2 (aa G.k2 H.k2);replace I:=I.be Q;replace i:=i.be Q;have b8:IntBx W2 w2.1.size 1:=⟨_,_,_,_,G,p⟩;have cb:IntBx W2 (w2.1.size+1) 1:=⟨_,_,_,_,H,C⟩;have fd:w.1.size<w2.1.size:=by have:=b4;omega
  clear G H p C hk cM S U bw Q;generalize w2.1.size=g6 at *;go_loopg [0,1,5] b.length (fun k va vb vn wr=>∃a b ng gI j A c J P,va= .slice A a.length c∧vb= .slice J b.length P∧vn= .bool ng∧WholeAt wr (.slice A a.length c) a∧WholeAt wr (.slice J b.length P) b∧Off2 A g6∧Off2 J g6∧IntBx wr g6 gI∧IntBx wr (g6+1) j∧Bx wr w.1.size [.bool false,.slice none 0 0] 43∧Hid (k=b.length∧SbJ T M N s0 a b gI j ng)∧Below w.1.size w wr)
  case atStart=>exact⟨a,b,n0,1,1,Pa,pa,Pb,pb,rfl,rfl,rfl,I,i,ax,aq,b8,cb,R,⟨rfl,bf.out⟩,f⟩
  case round=>
   clear I i ax aq b8 cb R f bf;obtain⟨a,b,ng,gI,j,A,c,J,P,rfl,rfl,rfl,I,i,ax,aq,t,o,R,HS,f⟩:=hrel;generalize wr=wy at *;have la:=HS.out.2.len;have lb:=HS.out.2.lb;have fe:a.length<=128:=by omega
   have fg:b.length<=128:=by omega
   obtain⟨a0,ta,tb,ka,kb,kg,kh,h0,g0⟩:=HS.out.2.a0;have a1:=List.length_pos_iff.2 a0;have dq:1<=M:=by
    obtain⟨s,j, -⟩:=HS.out.2.inv;have hz:nl gI.natAbs≠0:=fun e=>g0 (Int.natAbs_eq_zero.1 (dzZ e));omega
   by_cases S:1<b.length
   ·have ae:=HS.out.2.le S;obtain⟨δ,hδ⟩:∃δ,a.length-b.length=δ:=⟨_,rfl⟩;have bz:δ<=128:=by omega
    have b0:b≠[]:=fun e=>by rw[e] at S;simp at S
    have d5:(0:Int)<(b.length:Int)-1:=by omega
    have d9:IntKind.i64.wrap ((a.length:Int)-1-((b.length:Int)-1))=(δ:Int):=by rw[show(a.length:Int)-1-((b.length:Int)-1)=(δ:Int) by omega];exact IntWalk.i64_in _ ⟨by omega,by omega⟩
    have fi:IntKind.u64.wrap (δ:Int)=(δ:Int):=by rw[IntKind.wrap_u64];omega
    obtain⟨E,av⟩:∃E,δ+1=E:=⟨_,rfl⟩;have fj:IntKind.u64.wrap ((δ:Int)+1)=(E:Int):=by rw[IntKind.wrap_u64];omega
    have dv:E<=129:=by omega
    have da:=aB av;clear av;have HD:=aB hδ;have er:=aB ae;clear hδ ae;obtain⟨n1,cn⟩:∃n1,(if (a.length-1)%2=1∧(b.length-1)%2=1 then !ng else ng)=n1:=⟨_,rfl⟩;have bg:=aB cn;clear cn;go_upto_region 8 with (go_at_call 25;refine(ah _ _ _ _ (by omega)).mono ?_;rintro eD wD ⟨rfl,rfl⟩);obtain⟨pb,co⟩:∃pb,decide ((a.length-1)%2=1∧(b.length-1)%2=1)=pb:=⟨_,rfl⟩;have ay:=aB co;clear co;go_cut [51] (fun vn wx=>vn= .bool pb∧wx=wy)
    case first=>
     have X:a.length%2=0∨a.length%2=1:=by omega
     have Y:b.length%2=0∨b.length%2=1:=by omega
     have fo:(a.length:Int)<=128:=by omega
     rcases X with X|X
     ·have r1:((a.length:Int)-1).tmod 2=1:=by rw[R5 (by omega)];omega
      rcases Y with Y|Y
      ·have r2:((b.length:Int)-1).tmod 2=1:=by rw[R5 (by omega)];omega
       have D:Hid (pb=true):=by rw[<-ay.out];exact decide_eq_true ⟨by omega,by omega⟩
       clear X Y;go_wp2_with (go_at_call 25;refine(ah _ _ _ _ (by omega)).mono ?_;rintro eD wD ⟨rfl,rfl⟩);go_meet;exact⟨by rw[D.out],rfl⟩
      ·have r2:((b.length:Int)-1).tmod 2=0:=by rw[R5 (by omega)];omega
       have D:Hid (pb=false):=by rw[<-ay.out];exact decide_eq_false (by omega)
       clear X Y;go_wp2_with (go_at_call 25;refine(ah _ _ _ _ (by omega)).mono ?_;rintro eD wD ⟨rfl,rfl⟩);go_meet;exact⟨by rw[D.out],rfl⟩
     ·have r1:((a.length:Int)-1).tmod 2=0:=by rw[R5 (by omega)];omega
      have D:Hid (pb=false):=by rw[<-ay.out];exact decide_eq_false (by omega)
      clear X Y;go_wp2_with (go_at_call 25;refine(ah _ _ _ _ (by omega)).mono ?_;rintro eD wD ⟨rfl,rfl⟩);go_meet;exact⟨by rw[D.out],rfl⟩
    case rest=>
    obtain⟨rfl,rfl⟩:=hcut;generalize wc=wy at *;go_upto_if 51 with fail;go_cut [5] (fun vn wx=>vn= .bool n1∧wx=wy)
    case first=>
     cases pb with
     |true=>
      have D:Hid ((!ng)=n1):=by unfold Hid;rw[<-bg.out,if_pos (of_decide_eq_true ay.out)]
      go_wp2;go_meet;exact⟨by rw[<-D.out],rfl⟩
     |false=>
      have D:Hid (ng=n1):=by unfold Hid;rw[<-bg.out,if_neg (of_decide_eq_false ay.out)]
      go_wp2;go_meet;exact⟨by rw[<-D.out],rfl⟩
    case rest=>
     obtain⟨rfl,rfl⟩:=hcut;generalize wc=wy at *
     have bu:=fun W p C=>BU a b (.slice A a.length c) (.slice J b.length P) W p C b0 ta tb M (200*(M+1)) ka kb dq (by
      have:(a.length+1-b.length)*(M+1)<=129*(M+1):=dK _ (by omega);omega) (by unfold aJ;omega) (by omega) (by omega)
     unfold wZ at bu;go_wp2_with fail;refine(bu _ I i).mono ?_;rintro e5 w5 ⟨vq,vr,vm,q,r,m,rfl,hq,hr,hm,ar,aw⟩;obtain⟨Aq,cq,rfl,fa⟩:=hq.form;obtain⟨Ar,cr,rfl,fb⟩:=hr.form;obtain⟨sm,Am,km,cm,rfl⟩:=hm.form;obtain⟨J2,cp,fc,cs⟩:=HS.out.2.round hT S ar;have kr:=ar.br;have ee:=ar.bm;have cl:=ar.m0;have kl:nl (cf b (b.length-1)).natAbs<=M:=iU kb _;rw[bg.out,HD.out] at J2;have db:=aB J2;have HF:Hid (azE a b m=(cf b (b.length-1)^E).tdiv m):=by unfold Hid azE;rw[HD.out,da.out]
     have HH:Hid (aqA a b j=if δ=0 then j else (cf b (b.length-1)^δ).tdiv (j^(δ-1))):=by unfold Hid aqA;rw[HD.out]
     have df:Hid (r.length<b.length):=cp;have fh:r.length<=128:=by omega
     have b3:=aB cs;obtain⟨w6,e6,ap,MB⟩:=bI w5 [.bool sm,.slice Am km cm] 43;replace i:=(i.be aw).be ap;replace hr:=hr.be ap;replace hm:=hm.be ap;replace t:=(t.be aw).be ap;replace o:=(o.be aw).be ap;replace R:=(R.be aw).be ap;replace f:=aC f aw;replace f:=aC f ap;clear bu ar hq I aw J2 cs cp ap ax;go_upto_region 11 with fail;(try rw[e6]);clear e6;generalize w5.1.size=gm at *;have ae:=fun W h=>azC b (.slice J b.length P) W h b0 (by omega);have dy:E*nl (cf b (b.length-1)).natAbs<=129*M:=C5 dv kl;have d0:=Y2 (cf b (b.length-1)).natAbs E;have bv:=fun W v h=>U7 (cf b (b.length-1)) E v W h (by unfold BN;omega) (by unfold aJ;omega);have bc:=fun W v u p C=>mZ (cf b (b.length-1)^E) m v u W p C cl (by rw[Int.natAbs_pow];omega);rw[<-HF.out] at bc;have kF:nl (azE a b m).natAbs<=129*M+1:=by
      rw[HF.out];exact WZ _ _ _ (by rw[Int.natAbs_pow];omega)
     unfold dW at ae bv bc;have HB:=aB S;clear dy d0 cl ee S a0 ta tb ka kb;generalize cf b (b.length-1)^E=LP at *;generalize azE a b m=F at *;generalize ck:cf b (b.length-1)=L at *;have es:=aB ck;clear ck;have eu:=MB.lt;go_cut [12] (fun ef wx=>∃bk,ef= .pointer (some ⟨bk,0,none⟩)∧w6.1.size<=bk∧IntBx wx bk (F)∧Below w6.1.size w6 wx)
     case first=>
      go_region_held3 (fun Z=>C2 Z gm (.bool sm) (.slice Am km cm))
       (with_reducible exact MB.up.k2)
       (first
        |(go_at_call 29;refine(ae _ i.up).mono ?_;rintro e7 w7 ⟨v7,rfl,h7,a4⟩;have l7:=a4.size;(try simp at l7);have:=St.mk a4;obtain⟨s7,A7,k7,c7,rfl⟩:=h7.form)
        |(go_at_call 134;refine(bv _ _ h7.up).mono ?_;rintro e8 w8 ⟨v8,rfl,h8,a5⟩;have l8:=a5.size;(try simp at l8);have:=St.mk a5;obtain⟨s8,A8,k8,c8,rfl⟩:=h8.form)
        |(go_at_call 82;refine(bc _ _ _ h8.up hm.up).mono ?_;rintro e9 w9 ⟨v9,rfl,h9,cd⟩;have l9:=cd.size;(try simp at l9);have:=St.mk cd;have bi:=Up.out (a:=w6) (b:=w9);have fq:=bi.size;have dh:=h7.up (b:=w9);have ey:=h8.up (b:=w9);(try have⟨_,_,_,_,_⟩:=nG w6 w9);(try have⟨_,_,_,_,_⟩:=nG w7 w9);(try have⟨_,_,_,_,_⟩:=nG w8 w9);obtain⟨s9,A9,k9,c9,rfl⟩:=h9.form))
      all_goals (
       go_wp2;go_meet;refine⟨_,rfl,by omega,?_⟩
       first|(with_reducible exact V4 h9 bi)|(with_reducible exact dq7 (zb ‹_›) h9 bi (by omega)))
     case rest=>
      obtain⟨gf,rfl,dw,hF,ag⟩:=hcut;have e3:=MB.lt;replace i:=i.be ag;replace hr:=hr.be ag;replace t:=t.be ag;replace o:=o.be ag;replace R:=R.be ag;replace f:=aC f ag;clear bv bc MB hm ag;have ez:=o.lt;have bx:=fun W u p C=>cx1 r F (.slice Ar r.length cr) u W p C (300*(M+1)) (fun n hn=>aH (kr n hn) (by omega)) (by omega) (by omega) (by omega);rw[b3.out] at bx;have d2:δ*nl j.natAbs<=128*M:=C5 bz kh;have d3:=Y2 j.natAbs δ;have bs:=fun W v h=>U7 j δ v W h (by unfold BN;omega) (by unfold aJ;omega);have bp:=fun W v u p C=>jB gI (j^δ) v u W p C (by rw[Int.natAbs_pow];omega);have cu:nl (gI*j^δ).natAbs<=600*(M+1):=aH (gT _ _ M (128*M+1) kg (by rw[Int.natAbs_pow];omega)) (by omega);have cj:gI*j^δ≠0:=fun e=>by
       rcases Int.mul_eq_zero.1 e with e|e
       ·exact g0 e
       ·exact Int.pow_ne_zero h0 e
      have ci:=fun W v u p C=>cxD (r.map (·*F)) (gI*j^δ) v u W p C (fun _=>cj) (600*(M+1)) (fun n hn=>by
       obtain⟨x,hx,rfl⟩:=List.mem_map.1 hn;exact aH (gT _ _ (200*(M+1)) (129*M+1) (kr x hx) kF) (by omega)) cu (by unfold aJ;omega) (by rw[cH];omega)
      have d4:δ*nl L.natAbs<=128*M:=C5 bz kl;have kL:=kl;have bt:δ*(nl L.natAbs+nl j.natAbs)<=128*(M+M):=C5 bz (by omega);have ak:=fun W v u p C=>byA L j δ v u W p C h0 (by unfold BN;omega) (by unfold aJ;omega);have b1:Hid ((if δ=0 then j else (L^δ).tdiv (j^(δ-1)))=aqA a b j):=HH.out.symm;rw[b1.out] at ak;unfold dW at bs bp ak;clear HH b1 d2 d3 d4 bt cu cj kF kr kg kh h0 g0 kl kL b3 HF;generalize j^δ=HP at *;generalize b9:gI*HP=GH at *;have eq:=aB b9;clear b9;have de:Hid (r.length=(r.map (·*F)).length∧(jX (r.map (·*F)) GH).length=r.length):=⟨(cH _).symm,by rw[JR,cH]⟩;generalize r.map (·*F)=RF at *;generalize b7:jX RF GH=B2 at *;have ep:=aB b7;clear b7;obtain⟨sf,Af,kf,a7,O,ab⟩:=hF;obtain⟨sg,Ag,kg,cg,G,au⟩:=id t;obtain⟨sh,Ah,kh,ch,H,am⟩:=id o;replace hr:=hr.drew;replace ab:=ab.drew;replace au:=au.drew;replace am:=am.drew;replace i:=i.drew;replace t:=t.be (aG _ _).drew;replace o:=o.be (aG _ _).drew;replace R:=R.drew;replace O:=O.drew;replace G:=G.drew;replace H:=H.drew;replace f:=f.drew;replace cM:=aa O.k2 (aa G.k2 H.k2);go_upto_region 12 with fail
      go_region_held3 (fun Z=>Z.cell? ⟨gf,0,none⟩=some (.bool sf)∧Z.cell? ⟨gf,1,none⟩=some (.slice Af kf a7)∧Z.cell? ⟨g6,0,none⟩=some (.bool sg)∧Z.cell? ⟨g6,1,none⟩=some (.slice Ag kg cg)∧Z.cell? ⟨g6+1,0,none⟩=some (.bool sh)∧Z.cell? ⟨g6+1,1,none⟩=some (.slice Ah kh ch))
       (with_reducible exact⟨O.cell 0 rfl,O.cell 1 rfl,G.cell 0 rfl,G.cell 1 rfl,H.cell 0 rfl,H.cell 1 rfl⟩)
       (first
        |(go_at_call 57;refine(bx _ _ hr ab).mono ?_;rintro eA wA ⟨vA,rfl,Q,bj,ac⟩;have cv:=o.lt;replace O:=O.be ac;replace G:=G.be ac;replace H:=H.be ac;(try replace au:=au.be ac);(try replace am:=am.be ac);(try replace i:=i.be ac);(try replace t:=t.be ac);(try replace o:=o.be ac);(try replace R:=R.be ac);(try replace hB:=hB.be ac);(try replace hC:=hC.be ac);replace f:=aC f ac)
        |(go_at_call 134;refine(bs _ _ am).mono ?_;rintro eB wB ⟨vB,rfl,hB,ad⟩;replace O:=O.be ad;replace G:=G.be ad;replace H:=H.be ad;(try replace au:=au.be ad);(try replace hr:=hr.be ad);(try replace ab:=ab.be ad);(try replace i:=i.be ad);(try replace t:=t.be ad);(try replace o:=o.be ad);(try replace R:=R.be ad);(try replace Q:=Q.be ad);replace f:=aC f ad)
        |(go_at_call 56;refine(bp _ _ _ au hB).mono ?_;rintro eC wC ⟨vC,rfl,hC,af⟩;replace O:=O.be af;replace G:=G.be af;replace H:=H.be af;(try replace hr:=hr.be af);(try replace ab:=ab.be af);(try replace i:=i.be af);(try replace t:=t.be af);(try replace o:=o.be af);(try replace R:=R.be af);(try replace Q:=Q.be af);replace f:=aC f af)
        |(go_at_call 68;refine(ci _ _ _ Q hC).mono ?_;rintro eE wE ⟨vE,rfl,hE,b6,an⟩;have cw:=o.lt;replace O:=O.be an;replace G:=G.be an;replace H:=H.be an;(try replace i:=i.be an);(try replace t:=t.be an);(try replace o:=o.be an);(try replace R:=R.be an);replace f:=aC f an))
      obtain⟨AE,cE,rfl,e4⟩:=hE.form;have bq:Off2 AE g6:=by
       rcases b6 with e|e
       ·rw[<-e] at bj;exact Off2.fre bj cv
       ·exact Off2.fre e cw
      clear b6 bj cv cw;obtain⟨fr,eh,fl,ev,G',ca⟩:=id t;have cy:=G'.cell 0 rfl;have c0:=G'.cell 1 rfl;clear O G H cM bx bs bp ci Q hC hB;go_wp2_with fail;refine(ae _ i).mono ?_;rintro eL wL ⟨vL,rfl,hL,ai⟩;obtain⟨sL,AL,kL,cL,rfl⟩:=IntAt.form hL;replace i:=i.be ai;replace hE:=hE.be ai;replace t:=t.be ai;replace o:=o.be ai;replace R:=R.be ai;replace G':=G'.be ai;replace f:=aC f ai;have cx:=G'.cell 0 rfl;have cz:=G'.cell 1 rfl;have c3:=G'.free 0;have c4:=G'.free 1;obtain⟨a3,V⟩:=IntBx.stored (m:=gI) ⟨_,_,_,_,G',ca.be ai⟩ hL;have a9:=o.step V (by omega);have R2:Bx _ w.1.size [.bool false,.slice none 0 0] 43:=(V.2.1 w.1.size (by omega)).trans R;have bb:=i.step V (fun b e=>(aq b e).1);have a8:=hE.step V (fun b e=>(bq b e).1);have U:=jD f V (by omega);clear V o R i hE f t;go_upto_region 14 with fail;clear G' cx cz cy c0 c3 c4 ca hL ae ai;generalize (wL.setCell ⟨g6,0,none⟩ (.bool sL)).setCell ⟨g6,1,none⟩ (.slice AL kL cL)=wS at *;obtain⟨fs,ei,fm,ew,G2,dl⟩:=id a3;obtain⟨ft,ej,fn,ex,H2,cc⟩:=id a9;have el:=G2.cell 0 rfl;have em:=G2.cell 1 rfl;have c5:=H2.cell 0 rfl;have c6:=H2.cell 1 rfl;go_wp2_with fail;refine(ak _ _ _ dl cc).mono ?_;rintro eP wP ⟨vP,rfl,hP,ao⟩;obtain⟨sP,AP,kP,cP,rfl⟩:=IntAt.form hP;replace bb:=bb.be ao;replace a8:=a8.be ao;replace a3:=a3.be ao;replace a9:=a9.be ao;replace R2:=R2.be ao;replace H2:=H2.be ao;replace U:=aC U ao;replace c5:=H2.cell 0 rfl;replace c6:=H2.cell 1 rfl;have en:=H2.free 0;have eo:=H2.free 1;obtain⟨dm,V⟩:=IntBx.stored (m:=j) ⟨_,_,_,_,H2,cc.be ao⟩ hP;have dk:=a3.step V (by omega);have R3:Bx _ w.1.size [.bool false,.slice none 0 0] 43:=(V.2.1 w.1.size (by omega)).trans R2;have dt:=bb.step V (fun b e=>(aq b e).2);have dj:=a8.step V (fun b e=>(bq b e).2);have ds:=jD U V (by omega);have dc:Hid (SbJ T M N s0 b B2 L (aqA a b j) n1):=db.out;have di:B2.length<gk:=by
       rw[de.out.2,HS.out.1];exact df.out
      clear V a9 a3 R2 bb a8 U ak;go_wp2;go_roundg B2.length
      case rel=>exact⟨b,B2,n1,L,aqA a b j,J,P,AE,cE,rfl,rfl,rfl,dt,dj,aq,bq,dk,dm,R3,⟨rfl,dc.out⟩,ds⟩
      case measure=>exact di
   ·obtain⟨l0,l1⟩:=HS.out.2.last hT d7;have d5:¬(0:Int)<(b.length:Int)-1:=by omega
    by_cases ba:b.length=0
    ·have d6:((b.length:Int)==0)=true:=by rw[ba];rfl
     have HZ:Hid (kC x y=0):=by
      have:=l0 (bX ba);unfold Hid;rw[b2.out,this,gX]
     clear l0 l1 ba;have cM:=R.g2;go_wp2_with (go_at_call 25;refine(ah _ _ _ _ (by omega)).mono ?_;rintro eD wD ⟨rfl,rfl⟩);obtain⟨W6,al,R,f,hk,ff⟩:=R.put2 f (by omega) (.bool false) (.slice none 0 0) rfl rfl;rw[al];clear al;replace cM:=R.k2;exact aM (v:= .agg #[.bool false,.slice none 0 0]) (by simp[results,results67,go_sem,R.k2]) rfl ⟨0,HZ.out.symm,by simp[dO],_,rfl,IntAt.zero _,f⟩
    ·have a6:b.length=1:=by omega
     have d6:((b.length:Int)==0)=false:=by rw[beq_eq_false_iff_ne];omega
     obtain⟨z,hz,kz,ct⟩:=l1 a6;have av:∃E,a.length-1=E:=⟨_,rfl⟩;obtain⟨E,av⟩:=av;have d9:IntKind.u64.wrap ((a.length:Int)-1)=(E:Int):=by rw[IntKind.wrap_u64];omega
     have kl:nl (cf b 0).natAbs<=M:=iU kb _;have bt:E*(nl (cf b 0).natAbs+nl j.natAbs)<=128*(M+M):=C5 (by omega) (by omega);have ae:=fun W h=>azC b (.slice J b.length P) W h (fun e=>by rw[e] at a6;simp at a6) (by omega);rw[show cf b (b.length-1)=cf b 0 by rw[a6]] at ae;have ak:=fun W v u p C=>byA (cf b 0) j E v u W p C h0 (by unfold BN;omega) (by unfold aJ;omega);rw[av] at hz;rw[hz] at ak;unfold dW at ae ak;have HZ:Hid (((if ng then -z else z:Int):Rat)=kC x y):=by unfold Hid;rw[ct,b2.out]
     clear l0 l1 ba a6 hz ct av kl bt ka kb kg kh h0 g0 a0 ta tb;generalize cf b 0=L at *;obtain⟨sh,Ah,kh,ch,H,am⟩:=id o;go_upto_region 17 with (go_at_call 25;refine(ah _ _ _ _ (by omega)).mono ?_;rintro eD wD ⟨rfl,rfl⟩);have et:=H.lt;go_cut [13] (fun eg wx=>∃bn,eg= .pointer (some ⟨bn,0,none⟩)∧wy.1.size<=bn∧IntBx wx bn (z)∧Below wy.1.size wy wx)
     case first=>
      go_region_held3 (fun Z=>C2 Z (g6+1) (.bool sh) (.slice Ah kh ch))
       (with_reducible exact H.up.k2)
       (first
        |(go_at_call 29;refine(ae _ i.up).mono ?_;rintro e7 w7 ⟨v7,rfl,h7,a4⟩;have l7:=a4.size;(try simp at l7);have:=St.mk a4;obtain⟨s7,A7,k7,c7,rfl⟩:=h7.form)
        |(go_at_call 135;refine(ak _ _ _ h7.up am.up).mono ?_;rintro e8 w8 ⟨v8,rfl,h8,a5⟩;have l8:=a5.size;(try simp at l8);have:=St.mk a5;have bh:=Up.out (a:=wy) (b:=w8);have fp:=bh.size;have dh:=h7.up (b:=w8);(try have⟨_,_,_,_,_⟩:=nG wy w8);(try have⟨_,_,_,_,_⟩:=nG w7 w8);obtain⟨s8,A8,k8,c8,rfl⟩:=h8.form)
        |(go_at_call 25;refine(ah _ _ _ _ (by omega)).mono ?_;rintro eD wD ⟨rfl,rfl⟩))
      all_goals (
       go_wp2;go_meet;refine⟨_,rfl,by omega,?_⟩
       first|(with_reducible exact V4 h8 bh)|(with_reducible exact dq7 (zb ‹_›) h8 bh (by omega)))
     case rest=>
      obtain⟨gf,rfl,dw,hF,ag⟩:=hcut;replace R:=R.be ag;replace f:=aC f ag;obtain⟨sf,Af,kf,a7,F,ab⟩:=hF;have fk:w.1.size<wy.1.size:=by have:=t.lt;omega
      clear ae ak H am ag I i t o ah;cases ng with
      |true=>
       replace cM:=aa R.g2 F.k2;go_wp2_with fail;refine(sQ z _ _ ab (by omega)).mono ?_;rintro eN wN ⟨vN,rfl,hN,ce⟩;obtain⟨sN,AN,kN,cN,rfl⟩:=hN.form;replace R:=R.be ce;replace f:=aC f ce;replace cM:=R.g2;go_wp2_with fail;obtain⟨W6,al,R,f,hk,ff⟩:=R.put2 f (by omega) (.bool sN) (.slice AN kN cN) rfl rfl;replace hN:=hN.ke hk;rw[al];clear al;replace cM:=R.k2;exact aM (v:= .agg #[.bool sN,.slice AN kN cN]) (by simp[results,results67,go_sem,R.k2]) rfl ⟨-z,HZ.out,by rw[B4];exact kz,_,rfl,hN,f⟩
      |false=>
       replace cM:=aa R.g2 F.k2;go_wp2_with fail;have b4:=R.lt;have ek:=F.lt;have d8:=f.size;obtain⟨W6,al,R,f,hk,ff⟩:=R.put2 f (by omega) (.bool sf) (.slice Af kf a7) rfl rfl;replace F:=ff F (by omega);replace ab:=ab.ke hk;rw[al];clear al;replace cM:=aa R.k2 F.k2;exact aM (v:= .agg #[.bool sf,.slice Af kf a7]) (by simp[results,results67,go_sem,R.k2]) rfl ⟨z,HZ.out,kz,_,rfl,ab,f⟩
def bq5(r:List Int):vc r=fun d=>((bC r:Int):Rat)*vc (aS r) d:=funext fun d=>by
 unfold vc;rw[<-eJ,fD,lW]
def tG(A B:List Rat):Rat:=eZ (B.length-1) (A.length-1) 0 0 (cf A) (cf B)
def cy6{A:List Rat}(a:∀q∈A,(q.den:Int)∣D)(b:∀q∈B,(q.den:Int)∣E):kC (cC A D) (cC B E)=(D:Rat)^(B.length-1)*((E:Rat)^(A.length-1)*tG A B):=by
 have e:∀{A:List Rat} {D:Int},(∀q∈A,(q.den:Int)∣D)->vc (cC A D)=fun d=>(D:Rat)*cf A d:=fun {A D} a=>funext fun d=>by
  unfold vc;rw[JC A D a,bzB]
 unfold kC tG;rw[e a,e b,oN,oN,aqE,azF,aqE,azF (A.length-1)];have:=azG ((B.length-1)*(A.length-1));rw[dN (A.length-1)];grind
def Y5(A B:List Rat):Rat:=if A=[]∨B=[] then 0 else tG A B
def azW(x y:List Int)(D E:Int):Rat:=if x=[]∨y=[] then 0 else (((bC x:Int):Rat)/D)^(y.length-1)*(((bC y:Int):Rat)/E)^(x.length-1)*kC (aS x) (aS y)
def dxH(x y:List Int):kC x y=((bC x:Int):Rat)^(y.length-1)*(((bC y:Int):Rat)^(x.length-1)*kC (aS x) (aS y)):=by
 unfold kC;rw[bq5 x,bq5 y,aqE,azF,aqE,azF (x.length-1),dF,dF];have:=azG ((y.length-1)*(x.length-1));rw[dN (x.length-1)];grind
def cy7(a b:Rat)(n:Nat)(c:b≠0):(a/b)^n*b^n=a^n:=by rw[<-aqD,gW c]
def cy8{A:List Rat}(l:0<D)(m:0<E)(f:∀q∈A,(q.den:Int)∣D)(g:∀q∈B,(q.den:Int)∣E):azW (cC A D) (cC B E) D E=Y5 A B:=by
 have i:∀{A:List Rat} {D:Int},cC A D=[]↔A=[]:=by
  intro A D;unfold cC;exact List.map_eq_nil_iff
 unfold azW Y5;simp only[i];by_cases h:A=[]∨B=[]
 ·rw[if_pos h,if_pos h]
 ·rw[if_neg h,if_neg h,oN,oN];have b:(D:Rat)≠0:=fun e=>(show D≠0 by omega) (Rat.intCast_inj.1 e);have c:(E:Rat)≠0:=fun e=>(show E≠0 by omega) (Rat.intCast_inj.1 e);have a:=dxH (cC A D) (cC B E);rw[cy6 f g,oN,oN,<-cy7 ((bC (cC A D):Int):Rat) (D:Rat) (B.length-1) b,<-cy7 ((bC (cC B E):Int):Rat) (E:Rat) (A.length-1) c] at a;have j:=m9 b (B.length-1);have k:=m9 c (A.length-1);have d:(E:Rat)^(A.length-1)*((D:Rat)^(B.length-1)*((((bC (cC A D):Int):Rat)/D)^(B.length-1)*(((bC (cC B E):Int):Rat)/E)^(A.length-1)*kC (aS (cC A D)) (aS (cC B E))))=(E:Rat)^(A.length-1)*((D:Rat)^(B.length-1)*tG A B):=by
   rw[show(E:Rat)^(A.length-1)*((D:Rat)^(B.length-1)*tG A B)=(D:Rat)^(B.length-1)*((E:Rat)^(A.length-1)*tG A B) by grind,a];grind
  exact lA j (lA k d)
def tN(x:Rat)(v:Value)(w:World)(hv:RatAt w v x)(D:nl x.den<=17592186044416):Calls prog 109 #[v] w (dW w (x.den:Int)):=by
 obtain⟨E,y,C,B,s,j,q,l,rfl⟩:=hv.form;have p:=aH (mY x) D;obtain⟨W,u,a,X,R⟩:=D8 w [.bool E,.slice y C B,.bool s,.slice j q l] 47 [.bool false,.slice none 0 0] 43;have h:=aa X.g4 R.g2;go_enter func109,ntmps109;go_wp2_with fail;(try rw[u]);clear u;have b:=(hv.be a).den;refine(g9 (bS x) _ _ b p).mono ?_;rintro G J ⟨rfl,i⟩;replace X:=X.be i;replace R:=R.be i;replace h:=aa X.k4 R.g2;replace g:=Keep.be i;replace b:=b.ke g;replace a:=aC a i;by_cases e:x.den=1
 ·have f:decide (bS x=0)=true:=by rw[iQ,fV];exact e
  have z:Hid ((x.den:Int)=1):=by unfold Hid;omega
  rw[f];clear f e p;go_wp2_with fail;refine(lL 1 _ (by decide) (by decide)).mono ?_;rintro H F ⟨I,rfl,c,o⟩;obtain⟨t,k,r,m,rfl⟩:=c.form;replace X:=X.be o;replace R:=R.be o;replace h:=aa X.k4 R.g2;replace a:=aC a o;go_wp2_with fail;replace c:IntAt F (.agg #[.bool t,.slice k r m]) (x.den:Int):=by rw[z.out];exact c
  obtain⟨A,d,R,a,g,n⟩:=R.put2 a (by omega) (.bool t) (.slice k r m) rfl rfl;replace X:=n X (by omega);replace c:=c.ke g;rw[d];clear d;replace h:=aa X.k4 R.k2;exact aM (v:= .agg #[.bool t,.slice k r m]) (by simp[results,results109,go_sem,R.k2]) rfl ⟨_,rfl,c,a⟩
 ·have f:decide (bS x=0)=false:=by rw[jA,fV];exact e
  rw[f];rw[mI e] at b;clear f e p;go_wp2_with fail;obtain⟨A,d,R,a,g,n⟩:=R.put2 a (by omega) (.bool s) (.slice j q l) rfl rfl;replace X:=n X (by omega);replace b:=b.ke g;rw[d];clear d;replace h:=aa X.k4 R.k2;exact aM (v:= .agg #[.bool s,.slice j q l]) (by simp[results,results109,go_sem,R.k2]) rfl ⟨_,rfl,b,a⟩
end Go.Proofs.YticcgnnefilhcaaGreatDoor
namespace Go.Proofs.YticcgnnefilhcaaGreatDoor
open Sos
def BR(x y:Rat)(h:Nat.gcd x.den y.den=1):(x+y).num=x.num*y.den+y.num*x.den∧(x+y).den=x.den*y.den:=by
 show(Rat.add x y).num=_∧(Rat.add x y).den=_
 unfold Rat.add;simp[h]
def BT{x y:Rat}(h:x.den=1):(x+y).num=x.num*y.den+y.num∧(x+y).den=y.den:=by
 obtain⟨a,b⟩:=BR x y (by rw[h];simp);rw[a,b,h];simp
end Go.Proofs.YticcgnnefilhcaaGreatDoor
namespace Go.Proofs.YticcgnnefilhcaaGreatDoor
open Go.RowKit Sos
