/- Laws. -/
import Derived.Test.YtmiaanioldpfgaaGreatDoorRows
import Derived.Test.YtmiaanioldpfgaaGreatDoorX27
import Derived.Test.YtmiaanioldpfgaaGreatDoorX28
import Derived.ProofKit
import Derived.LaidMore
import Derived.OpenShut
import Derived.Stop.Joined
import Derived.SliceStrings
import Derived.Lib.LaidTab
import Derived.Carry
import Derived.Deep.SlicePairs
import Derived.ChangeSlices
set_option linter.all false
set_option maxHeartbeats 8000000
set_option maxRecDepth 99999
namespace Go.Proofs.YtmiaanioldpfgaaGreatDoor
open Go.RowKit Sos Go.Proofs.Tryz
variable{B K c:Nat}{Q g xs ys:List Int}{w w':World}{a p:List (List UInt8)}{u v:Value}{D n:Int}
structure QuoOf(x c Q:List Int):Prop where
 trim:aN Q
 ne:c≠[]
 tc:aN c
 id_:∀i,cf x i=conv (cf Q) (cf c) i
inductive Sqf(B:Nat):List Int->List Int->List (List Int)->Prop
 |done {p r:List Int} (h:p.length<=1):Sqf B p r []
 |step {p r c Qp Qr:List Int} {l:List (List Int)} (h:1<p.length) (hg:pO B p r c) (hp:QuoOf p c Qp) (hr:QuoOf r c Qr) (t:Sqf B c Qr l):Sqf B p r (Qp :: l)
structure GcdFit(K B:Nat)(xs ys:List Int):Prop where
 tx:aN xs
 ty:aN ys
 kx:∀n∈xs,nl n.natAbs<=K
 ky:∀n∈ys,nl n.natAbs<=K
 b1:xs.length<ys.length->(K+1)*(ys.length-xs.length+2)*3^xs.length<=B
 b2:¬xs.length<ys.length->(K+1)*(xs.length-ys.length+2)*3^ys.length<=B
 lx:xs.length<=1073741824
 ly:ys.length<=1073741824
structure SqfInv(K B:Nat)(Inv:Nat->List Int->List Int->Prop):Prop where
 fit:∀n p r,Inv n p r->GcdFit K B p r
 go:∀n p r c,Inv n p r->1<p.length->pO B p r c->∃Qp Qr n',n'<n∧QuoOf p c Qp∧QuoOf r c Qr∧(∀x∈c,nl x.natAbs<=K)∧(∀x∈Qp,nl x.natAbs<=K)∧(∀x∈Qr,nl x.natAbs<=K)∧c.length<=1073741824∧Inv n' c Qr
def fzC(h:GcdFit K B xs ys)(a b:Value)(w:World)(f:Glob w)(j:WholeAt w a xs)(k:WholeAt w b ys)(i:1<=K)(d:5*B+8<=aJ):
  Calls prog 85 #[a,b] w fun e w'=>∃c g,e= .returned c∧WholeAt w' c g∧pO B xs ys g∧Below w.1.size w w':=
 XV xs ys a b w f j k h.tx h.ty K B h.kx h.ky i h.b1 h.b2 d h.lx h.ly
def U5(w:World)(B:Nat)(a:List Int)(e:Ending)(w':World):Prop:=
 ∃v g Q l,e= .returned v∧WsAt w' w.1.size 74 v l∧pO B (aS a) (bB (aS a)) g∧QuoOf (aS a) g Q∧Sqf B Q g l∧Below w.1.size w w'
def dq8(e:List Int)(v:Value)(w:World)(hG:Glob w)(hv:WholeAt w v e)(ht:aN e)(K B:Nat)(hK:∀n∈e,nl n.natAbs<=K)(af:1<=K)(P:7*K+8<=aJ)(ae:5*B+8<=aJ)(hl:e.length<=1073741824)
  (ab:Nat->List Int->List Int->Prop)(hI:SqfInv K B ab)(ak:GcdFit K B (aS e) (bB (aS e)))
  (au:∀g,pO B (aS e) (bB (aS e)) g->∃Q n,QuoOf (aS e) g Q∧(∀x∈g,nl x.natAbs<=K)∧(∀x∈Q,nl x.natAbs<=K)∧g.length<=1073741824∧n<=1073741824∧ab n Q g):
  Calls prog 37 #[v] w (U5 w B e):=by
 obtain⟨A,c,rfl,hc⟩:=hv.form;have ap:=qQ e _ w hG hv ht K hK (by omega) (by omega);have a2:=dF e;have a1:=gU hK;have a4:=Q5 ht;unfold U5;generalize aS e=p at *;have U:p.length<=1073741824:=by omega
 have aj:=fun W v h=>JN p v W h K a1 (by unfold aJ at P⊢;omega) U;clear a2;generalize bB p=d at *;go_enter func37,ntmps37;go_wp2_with fail;refine ap.mono ?_;rintro e1 w1 ⟨v1,rfl,b,a⟩;obtain⟨A1,c1,rfl,a9⟩:=b.form;clear ap;go_wp2_with fail;refine(aj _ _ b).mono ?_;rintro e2 w2 ⟨v2,rfl,i,ag⟩;obtain⟨A2,c2,rfl,ba⟩:=i.form;replace b:=b.be ag;replace a:=aC a ag;clear aj;go_wp2_with fail;refine(fzC ak _ _ _ (hG.be a) b i af ae).mono ?_;rintro e3 w3 ⟨v3,g,rfl,u,s,ah⟩;obtain⟨A3,c3,rfl,bb⟩:=u.form;replace b:=b.be ah;replace a:=aC a ah;obtain⟨Q,n,z,kg,kQ,lg,ln,L⟩:=au g s;have aw:=aB s;have HQ:=aB z;have ar:=fun W b i=>YI Q p g (.slice A1 p.length c1) (.slice A3 g.length c3) W b i z.ne z.trim a4 z.tc z.id_ K kQ kg P U lg;clear s z au ak i;go_wp2_with fail;refine(ar _ b u).mono ?_;rintro e4 w4 ⟨v4,rfl,h4,ai⟩;obtain⟨A4,c4,rfl,bc⟩:=h4.form;replace u:=u.be ai;replace a:=aC a ai;clear ar b;go_wp2_with fail;go_loopg [4,5,6] n (fun k vr vp vf wr=>∃r p N O G H m,vr= .slice N r.length O∧vp= .slice G p.length H∧WholeAt wr (.slice N r.length O) r∧WholeAt wr (.slice G p.length H) p∧WsAt wr w.1.size 74 vf m∧ab k p r∧k<=1073741824∧m.length+k<=n∧Hid (∀l,Sqf B p r l->Sqf B Q g (m++l))∧Below w.1.size w wr)
 case atStart=>exact⟨g,Q,A3,c3,A4,c4,[],rfl,rfl,u,h4,RowsAt.nil _ _ _ _,L,ln,by simp,fun l h=>h,a⟩
 case round=>
  clear u h4 a L;obtain⟨r,p,N,O,G,H,m,rfl,rfl,j,V,f,L,hk,bk,HS,a⟩:=hrel;generalize wr=wy at *;have hF:=hI.fit _ _ _ L;have U:=hF.lx;obtain⟨Af,a8,rfl,bj⟩:=f.form;have az:=fun W=>JO p.length H G W (by omega);go_wp2_with fail;refine(az _).mono ?_;rintro e5 w5 ⟨rfl,rfl⟩;by_cases b:p.length<=1
  ·have q1:¬(0:Int)<(p.length:Int)-1:=by omega
   have y:=HS.out [] (Sqf.done b);rw[fH] at y;have HE:=aB y;clear y b;go_wp2;go_ret;exact⟨_,g,Q,m,rfl,f,aw.out,HQ.out,HE.out,a⟩
  ·have q1:(0:Int)<(p.length:Int)-1:=by omega
   have an:1<p.length:=by omega
   clear b;go_wp2_with fail;refine(fzC hF _ _ _ (hG.be a) V j af ae).mono ?_;rintro e6 w6 ⟨v6,c,rfl,o,s,R⟩;obtain⟨A6,c6,rfl,bf⟩:=o.form;obtain⟨q,Qr,n',bm,C,D,kc,a5,a6,lc,a0⟩:=hI.go _ _ _ c L an s;have y:∀l,Sqf B c Qr l->Sqf B Q g (m++(q :: l)):=fun l t=>HS.out _ (Sqf.step an s C D t);have HE:=aB y;have aq:=fun W b i=>YI q p c (.slice G p.length H) (.slice A6 c.length c6) W b i C.ne C.trim hF.tx C.tc C.id_ K a5 kc P U lc;have a3:=fun W b i=>YI Qr r c (.slice N r.length O) (.slice A6 c.length c6) W b i D.ne D.trim hF.ty D.tc D.id_ K a6 kc P hF.ly lc;replace j:=j.be R;replace V:=V.be R;replace f:=f.be R;replace a:=aC a R;clear y C D s HS;go_wp2_with fail;refine(aq _ V o).mono ?_;rintro e7 M ⟨v7,rfl,I,S⟩;obtain⟨A7,c7,rfl,bg⟩:=I.form;replace j:=j.be S;replace o:=o.be S;replace f:=f.be S;replace a:=aC a S;clear aq;have E:Below M.1.size M (M.alloc (.cells #[.slice A7 q.length c7] 74)):=(aG _ _).alloc aE _;replace j:=j.be E;replace o:=o.be E;replace I:=I.be E;replace f:=f.be E;replace a:=aC a E;have X:=Bx.new M [.slice A7 q.length c7] 74;have ad:=X.cell 0 rfl;obtain⟨a7,F,Y,av⟩:=id f;go_wp2_with (at_builtin;refine K4 rfl rfl 74 24 underlying89 Y3 w.1.size _ a7 rfl F M.1.size (.slice A7 q.length c7) rfl ad ⟨_,_,_,rfl⟩ (by rw[Y];omega) (by rw[Y];unfold maxLen;omega) a.size ?_;intro v8 w8 ao T J);have zf:=WsAt.push F Y av I ao T J;have zr:=j.grown F T J;have Z:=o.grown F T J;have zb:=fy6 a J F aE;obtain⟨A8,c8,rfl,bh⟩:=zf.form;have al:(m++[q]).length=m.length+1:=by rw[bN];rfl
   clear ao T J F Y av f I j o a X ad E;generalize am:m++[q]=LS at *;have ay:=aB am;have ax:=aB al;clear am al;go_wp2_with fail;refine(a3 _ zr Z).mono ?_;rintro e9 w9 ⟨v9,rfl,h9,ac⟩;obtain⟨A9,c9,rfl,bi⟩:=h9.form;replace Z:=Z.be ac;replace zf:=zf.be ac;replace zb:=aC zb ac;go_wp2;go_roundg n'
   case rel=>exact⟨Qr,c,A9,c9,A6,c6,LS,rfl,rfl,h9,Z,zf,a0,by omega,by have:=ax.out;omega,fun l t=>by have:=HE.out l t;rw[<-ay.out,eK];exact this,zb⟩
   case measure=>omega
def G7(a:List Int):List (List UInt8):=(tT a (cf a (a.length-1))).map cW
def gzX(w:World)(B:Nat)(a:List Int)(e:Ending)(w':World):Prop:=
 ∃v g Q l,e= .returned (.tuple #[v,.int .i64 0])∧TsAt w' w.1.size 25 v (l.map G7)∧pO B (aS a) (bB (aS a)) g∧QuoOf (aS a) g Q∧Sqf B Q g l∧Below w.1.size w w'
def WsAt.mono{a:Nat}{b:List (List Int)}(h:WsAt w B 74 v b)(j:a<=B):WsAt w a 74 v b:=by
 obtain⟨l,e,f,i⟩:=h;refine⟨l,?_,f,i⟩;rcases e with h|⟨g,c,d,hv,k,h⟩
 ·exact .inl h
 ·exact .inr ⟨g,c,d,hv,aH j k,h⟩
def WsAt.grown{k:Nat}{K:List Value}{p:List (List Int)}(h:WsAt w k 74 u p)(G:PRow w B 25 v K)(E:Keep w w')(C:w.grownBy w' v.ownBlock):WsAt w' k 74 u p:=by
 have o:∀(b:Nat) (n:Array Value) (t:TypeId),w.heap[b]? =some (Obj.cells n t (0,0))->t≠25->w'.heap[b]? =w.heap[b]? :=fun b n t a H=>by
  refine C.block b (Array.getElem?_eq_some_iff.1 a).1 (fun e=> ?_);rcases G with ⟨rfl,_⟩|⟨g,m,f,rfl,_,d,_⟩
  ·simp[Value.ownBlock] at e
  ·simp[Value.ownBlock] at e;subst e;rw[d] at a;injection a with a;injection a with _ a;exact H a.symm
 obtain⟨us,r,s,y⟩:=h;refine⟨us,?_,s,fun i x l I F=> ?_⟩
 ·rcases r with h|⟨g,m,f,hv,a,d,h⟩
  ·exact .inl h
  ·exact .inr ⟨g,m,f,hv,a,(o g f 74 d (by decide)).trans d,h⟩
 ·obtain⟨A,c,e,z,h⟩:=y i x l I F;refine⟨A,c,e,z,?_⟩;rcases h with h|⟨b,J,q,j,D⟩
  ·exact .inl h
  ·exact .inr ⟨b,J,q,⟨(o b _ 77 j.1 (by decide)).trans j.1,j.2⟩,D.ke E⟩
def gzY(a:List (List UInt8))(va:Value)(w:World)(N:Glob w)(R:StrsAt w va a)(ay:a.length<=1073741824)(p:Nat)(af:a.length<=65->∀l∈a,l.length<=1073741824)(ae:a.length<=65->∀q∈aU a,RL p q)(a4:p<=1024)
  (hv:vl a=true)(h0:a≠[])(K B:Nat)(ad:1<=K)(au:K<=1073741824)(ar:5*B+8<=aJ)(L:Nat->List Int->List Int->Prop)(hI:SqfInv K B L)
  (al:∀D,ComDen (aU a) D (1+65*p)->(∀n∈cC (aU a) D,nl n.natAbs<=K)∧GcdFit K B (aS (cC (aU a) D)) (bB (aS (cC (aU a) D)))∧
   ∀g,pO B (aS (cC (aU a) D)) (bB (aS (cC (aU a) D))) g->∃Q n,QuoOf (aS (cC (aU a) D)) g Q∧(∀x∈g,nl x.natAbs<=K)∧(∀x∈Q,nl x.natAbs<=K)∧g.length<=1073741824∧n<=1073741824∧L n Q g)
  (ag:∀D Q g l,ComDen (aU a) D (1+65*p)->pO B (aS (cC (aU a) D)) (bB (aS (cC (aU a) D))) g->QuoOf (aS (cC (aU a) D)) g Q->Sqf B Q g l->l.length<=1073741824∧∀f∈l,f≠[]∧f.length<=1073741824∧∀n∈f,nl n.natAbs<=K):
  Calls prog 17 #[va] w fun e w'=>∃D,ComDen (aU a) D (1+65*p)∧gzX w B (cC (aU a) D) e w':=by
 obtain⟨A,c,rfl,hc⟩:=R.form;go_enter func17,ntmps17;go_wp2_with fail;refine(eqZ a _ _ N R ay af p (1+65*p) ae aE (by unfold aJ;omega)).mono ?_;rintro e1 G ⟨v1,bg,xs,D,rfl,F,hD,an,d⟩;obtain⟨A1,c1,rfl,a6⟩:=F.form;obtain⟨s1,B1,k1,d1,rfl⟩:=hD.form;obtain⟨rfl,s⟩:=an hv;obtain⟨p1, -,t1⟩:=pJ hv;obtain⟨kn,ai,ak⟩:=al D s;have ah:=fun Q g l=>ag D Q g l s;have a1:=oO s.pos s.dvd t1;have Z:(cC (aU a) D).length=a.length:=by rw[oN];unfold aU;rw[cH]
 have lx:(cC (aU a) D).length<=65:=by rw[Z];exact p1
 have ln:(cC (aU a) D).length≠0:=by rw[Z];exact fun e=>h0 (bX e)
 have q0:(((cC (aU a) D).length:Int)==0)=false:=by rw[beq_eq_false_iff_ne];omega
 rw[hv];have ao:=aB s;clear al ag an s Z t1 p1 R ae af;have V:=fun W h=>fun d:Below w.1.size w W=>dq8 (cC (aU a) D) (.slice A1 (cC (aU a) D).length c1) W (N.be d) h a1 K B kn ad (by unfold aJ;omega) ar (by omega) L hI ai ak;unfold U5 at V;go_wp2_with fail;have o:Below G.1.size G (G.alloc (.cells #[.bool s1,.slice B1 k1 d1] 77)):=(aG _ _).alloc aE _;replace F:=F.be o;replace d:=aC d o;clear o;generalize G.alloc (.cells #[.bool s1,.slice B1 k1 d1] 77)=w2 at *;refine(V _ F d).mono ?_;rintro e3 w3 ⟨v3,g,Q,l,rfl,m,U,O,P,av⟩;obtain⟨A3,c3,rfl,a7⟩:=m.form;obtain⟨ll,az⟩:=ah Q g l U O P;have I:=aB (And.intro U (And.intro O P));replace d:=aC d av;clear U O P ah V ak ai;go_wp2_with fail;go_loopg [7,24] l.length (fun k vf i wr=>∃j,Hid (j+k=l.length)∧i= .int .i64 j∧WsAt wr w2.1.size 74 (.slice A3 l.length c3) l∧TsAt wr w.1.size 25 vf ((l.take j).map G7)∧Below w.1.size w wr)
 case atStart=>exact⟨0,by unfold Hid;omega,rfl,m,RowsAt.nil _ _ _ _,d⟩
 case round=>
  clear m d;obtain⟨j,J,rfl,m,t,d⟩:=hrel;generalize wr=wy at *;have bb:(0:Int)<=(j:Int):=by omega
  obtain⟨Af,aq,rfl,a9⟩:=t.form;cases gk with
  |zero=>
   have hj:j=l.length:=J.out;subst hj;rw[aq9] at t;go_wp2_with fail;refine aM (v:= .tuple #[.slice Af (l.map G7).length aq,.int .i64 0]) (by simp[results,results17,go_sem]) rfl ⟨D,ao.out,_,g,Q,l,rfl,t,I.out.1,I.out.2.1,I.out.2.2,d⟩
  |succ k=>
   have aw:j<l.length:=by have:=J.out;omega
   have bc:(j:Int)<(l.length:Int):=by omega
   obtain⟨f,C⟩:∃f,l[j]? =some f:=⟨_,aR aw⟩;obtain⟨b,u,rfl,a5,hu,aj⟩:=m.at_ C;obtain⟨Au,cu,rfl,ba⟩:=aj.form;obtain⟨f0,fl,fk⟩:=az f (dG C);have am:(l.take (j+1)).map G7=(l.take j).map G7++[G7 f]:=by
    rw[Q9,C,aq7];rfl
   have ac:=aB am;have bf:((l.take j).map G7).length<=1073741824:=by rw[cH,bK];omega
   clear am C;generalize (l.take j).map G7=TS at *;go_wp2_with fail;refine(gzB f _ _ (N.be d) aj f0 K fk ad au fl).mono ?_;rintro e5 y ⟨v5,rfl,h5,S⟩;obtain⟨r,ab⟩:∃r,Hid (G7 f=r):=⟨_,rfl⟩;have z:StrsAt y v5 r:=by rw[<-ab.out];exact h5
   clear h5;rw[ab.out] at ac;obtain⟨H,M,rfl,a8⟩:=z.form;have o:Below y.1.size y (y.alloc (.cells #[.slice H r.length M] 25)):=(aG _ _).alloc aE _;replace m:=(m.be S).be o;replace t:=(t.be S).be o;replace z:=z.be o;replace d:=aC d S;replace d:=aC d o;have X:=Bx.new y [.slice H r.length M] 25;have ap:=X.cell 0 rfl;obtain⟨a3,E,Y,a2⟩:=id t;go_wp2_with (at_builtin;refine K4 rfl rfl 25 24 underlying41 fqS w.1.size _ a3 rfl E y.1.size (.slice H r.length M) rfl ap ⟨_,_,_,rfl⟩ (by rw[Y];omega) (by rw[Y];unfold maxLen;omega) d.size ?_;intro v8 w8 a0 ax T);have zf:=TsAt.push E Y a2 z a0 T;have z3:=WsAt.grown m E ax T;have zb:=fy6 d T E aE;rw[<-ac.out] at zf;go_roundg k
   case rel=>exact⟨j+1,by have:=J.out;unfold Hid;omega,by go_num,z3,zf,zb⟩
   case measure=>omega
def fz4:cG [45,49]=some (-1):=by decide
def LY:cG [48]=some 0:=by decide
def ayM:cG [49]=some 1:=by decide
def eqK:cG [50]=some 2:=by decide
def ayN:cG [45,50]=some (-2):=by decide
def fz5:cG [45,51]=some (-3):=by decide
def gzC:cG [45,49,47,52]=some (mkRat (-1) 4):=by
 unfold cG;rw[show iA [45,49,47,52]=some (true,[49],[52]) by decide];simp only[];rw[if_neg (by decide),if_pos (by decide)];rfl
def gzD:cG [49,47,50]=some (mkRat 1 2):=by
 unfold cG;rw[show iA [49,47,50]=some (false,[49],[50]) by decide];simp only[];rw[if_neg (by decide),if_pos (by decide)];rfl
def gzE:cG [49,47,52]=some (mkRat 1 4):=by
 unfold cG;rw[show iA [49,47,52]=some (false,[49],[52]) by decide];simp only[];rw[if_neg (by decide),if_pos (by decide)];rfl
def gzF:mkRat (-1) 4= -1/4:=by rw[Rat.mkRat_eq_div];rfl
def gzG:mkRat 1 2=1/2:=by rw[Rat.mkRat_eq_div];rfl
def gzH:mkRat 1 4=1/4:=by rw[Rat.mkRat_eq_div];rfl
def fx8:aU [[48],[48],[49]]=[0,0,1]:=by unfold aU;simp only[List.map,LY,ayM];rfl
def fx9:aU [[49],[50]]=[1,2]:=by unfold aU;simp only[List.map,ayM,eqK];rfl
def fxA:aU [[45,49],[49]]=[-1,1]:=by unfold aU;simp only[List.map,fz4,ayM];rfl
def fxB:aU [[45,51],[49]]=[-3,1]:=by unfold aU;simp only[List.map,fz5,ayM];rfl
def ezS:aU [[48],[48],[45,50],[50]]=[0,0, -2,2]:=by unfold aU;simp only[List.map,LY,ayN,eqK];rfl
def ezT{b:List Rat}(h:aU a=b)(c:a.length<=65)(d:a.all rd=true)(e:b.getLast?≠some 0):vl a=true:=by
 unfold vl;rw[iQ,h];exact⟨c,d,e⟩
def gzI:vl [[48],[48],[49]]=true:=ezT fx8 (by decide) (by simp[rd,LY,ayM]) (by decide)
def gzJ:vl [[49],[50]]=true:=ezT fx9 (by decide) (by simp[rd,ayM,eqK]) (by decide)
def fz6:vl [[45,49],[49]]=true:=ezT fxA (by decide) (by simp[rd,fz4,ayM]) (by decide)
def fz7:vl [[45,51],[49]]=true:=ezT fxB (by decide) (by simp[rd,fz5,ayM]) (by decide)
def gzK:vl [[48],[48],[45,50],[50]]=true:=ezT ezS (by decide) (by simp[rd,LY,ayN,eqK]) (by decide)
def fz8(h:n.natAbs<BN):RL 1 (n:Rat):=⟨cJ (by rw[bxG];exact h),cJ (by rw[bxG];show 1<BN;decide)⟩
def ezU{a:List Rat}(h:∀q∈a,∃n:Int,q=n∧n.natAbs<BN):∀q∈a,RL 1 q:=fun q b=>by
 obtain⟨n,rfl,hn⟩:=h q b;exact fz8 hn
def gzL:∀q∈([0,0,1]:List Rat),RL 1 q:=ezU (fun q a=>by
 simp at a;rcases a with rfl|rfl
 ·exact⟨0,rfl,by decide⟩
 ·exact⟨1,rfl,by decide⟩)
def gzM:∀q∈([1,2]:List Rat),RL 1 q:=ezU (fun q a=>by
 simp at a;rcases a with rfl|rfl
 ·exact⟨1,rfl,by decide⟩
 ·exact⟨2,rfl,by decide⟩)
def gzN:∀q∈([-1,1]:List Rat),RL 1 q:=ezU (fun q a=>by
 simp at a;rcases a with rfl|rfl
 ·exact⟨-1,rfl,by decide⟩
 ·exact⟨1,rfl,by decide⟩)
def gzO:∀q∈([-3,1]:List Rat),RL 1 q:=ezU (fun q a=>by
 simp at a;rcases a with rfl|rfl
 ·exact⟨-3,rfl,by decide⟩
 ·exact⟨1,rfl,by decide⟩)
def gzP:∀q∈([0,0, -2,2]:List Rat),RL 1 q:=ezU (fun q a=>by
 simp at a;rcases a with rfl|rfl|rfl
 ·exact⟨0,rfl,by decide⟩
 ·exact⟨-2,rfl,by decide⟩
 ·exact⟨2,rfl,by decide⟩)
def gzQ{Q R:List Rat}(h:DivRes [0,0,1] [1,2] Q R K):Q=[mkRat (-1) 4,mkRat 1 2]∧R=[mkRat 1 4]:=by
 have s:=h.q_len;have t:=h.r_lt;have z:∀i,3<=i->cf Q i=0:=fun i r=>bV (by simp at s;omega);have c:∀i,1<=i->cf R i=0:=fun i r=>bV (by simp at t;omega);have q:=h.id_ 3;have p:=h.id_ 2;have o:=h.id_ 1;have n:=h.id_ 0;have j:cf ([1,2]:List Rat) 0=1:=rfl;have k:cf ([1,2]:List Rat) 1=2:=rfl;have l:cf ([1,2]:List Rat) 2=0:=rfl;have m:cf ([1,2]:List Rat) 3=0:=rfl;have d:cf ([0,0,1]:List Rat) 0=0:=rfl;have e:cf ([0,0,1]:List Rat) 1=0:=rfl;have f:cf ([0,0,1]:List Rat) 2=1:=rfl;have g:cf ([0,0,1]:List Rat) 3=0:=rfl;simp only[conv,bW,byA,azV,Nat.reduceSub,Nat.reduceAdd,j,k,l,m,d,e,f,g,z 3 (by omega),c 3 (by omega),c 2 (by omega),c 1 (by omega)] at q p o n;rw[gzF,gzG,gzH];have w:cf Q 2=0:=by grind
 have v:cf Q 1=1/2:=by grind
 have u:cf Q 0= -1/4:=by grind
 have x:cf R 0=1/4:=by grind
 refine⟨oZ h.q_trim (fun a b=> ?_) (fun i=> ?_),oZ h.r_trim (fun a b=> ?_) (fun i=> ?_)⟩
 ·simp at b;rw[<-b];grind
 ·match i with
  |0=>exact u
  |1=>exact v
  |2=>exact w
  |i+3=>rw[z (i+3) (by omega),bV (by simp)]
 ·simp at b;rw[<-b];grind
 ·match i with
  |0=>exact x
  |i+1=>rw[c (i+1) (by omega),bV (by simp)]
def fz9(D:Int)(x:Int):cC [(x:Rat),1] D=[x*D,D]:=by
 unfold cC;show[x*D.tdiv (1:Int),1*D.tdiv (1:Int)]=_
 rw[Int.tdiv_one,az5]
def fxC(D:Int):cC [0,0, -2,2] D=[0,0, -2*D,2*D]:=by
 unfold cC;show[0*D.tdiv (1:Int),0*D.tdiv (1:Int), -2*D.tdiv (1:Int),2*D.tdiv (1:Int)]=_
 rw[Int.tdiv_one,bxB]
def fxD(b:0<D):aS [0,0, -2*D,2*D]=[0,0, -1,1]:=by
 have a:(bC [0,0, -2*D,2*D]:Int)=2*D:=by
  rw[CK,CK,CK,CK,JP,Nat.gcd_zero_left,fL,fL];show((Nat.gcd (Nat.gcd (Nat.gcd (2*D.natAbs) (2*D.natAbs)) 0) 0:Nat):Int)=_
  rw[Nat.gcd_self,bxN,bxN];omega
 unfold aS jX;rw[a];show[(0:Int).tdiv (2*D),(0:Int).tdiv (2*D),(-2*D).tdiv (2*D),(2*D).tdiv (2*D)]=_
 rw[Int.zero_tdiv,Int.tdiv_self (by omega),show -2*D= -(2*D) by omega,Int.neg_tdiv,Int.tdiv_self (by omega)]
def fzA(n:Nat)(p r:List Int):Prop:=(n=2∧p=[0,1, -1]∧r=[0, -1])∨(n=1∧p=[0, -1]∧r=[1])∨(n=0∧p=[1]∧r=[1])
def F3{l:List Int}(a:1<=K)(h:l.all (fun n=>decide (n.natAbs<BN))=true):∀n∈l,nl n.natAbs<=K:=fun n hn=>by
 have:=List.all_eq_true.1 h n hn;exact aH (cJ (by rw[bxG];exact of_decide_eq_true this)) a
def gzR:SqfInv 100 1000000 fzA:=by
 refine⟨fun n p r h=> ?_,fun n p r c h b a=> ?_⟩
 ·rcases h with ⟨rfl,rfl,rfl⟩|⟨rfl,rfl,rfl⟩|⟨rfl,rfl,rfl⟩;all_goals exact⟨oB rfl,oB rfl,F3 (by decide) (by decide),F3 (by decide) (by decide),by decide,by decide,by decide,by decide⟩
 ·rcases h with ⟨rfl,rfl,rfl⟩|⟨rfl,rfl,rfl⟩|⟨rfl,rfl,rfl⟩
  ·rw[fz2 a];exact⟨[-1,1],[1],1,by decide,⟨oB rfl,by decide,oB rfl,P9 (n:=6) (by decide) (by decide) (by decide)⟩,⟨oB rfl,by decide,oB rfl,P9 (n:=6) (by decide) (by decide) (by decide)⟩,F3 (by decide) (by decide),F3 (by decide) (by decide),F3 (by decide) (by decide),by decide,.inr (.inl ⟨rfl,rfl,rfl⟩)⟩
  ·rw[fz3 a];exact⟨[0, -1],[1],0,by decide,⟨oB rfl,by decide,oB rfl,P9 (n:=6) (by decide) (by decide) (by decide)⟩,⟨oB rfl,by decide,oB rfl,P9 (n:=6) (by decide) (by decide) (by decide)⟩,F3 (by decide) (by decide),F3 (by decide) (by decide),F3 (by decide) (by decide),by decide,.inr (.inr ⟨rfl,rfl,rfl⟩)⟩
  ·exact absurd b (by decide)
def ezV{x c Q':List Int}(h:QuoOf x c Q)(a:QuoOf x c Q'):Q=Q':=by
 refine oZ h.trim a.trim (fun i=> ?_)
 have b:=YJ (d:=fun j=>cf Q j+(-1)*cf Q' j) (L:=Q.length+Q'.length) h.ne h.tc (fun i e=>by
  show cf Q i+(-1)*cf Q' i=0
  rw[bV (by omega),bV (by omega)];simp) (fun i _=>by
  rw[qD,eI,<-h.id_,<-a.id_];omega) i
 have f:cf Q i+(-1)*cf Q' i=0:=b;omega
def fzB{l:List (List Int)}(m:pO 1000000 [0,0, -1,1] [0, -2,3] g)(k:QuoOf [0,0, -1,1] g Q)(h:Sqf 1000000 Q g l):l=[[-1,1],[0, -1]]:=by
 have a:=fz1 m;subst a;have b:Q=[0,1, -1]:=ezV k ⟨oB rfl,by decide,oB rfl,P9 (n:=6) (by decide) (by decide) (by decide)⟩;subst b;cases h with
 |done h=>simp at h
 |step w o q s u=>
  have c:=fz2 o;subst c;have d:=ezV q (Q':=[-1,1]) ⟨oB rfl,by decide,oB rfl,P9 (n:=6) (by decide) (by decide) (by decide)⟩;have e:=ezV s (Q':=[1]) ⟨oB rfl,by decide,oB rfl,P9 (n:=6) (by decide) (by decide) (by decide)⟩;subst d;subst e;cases u with
  |done h=>simp at h
  |step x p r t v=>
   have f:=fz3 p;subst f;have i:=ezV r (Q':=[0, -1]) ⟨oB rfl,by decide,oB rfl,P9 (n:=6) (by decide) (by decide) (by decide)⟩;have j:=ezV t (Q':=[1]) ⟨oB rfl,by decide,oB rfl,P9 (n:=6) (by decide) (by decide) (by decide)⟩;subst i;subst j;cases v with
   |done=>rfl
   |step h _ _ _ _=>simp at h
def gzS:G7 [0, -1]=[[48],[49]]:=by
 unfold G7 tT;show[cW (((0:Int):Rat)/((-1:Int):Rat)),cW (((-1:Int):Rat)/((-1:Int):Rat))]=_
 rw[show((0:Int):Rat)/((-1:Int):Rat)=0 by grind,show((-1:Int):Rat)/((-1:Int):Rat)=1 by grind,tL LY,tL ayM]
def gyY(P Q:Value)(w:World)(j:Glob w)(o:StrsAt w P [[45,49],[49]])(p:StrsAt w Q [[45,51],[49]]):
  Calls prog 16 #[P,Q] w fun e w'=>e= .returned (.tuple #[.string ⟨#[45,50]⟩,.int .i64 0])∧Below w.1.size w w':=by
 obtain⟨A,c,rfl,hc⟩:=o.form;obtain⟨R,Y,rfl,ad⟩:=p.form;replace o:StrsAt w (.slice A 2 c) [[45,49],[49]]:=o;replace p:StrsAt w (.slice R 2 Y) [[45,51],[49]]:=p;go_enter func16,ntmps16;go_wp2_with fail;refine(eqZ [[45,49],[49]] _ _ j o (by decide) (fun _=>by decide) 1 66 (fun _=>by rw[fxA];exact gzN) (by decide) (by unfold aJ;decide)).mono ?_;rintro e1 h ⟨v1,ag,xs,D,rfl,b,d,L,a⟩;obtain⟨rfl,s⟩:=L fz6;rw[fxA] at b s;have G:cC [-1,1] D=[-1*D,D]:=fz9 D (-1);rw[G] at b;obtain⟨S,Z,rfl,ae⟩:=b.form;replace b:WholeAt h (.slice S 2 Z) [-1*D,D]:=b;obtain⟨B,l,z,m,rfl⟩:=d.form;rw[fz6];clear L G;go_wp2_with fail;have r:Below h.1.size h (h.alloc (.cells #[.bool B,.slice l z m] 77)):=(aG _ _).alloc aE _;have X:=Bx.new h [.bool B,.slice l z m] 77;replace b:=b.be r;replace d:=d.be r;replace a:=aC a r;clear r;generalize h.1.size=I at *;generalize h.alloc (.cells #[.bool B,.slice l z m] 77)=w2 at *;refine(eqZ [[45,51],[49]] _ _ (j.be a) (p.be a) (by decide) (fun _=>by decide) 1 66 (fun _=>by rw[fxB];exact gzO) (by decide) (by unfold aJ;decide)).mono ?_;rintro e3 i ⟨v3,ah,ys,E,rfl,f,n,M,q⟩;obtain⟨rfl,t⟩:=M fz7;rw[fxB] at f t;have H:cC [-3,1] E=[-3*E,E]:=fz9 E (-3);rw[H] at f;obtain⟨T,c3,rfl,af⟩:=f.form;replace f:WholeAt i (.slice T 2 c3) [-3*E,E]:=f;obtain⟨O,C,N,F,rfl⟩:=n.form;rw[fz7];clear M H;replace X:=X.be q;replace b:=b.be q;replace d:=d.be q;replace a:=aC a q;have U:∀g:Obj,(i.alloc g).cell? ⟨I,0,none⟩=some (.bool B):=fun g=>(X.alloc g).cell 0 rfl;have V:∀g:Obj,(i.alloc g).cell? ⟨I,1,none⟩=some (.slice l z m):=fun g=>(X.alloc g).cell 1 rfl;have J:=fun W v u x y j h1 h2 h3 h4=>gyZ D E s.pos t.pos (aH s.nl_ (by decide)) (aH t.nl_ (by decide)) v u x y W j h1 h2 h3 h4;unfold iF at J;clear s t;go_wp2_with fail;have k:Below i.1.size i (i.alloc (.cells #[.bool O,.slice C N F] 77)):=(aG _ _).alloc aE _;replace b:=b.be k;replace f:=f.be k;replace d:=d.be k;replace n:=n.be k;replace a:=aC a k;clear k X U V;generalize i.alloc (.cells #[.bool O,.slice C N F] 77)=w4 at *;refine(J _ _ _ _ _ (j.be a) b f d n).mono ?_;rintro e5 w5 ⟨v5,rfl,h5,ab⟩;replace a:=aC a ab;have K:=I4 _ _ _ (j.be a) h5 1 (fz8 (by decide)) (by decide);rw[show cW ((-2:Int):Rat)=[45,50] from tL ayN] at K;go_wp2_with fail;refine K.mono ?_;rintro e6 w6 ⟨rfl,ac⟩;replace a:=aC a ac;go_wp2_with fail;exact aM (v:= .tuple #[.string ⟨#[45,50]⟩,.int .i64 0]) (by simp[results,results16,go_sem]) rfl ⟨rfl,a⟩
def StrsAt.built(w:World)(a:List (List UInt8))(t:TypeId):StrsAt (w.alloc (.cells (a.map (fun l=>Value.string ⟨l.toArray⟩)).toArray t)) (.slice (some ⟨w.1.size,0,none⟩) a.length a.length) a:=by
 refine⟨_,_,rfl,aE,.inr ⟨w.1.size,0,rfl,by simp,fun i l b=> ?_⟩⟩;have B:=Bx.new w (a.map (fun l=>Value.string ⟨l.toArray⟩)) t;rw[bA];exact B.cell i (by rw[iK,b];rfl)
def dxK(a:List (List UInt8))(b c:Value)(w:World)(f:StrsAt w b a)(g:StrsAt w c a)(d:a.length<=1099511627776):
  Calls prog 11 #[b,c] w fun e w'=>e= .returned (.bool true)∧Below w.1.size w w':=
 (cqW a a b c w f g d d).mono (fun e w' h=>⟨by rw[h.1,decide_eq_true rfl],h.2⟩)
def gyV:GcdFit 100 1000000 [0,0, -1,1] [0, -2,3]:=⟨oB rfl,oB rfl,F3 (by decide) (by decide),F3 (by decide) (by decide),by decide,by decide,by decide,by decide⟩
def gyW(a:nl D.natAbs<=66):∀n∈[0,0, -2*D,2*D],nl n.natAbs<=100:=fun n hn=>by
 simp only[List.mem_cons,List.not_mem_nil,or_false] at hn;have b:nl (2:Int).natAbs<=1:=cJ (by decide);have c:nl (-2:Int).natAbs<=1:=cJ (by decide);have d:nl (0:Int).natAbs<=1:=cJ (by decide);rcases hn with rfl|rfl|rfl|rfl
 ·omega
 ·omega
 ·exact aH (gT _ _ _ _ c a) (by decide)
 ·exact aH (gT _ _ _ _ b a) (by decide)
def gyX(h:Value)(w:World)(k:Glob w)(m:StrsAt w h [[48],[48],[45,50],[50]]):
  Calls prog 17 #[h] w fun e w'=>∃v,e= .returned (.tuple #[v,.int .i64 0])∧TsAt w' w.1.size 25 v [G7 [-1,1],[[48],[49]]]∧Below w.1.size w w':=by
 refine(gzY [[48],[48],[45,50],[50]] h w k m (by decide) 1 (fun _=>by decide) (fun _=>by rw[ezS];exact gzP) (by decide) gzK (by decide) 100 1000000 (by decide) (by decide) (by unfold aJ;decide) fzA gzR ?_ ?_).mono ?_
 ·intro D b;rw[ezS] at b⊢;rw[fxC,fxD b.pos,fx7];refine⟨gyW (aH b.nl_ (by decide)),gyV,fun g a=> ?_⟩;rw[fz1 a];exact⟨[0,1, -1],2,⟨oB rfl,by decide,oB rfl,P9 (n:=6) (by decide) (by decide) (by decide)⟩,F3 (by decide) (by decide),F3 (by decide) (by decide),by decide,by decide,.inl ⟨rfl,rfl,rfl⟩⟩
 ·intro D Q g l b a c d;rw[ezS] at b a c;rw[fxC,fxD b.pos] at a c;rw[fx7] at a;rw[fzB a c d];refine⟨by decide,fun f j=> ?_⟩;simp only[List.mem_cons,List.not_mem_nil,or_false] at j;rcases j with rfl|rfl
  ·exact⟨by decide,by decide,F3 (by decide) (by decide)⟩
  ·exact⟨by decide,by decide,F3 (by decide) (by decide)⟩
 ·rintro e w' ⟨D,b,v,g,Q,l,rfl,i,a,c,d,o⟩;rw[ezS] at b a c;rw[fxC,fxD b.pos] at a c;rw[fx7] at a;rw[fzB a c d] at i;refine⟨v,rfl,?_,o⟩;rw[<-gzS];exact i
def eqJ(w:World)(B:Glob w):Calls prog 6 #[] w fun e w'=>e= .returned (.bool true)∧Below w.1.size w w':=by
 go_enter func6,ntmps6;go_wp2_with fail;have c:Below w.1.size w (w.alloc (.cells #[.string ⟨#[48]⟩,.string ⟨#[48]⟩,.string ⟨#[49]⟩] 9)):=(aG _ _).alloc aE _;have p:Below w.1.size w ((w.alloc (.cells #[.string ⟨#[48]⟩,.string ⟨#[48]⟩,.string ⟨#[49]⟩] 9)).alloc (.cells #[.string ⟨#[49]⟩,.string ⟨#[50]⟩] 9)):=c.alloc (by simp) _;have h:StrsAt ((w.alloc (.cells #[.string ⟨#[48]⟩,.string ⟨#[48]⟩,.string ⟨#[49]⟩] 9)).alloc (.cells #[.string ⟨#[49]⟩,.string ⟨#[50]⟩] 9)) (.slice (some ⟨w.1.size,0,none⟩) 3 3) [[48],[48],[49]]:=(StrsAt.built w [[48],[48],[49]] 9).be ((aG _ _).alloc aE _);have y:StrsAt ((w.alloc (.cells #[.string ⟨#[48]⟩,.string ⟨#[48]⟩,.string ⟨#[49]⟩] 9)).alloc (.cells #[.string ⟨#[49]⟩,.string ⟨#[50]⟩] 9)) (.slice (some ⟨w.1.size+1,0,none⟩) 2 2) [[49],[50]]:=by
  have:=StrsAt.built (w.alloc (.cells #[.string ⟨#[48]⟩,.string ⟨#[48]⟩,.string ⟨#[49]⟩] 9)) [[49],[50]] 9;rw[World.size_alloc] at this;exact this
 have a:=p;clear c p;generalize (w.alloc (.cells #[.string ⟨#[48]⟩,.string ⟨#[48]⟩,.string ⟨#[49]⟩] 9)).alloc (.cells #[.string ⟨#[49]⟩,.string ⟨#[50]⟩] 9)=W at *;refine(gzW [[48],[48],[49]] [[49],[50]] _ _ _ (B.be a) h y (by decide) (by decide) 1 (fun _=>by decide) (fun _=>by decide) (fun _=>by rw[fx8];exact gzL) (fun _=>by rw[fx9];exact gzM) (by decide)).mono ?_;rintro T g ⟨v,u,n,Q,R,rfl,hv,D,E, -, -,F⟩;obtain⟨rfl,C⟩:=F gzI gzJ (by decide);rw[fx8,fx9] at C;obtain⟨rfl,rfl⟩:=gzQ C;have f:StrsAt g v [[45,49,47,52],[49,47,50]]:=by
  have e:List.map cW [mkRat (-1) 4,mkRat 1 2]=[[45,49,47,52],[49,47,50]]:=by
   show[cW (mkRat (-1) 4),cW (mkRat 1 2)]=_
   rw[tL gzC,tL gzD]
  rw[e] at hv;exact hv
 have d:StrsAt g u [[49,47,52]]:=by
  have e:List.map cW [mkRat 1 4]=[[49,47,52]]:=by
   show[cW (mkRat 1 4)]=_
   rw[tL gzE]
  rw[e] at D;exact D
 obtain⟨J,N,rfl, -⟩:=f.form;obtain⟨I,M,rfl, -⟩:=d.form;replace f:StrsAt g (.slice J 2 N) [[45,49,47,52],[49,47,50]]:=f;replace d:StrsAt g (.slice I 1 M) [[49,47,52]]:=d;replace a:=aC a E;clear h y hv D F C E;go_wp2_with fail;have c:Below g.1.size g (g.alloc (.cells #[.string ⟨#[45,49]⟩,.string ⟨#[49]⟩] 9)):=(aG _ _).alloc aE _;have p:Below g.1.size g ((g.alloc (.cells #[.string ⟨#[45,49]⟩,.string ⟨#[49]⟩] 9)).alloc (.cells #[.string ⟨#[45,51]⟩,.string ⟨#[49]⟩] 9)):=c.alloc (by simp) _;have h:StrsAt ((g.alloc (.cells #[.string ⟨#[45,49]⟩,.string ⟨#[49]⟩] 9)).alloc (.cells #[.string ⟨#[45,51]⟩,.string ⟨#[49]⟩] 9)) (.slice (some ⟨g.1.size,0,none⟩) 2 2) [[45,49],[49]]:=(StrsAt.built g [[45,49],[49]] 9).be ((aG _ _).alloc aE _);have y:StrsAt ((g.alloc (.cells #[.string ⟨#[45,49]⟩,.string ⟨#[49]⟩] 9)).alloc (.cells #[.string ⟨#[45,51]⟩,.string ⟨#[49]⟩] 9)) (.slice (some ⟨g.1.size+1,0,none⟩) 2 2) [[45,51],[49]]:=by
  have:=StrsAt.built (g.alloc (.cells #[.string ⟨#[45,49]⟩,.string ⟨#[49]⟩] 9)) [[45,51],[49]] 9;rw[World.size_alloc] at this;exact this
 replace f:=f.be p;replace d:=d.be p;replace a:=aC a p;clear c p;generalize (g.alloc (.cells #[.string ⟨#[45,49]⟩,.string ⟨#[49]⟩] 9)).alloc (.cells #[.string ⟨#[45,51]⟩,.string ⟨#[49]⟩] 9)=W at *;refine(gyY _ _ _ (B.be a) h y).mono ?_;rintro U q ⟨rfl,z⟩;replace f:=f.be z;replace d:=d.be z;replace a:=aC a z;clear h y z;go_wp2_with fail;have c:Below q.1.size q (q.alloc (.cells #[.string ⟨#[48]⟩,.string ⟨#[48]⟩,.string ⟨#[45,50]⟩,.string ⟨#[50]⟩] 9)):=(aG _ _).alloc aE _;have h:StrsAt (q.alloc (.cells #[.string ⟨#[48]⟩,.string ⟨#[48]⟩,.string ⟨#[45,50]⟩,.string ⟨#[50]⟩] 9)) (.slice (some ⟨q.1.size,0,none⟩) 4 4) [[48],[48],[45,50],[50]]:=StrsAt.built q [[48],[48],[45,50],[50]] 9;replace f:=f.be c;replace d:=d.be c;replace a:=aC a c;clear c;generalize q.alloc (.cells #[.string ⟨#[48]⟩,.string ⟨#[48]⟩,.string ⟨#[45,50]⟩,.string ⟨#[50]⟩] 9)=W at *;refine(gyX _ _ (B.be a) h).mono ?_;rintro V m ⟨v3,rfl,j,A⟩;obtain⟨G,K,rfl, -⟩:=j.form;replace j:TsAt m W.1.size 25 (.slice G 2 K) [G7 [-1,1],[[48],[49]]]:=j;replace f:=f.be A;replace d:=d.be A;replace a:=aC a A;clear h A;go_wp2_with fail;have c:Below m.1.size m (m.alloc (.cells #[.string ⟨#[45,49,47,52]⟩,.string ⟨#[49,47,50]⟩] 9)):=(aG _ _).alloc aE _;have h:StrsAt (m.alloc (.cells #[.string ⟨#[45,49,47,52]⟩,.string ⟨#[49,47,50]⟩] 9)) (.slice (some ⟨m.1.size,0,none⟩) 2 2) [[45,49,47,52],[49,47,50]]:=StrsAt.built m [[45,49,47,52],[49,47,50]] 9;(try replace f:=f.be c);(try replace d:=d.be c);(try replace j:=j.be c);(try replace k:=k.be c);replace a:=aC a c;clear c;generalize m.alloc (.cells #[.string ⟨#[45,49,47,52]⟩,.string ⟨#[49,47,50]⟩] 9)=O at *;refine(dxK _ _ _ _ f h (by decide)).mono ?_;rintro X r ⟨rfl,s⟩;(try replace f:=f.be s);(try replace d:=d.be s);(try replace j:=j.be s);replace a:=aC a s;clear h s;go_wp2_with fail;have c:Below r.1.size r (r.alloc (.cells #[.string ⟨#[49,47,52]⟩] 9)):=(aG _ _).alloc aE _;have h:StrsAt (r.alloc (.cells #[.string ⟨#[49,47,52]⟩] 9)) (.slice (some ⟨r.1.size,0,none⟩) 1 1) [[49,47,52]]:=StrsAt.built r [[49,47,52]] 9;(try replace f:=f.be c);(try replace d:=d.be c);(try replace j:=j.be c);(try replace k:=k.be c);replace a:=aC a c;clear c;generalize r.alloc (.cells #[.string ⟨#[49,47,52]⟩] 9)=P at *;refine(dxK _ _ _ _ d h (by decide)).mono ?_;rintro Y o ⟨rfl,t⟩;(try replace f:=f.be t);(try replace d:=d.be t);(try replace j:=j.be t);replace a:=aC a t;clear h t;obtain⟨b,u4,rfl,ab,ac,k⟩:=j.at_ (i:=1) (l:=[[48],[49]]) rfl;obtain⟨H,L,rfl, -⟩:=k.form;replace k:StrsAt o (.slice H 2 L) [[48],[49]]:=k;go_wp2_with fail;have c:Below o.1.size o (o.alloc (.cells #[.string ⟨#[48]⟩,.string ⟨#[49]⟩] 9)):=(aG _ _).alloc aE _;have h:StrsAt (o.alloc (.cells #[.string ⟨#[48]⟩,.string ⟨#[49]⟩] 9)) (.slice (some ⟨o.1.size,0,none⟩) 2 2) [[48],[49]]:=StrsAt.built o [[48],[49]] 9;(try replace f:=f.be c);(try replace d:=d.be c);(try replace j:=j.be c);(try replace k:=k.be c);replace a:=aC a c;clear c;generalize o.alloc (.cells #[.string ⟨#[48]⟩,.string ⟨#[49]⟩] 9)=S at *;refine(dxK _ _ _ _ k h (by decide)).mono ?_;rintro Z w7 ⟨rfl,x⟩;(try replace f:=f.be x);(try replace d:=d.be x);(try replace j:=j.be x);replace a:=aC a x;clear h x;go_wp2;go_ret;exact⟨rfl,a⟩
def jH(n:Nat)(a:List (List UInt8)):Bool:=a.all (fun l=>decide (l.length<=n))
def LX(n:Nat)(a:List (List UInt8))(v:Value)(w:World)(hv:StrsAt w v a)(hn:n<=1073741824)(G:a.length<=1073741824)(y:∀l∈a,l.length<=9223372036854775807):
  Calls prog 14 #[.int .i64 n,v] w fun e w'=>e= .returned (.bool (jH n a))∧w=w':=by
 obtain⟨A,c,rfl,C⟩:=hv.form;go_enter func14,ntmps14;go_wp2_with fail;go_loopg [5] a.length (fun k i wr=>∃j,Hid (j+k=a.length)∧i= .int .i64 j∧Hid (jH n (a.take j)=true)∧w=wr)
 case atStart=>exact⟨0,by unfold Hid;omega,rfl,rfl,rfl⟩
 case round=>
  obtain⟨j,f,rfl,g,rfl⟩:=hrel;have E:(0:Int)<=(j:Int):=by omega
  cases gk with
  |zero=>
   have m:j=a.length:=f.out;have r:Hid (jH n a=true):=by
    have:=g.out;rwa [m,aq9] at this
   subst m;go_wp2;go_ret;rw[r.out];exact⟨rfl,rfl⟩
  |succ k=>
   have x:j<a.length:=by have:=f.out;omega
   have F:(j:Int)<(a.length:Int):=by omega
   obtain⟨t,d⟩:∃t,a[j]? =some t:=⟨_,aR x⟩;have p:jH n (a.take (j+1))=decide (t.length<=n):=by
    unfold jH;rw[Q9,d,aqO,byJ];have:=g.out;unfold jH at this;rw[this];simp
   have o:¬t.length<=n->jH n a=false:=fun h=>by
    unfold jH;rw[List.all_eq_false];exact⟨t,dG d,by simpa using h⟩
   have u:=aB p;have s:=aB o;have I:=y t (dG d);obtain⟨b,J,rfl,B,D⟩:=hv.at_ d;have H:(⟨t.toArray⟩:ByteArray).size=t.length:=by simp[ByteArray.size]
   clear p o d g;by_cases q:t.length<=n
   ·have z:¬(n:Int)<(t.length:Int):=by omega
    go_wp2;go_roundg k
    case rel=>exact⟨j+1,by have:=f.out;unfold Hid;omega,by go_num,by unfold Hid;rw[u.out];exact decide_eq_true q,rfl⟩
    case measure=>omega
   ·have z:(n:Int)<(t.length:Int):=by omega
    go_wp2;go_ret;rw[s.out q];exact⟨rfl,rfl⟩
def eqL(w:World)(v:Value)(a:List (List (List UInt8))):Prop:=
 ∃g c,v= .slice (some ⟨g,0,none⟩) a.length c∧∀(i:Nat) (p:List (List UInt8)),a[i]? =some p->∃A d,w.cell? ⟨g,i,none⟩=some (.slice A p.length d)∧StrsAt w (.slice A p.length d) p
def M2(n d:Nat)(a:List (List (List UInt8))):Bool:=a.all (fun p=>decide (p.length<=n)&&jH d p)
def gq1(n d:Nat)(a:List (List (List UInt8)))(v:Value)(w:World)(hv:eqL w v a)(hn:n<=1073741824)(z:d<=1073741824)(K:a.length<=1073741824)(C:∀p∈a,∀l∈p,l.length<=9223372036854775807):
  Calls prog 5 #[.int .i64 n,.int .i64 d,v] w fun e w'=>e= .returned (.bool (M2 n d a))∧w=w':=by
 obtain⟨g,c,rfl,hv⟩:=hv;go_enter func5,ntmps5;go_wp2_with fail;go_loopg [7] a.length (fun k i wr=>∃j,Hid (j+k=a.length)∧i= .int .i64 j∧Hid (M2 n d (a.take j)=true)∧w=wr)
 case atStart=>exact⟨0,by unfold Hid;omega,rfl,rfl,rfl⟩
 case round=>
  obtain⟨j,o,rfl,r,rfl⟩:=hrel;have I:(0:Int)<=(j:Int):=by omega
  cases gk with
  |zero=>
   have s:j=a.length:=o.out;have y:Hid (M2 n d a=true):=by
    have:=r.out;rwa [s,aq9] at this
   subst s;go_wp2;go_ret;rw[y.out];exact⟨rfl,rfl⟩
  |succ k=>
   have B:j<a.length:=by have:=o.out;omega
   have J:(j:Int)<(a.length:Int):=by omega
   obtain⟨p,m⟩:∃p,a[j]? =some p:=⟨_,aR B⟩;have u:M2 n d (a.take (j+1))=(decide (p.length<=n)&&jH d p):=by
    unfold M2;rw[Q9,m,aqO,byJ];have:=r.out;unfold M2 at this;rw[this];simp
   have t:(decide (p.length<=n)&&jH d p)=false->M2 n d a=false:=fun h=>by
    unfold M2;rw[List.all_eq_false];exact⟨p,dG m,by rw[h];simp⟩
   have q:=aB u;have b:=aB t;have D:=C p (dG m);obtain⟨A,dd,H,E⟩:=hv j p m;clear u t m r;by_cases x:p.length<=n
   ·have F:¬(n:Int)<(p.length:Int):=by omega
    have f:decide (p.length<=n)=true:=decide_eq_true x;rw[f] at q b;clear f;go_wp2_with fail;refine(LX d p _ _ E z (by omega) D).mono ?_;rintro G L ⟨rfl,rfl⟩;cases hs:jH d p with
    |true=>
     rw[hs] at q;clear b;go_wp2;go_roundg k
     case rel=>exact⟨j+1,by have:=o.out;unfold Hid;omega,by go_num,by unfold Hid;rw[q.out];rfl,rfl⟩
     case measure=>omega
    |false=>
     rw[hs] at b;go_wp2;go_ret;rw[b.out rfl];exact⟨rfl,rfl⟩
   ·have F:(n:Int)<(p.length:Int):=by omega
    have f:decide (p.length<=n)=false:=decide_eq_false x;rw[f] at b;clear f;go_wp2;go_ret;rw[b.out rfl];exact⟨rfl,rfl⟩
def gq2{n d:Nat}{b:List (List (List UInt8))}(h:M2 n d b=true)(e:p∈b):p.length<=n∧∀l∈p,l.length<=d:=by
 have a:=List.all_eq_true.1 h p e;rw[az7,iQ] at a;exact⟨a.1,fun l c=>of_decide_eq_true (List.all_eq_true.1 a.2 l c)⟩
def fzD{A:Option Addr}(d:StrsAt w (.slice A a.length c) a)(t:TypeId):
  eqL (w.alloc (.cells #[.slice A a.length c] t)) (.slice (some ⟨w.1.size,0,none⟩) 1 1) [a]:=by
 have B:=Bx.new w [.slice A a.length c] t;have e:Below w.1.size w (w.alloc (.cells #[.slice A a.length c] t)):=(aG _ _).alloc aE _;refine⟨w.1.size,1,rfl,fun i p b=> ?_⟩;match i,b with
 |0,b=>
  simp at b;subst b;exact⟨A,c,B.cell 0 rfl,d.be e⟩
def fxF(u:List (List UInt8))(vars i:Int):(∃c,c≠0∧mT u vars i=((0,[]),c))∨∃V I:Nat,vars=V∧i=I∧I<V∧V<=6∧u.length<=25∧vl u=true∧mT u vars i=(((V:Int),kW V I (aU u)),0):=by
 unfold mT;by_cases a:vl u=false
 ·exact .inl ⟨1,by decide,by rw[if_pos a]⟩
 by_cases b:vars<1∨6<vars∨i<0∨vars<=i
 ·exact .inl ⟨3,by decide,by rw[if_neg a,if_pos b]⟩
 by_cases d:25<u.length
 ·exact .inl ⟨2,by decide,by rw[if_neg a,if_neg b,if_pos d]⟩
 obtain⟨V,rfl⟩:∃V:Nat,vars=V:=⟨vars.toNat,by omega⟩;obtain⟨I,rfl⟩:∃I:Nat,i=I:=⟨i.toNat,by omega⟩;exact .inr ⟨V,I,rfl,rfl,by omega,by omega,by omega,by simpa using a,by rw[if_neg a,if_neg b,if_neg d,j9,j9]⟩
def fzE(vars:Int)(ts:List Te)(i:Int):(lB vars ts i).1.length<=25:=by
 unfold lB;by_cases a:tN vars ts=false
 ·rw[if_pos a];exact dC _
 rw[if_neg a];split
 ·exact dC _
 ·split
  ·exact dC _
  ·show(gH [48] i.toNat (sF ts+1).toNat ts).length<=25
   rw[U6];have:=fx5 (vars:=vars) (ts:=ts) (by simpa using a);omega
def fzF{V I:Nat}{p:List Rat}(e:p.length<=25)(d:V<=6):(kW V I p).length<=1073741824∧∀t∈kW V I p,t.2.length<=1073741824:=by
 refine⟨by rw[eq6];have:=eq5 p;omega,fun t c=> ?_⟩;obtain⟨j,b,rfl⟩:=List.mem_iff_getElem.1 c;obtain⟨k, -,a, -⟩:=U7 (aR b);rw[a];show(bG V I k).length<=1073741824
 rw[kE];omega
def fzG(n:Int)(ts:List Te)(u:List (List UInt8))(vars i:Int)(vp vu:Value)(w:World)(z:Glob w)(o:TesAt w vp ts)(T:StrsAt w vu u)(aw:ts.length<=9223372036854775807)(ay:∀t∈ts,t.1.length<=9223372036854775807∧t.2.length<=9223372036854775807)(Q:∀t∈ts,∀x∈t.2,i64 x)(a0:∀l∈u,l.length<=9223372036854775807)(U:i64 n)(K:i64 i):
  Calls prog 3 #[.agg #[.int .i64 n,vp],vu,.int .i64 vars,.int .i64 i] w fun e w'=>e= .returned (.bool true)∧Below w.1.size w w':=by
 obtain⟨A,c,rfl,hc⟩:=o.form;obtain⟨B,d,rfl,hd⟩:=T.form;have an:=fun W h=>show Calls prog 4 #[.agg #[.int .i64 n,.slice A ts.length c],.int .i64 6,.int .i64 12] W fun e w'=>e= .returned (.bool (ezQ 6 12 ts))∧Below W.1.size W w' from gyM n ts 6 12 (.slice A ts.length c) W h aw (by decide) (by decide) ay
 have ae:=fun W v (o:eqL W v [u])=>show Calls prog 5 #[.int .i64 70,.int .i64 8,v] W fun e w'=>e= .returned (.bool (M2 70 8 [u]))∧W=w' from gq1 70 8 [u] v W o (by decide) (by decide) (by show 1<=1073741824;decide) (fun p o=>by
  simp only[List.mem_cons,List.not_mem_nil,or_false] at o;subst o;exact a0)
 obtain⟨S1,af⟩:∃S,ezQ 6 12 ts=S:=⟨_,rfl⟩;obtain⟨S2,ag⟩:∃S,M2 70 8 [u]=S:=⟨_,rfl⟩;rw[af] at an;simp only[ag] at ae;have HS:=aB (And.intro af (And.intro ag (And.intro Q (And.intro U K))));clear af ag ay a0 Q U K aw;obtain⟨W,eW,a,X⟩:=bI w [.int .i64 n,.slice A ts.length c] 24;have g:=X.k2;go_enter func3,ntmps3;go_wp2_with fail;(try rw[eW]);clear eW;refine(an _ (o.be a)).mono ?_;rintro e1 w1 ⟨rfl,ah⟩;replace X:=X.be ah;replace a:=aC a ah;replace g:=X.k2;clear an ah;cases S1 with
 |false=>
  clear ae;go_wp2_with fail;refine(eqJ _ (z.be a)).mono ?_;rintro G w9 ⟨rfl,f⟩;go_wp2;go_ret;exact⟨rfl,aC a f⟩
 |true=>
  obtain⟨w2,e2⟩:∃w2,w1.alloc (.cells #[.slice B u.length d] 25)=w2:=⟨_,rfl⟩;have ax:eqL w2 (.slice (some ⟨w1.1.size,0,none⟩) 1 1) [u]:=by rw[<-e2];exact fzD (T.be a) _
  have ak:Below w1.1.size w1 w2:=by rw[<-e2];exact(aG _ _).alloc aE _
  go_wp2_with fail;(try rw[e2]);clear e2;refine(ae _ _ ax).mono ?_;rintro e3 w3 ⟨rfl,rfl⟩;replace X:=X.be ak;replace a:=aC a ak;replace g:=X.k2;clear ae ax ak;cases S2 with
  |false=>
   go_wp2_with fail;refine(eqJ _ (z.be a)).mono ?_;rintro G w9 ⟨rfl,f⟩;go_wp2;go_ret;exact⟨rfl,aC a f⟩
  |true=>
   obtain⟨M,h2,Q,U,K⟩:=HS.out;obtain⟨lu,su⟩:=gq2 h2 (p:=u) (by simp);have am:∀l∈u,l.length<=1073741824:=fun l hl=>aH (su l hl) (by decide);have C:∀q∈aU u,RL 1 q:=pI (fun l hl=>aH (su l hl) (by decide));unfold ezQ at M;simp only[az7,decide_eq_true_eq,List.all_eq_true] at M;have D:PolyOk n ts:=⟨U,by omega,fun t R=>aH (M.2 t R).1 (by decide),fun t R q hq=>lS hq (aH (M.2 t R).1 (by decide)),Q⟩;have f1:=fun W h hv=>fyS n ts i (.slice A ts.length c) W h hv D K;have r1:=fun W hv=>gyS n ts i (.slice A ts.length c) W hv D K;have Y:=fun W h hv=>fqX u vars i (.slice B u.length d) W h hv (by omega) am C;have Z:=fun W hv=>fzL u vars i (.slice B u.length d) W hv (by omega) am C;have ad:=fzE n ts i;obtain⟨⟨L,cL⟩,hF⟩:∃F,lB n ts i=F:=⟨_,rfl⟩;rw[hF] at f1 r1 ad;dsimp only at f1 r1 ad;obtain⟨⟨⟨x0,s⟩,c0⟩,m⟩:∃r,mT u vars i=r:=⟨_,rfl⟩;have au:s.length<=1073741824∧∀t∈s,t.2.length<=1073741824:=by
    rcases fxF u vars i with ⟨c, -,h⟩|⟨V,I, -, -, -,N,ao, -,h⟩
    ·rw[m] at h;simp only[Prod.mk.injEq] at h;rw[h.1.2];exact⟨by decide,fun t R=>by cases R⟩
    ·rw[m] at h;simp only[Prod.mk.injEq] at h;rw[h.1.2];exact fzF (by rw[VS];exact ao) N
   rw[m] at Y Z;unfold fx4 at Y Z;dsimp only at Y Z;have E:=aB (And.intro m (And.intro au (And.intro C (aH ad (show 25<=1099511627776 by decide)))));have a5:u.length<=1099511627776:=by omega
   clear m au C ad hF D M h2 Q U K lu su am HS;go_wp2_with fail;refine(f1 _ (z.be a) (o.be a)).mono ?_;rintro e4 w4 ⟨v4,rfl,j,ar⟩;replace X:=X.be ar;replace a:=aC a ar;replace g:=X.k2;go_wp2_with fail;refine(r1 _ (o.be a)).mono ?_;rintro e5 w5 ⟨v5,rfl,k,al⟩;replace X:=X.be al;replace j:=j.be al;replace a:=aC a al;replace g:=X.k2;clear f1 r1;go_wp2_with fail;refine(Y _ (z.be a) (T.be a)).mono ?_;rintro e6 w6 ⟨v6,rfl,b,ac⟩;obtain⟨A6,c6,rfl, -⟩:=b.form;replace X:=X.be ac;replace j:=j.be ac;replace k:=k.be ac;replace a:=aC a ac;obtain⟨w7,e7,O,P⟩:=bI w6 [.int .i64 x0,.slice A6 s.length c6] 24;replace X:=X.be O;replace j:=j.be O;replace k:=k.be O;replace b:=b.be O;replace a:=aC a O;replace g:=X.k2;go_wp2_with fail;(try rw[e7]);clear e7;refine(Z _ (T.be a)).mono ?_;rintro e8 w8 ⟨v8,rfl,y,J⟩;obtain⟨A8,c8,rfl, -⟩:=y.form;replace X:=X.be J;replace j:=j.be J;replace k:=k.be J;replace b:=b.be J;replace P:=P.be J;replace a:=aC a J;obtain⟨w9,G,f,P2⟩:=bI w8 [.int .i64 x0,.slice A8 s.length c8] 24;replace X:=X.be f;replace j:=j.be f;replace k:=k.be f;replace b:=b.be f;replace P:=P.be f;replace y:=y.be f;replace a:=aC a f;replace g:=X.k2;clear Y Z;go_wp2_with fail;(try rw[G]);clear G;refine(dxK L _ _ _ j k E.out.2.2.2).mono ?_;rintro a6 bc ⟨rfl,H⟩;replace X:=X.be H;replace b:=b.be H;replace P:=P.be H;replace y:=y.be H;replace P2:=P2.be H;replace a:=aC a H;clear g j k;have g:=aa X.k2 (aa P.k2 P2.k2);go_wp2_with fail;refine(gyO x0 s _ _ _ b y E.out.2.1.1 E.out.2.1.2).mono ?_;rintro a7 bf ⟨rfl,ab⟩;replace X:=X.be ab;replace b:=b.be ab;replace P:=P.be ab;replace a:=aC a ab;clear g y P2;have g:=P.k2;obtain⟨m, -,C, -⟩:=E.out;rcases fxF u vars i with ⟨c',av,h⟩|⟨V,I,rfl,rfl,hI,N,ao,a2,h⟩
   ·obtain⟨⟨rfl,rfl⟩,rfl⟩:(x0=0∧s=[])∧c0=c':=by
     have:=m.symm.trans h;simpa using this
    have z1:(c0 != 0)=true:=bne_iff_ne.2 av;clear m h av E;go_wp2_with fail;refine(eqJ _ (z.be a)).mono ?_;rintro G w9 ⟨rfl,f⟩;go_wp2;go_ret;exact⟨rfl,aC a f⟩
   ·obtain⟨⟨rfl,rfl⟩,rfl⟩:(x0=(V:Int)∧s=kW V I (aU u))∧c0=0:=by
     have:=m.symm.trans h;simpa using this
    obtain⟨-,ap,az⟩:=pJ a2;have a4:=VS u;have D:=gyI (p:=aU u) N hI (by omega) C;have f3:=fun W h hv=>fyS V (kW V I (aU u)) I (.slice A6 (kW V I (aU u)).length c6) W h hv D ⟨by omega,by omega⟩;rw[gyH hI N (by omega) az,gyL ap] at f3;have a1:=fun W hv=>gyT V (kW V I (aU u)) (.slice A6 (kW V I (aU u)).length c6) W hv D;rw[ezJ.2 (fxY N hI (by omega))] at a1;generalize kW V I (aU u)=s at *;clear m h E ap az a4 D C a2;go_wp2_with fail;refine(f3 _ (z.be a) b).mono ?_;rintro a8 bg ⟨bb,rfl,a3,ai⟩;replace b:=b.be ai;replace P:=P.be ai;replace a:=aC a ai;replace g:=P.k2;go_wp2_with fail;refine(dxK u _ _ _ a3 (T.be a) a5).mono ?_;rintro a9 bh ⟨rfl,aj⟩;replace b:=b.be aj;replace P:=P.be aj;replace a:=aC a aj;replace g:=P.k2;clear f3;go_wp2_with fail;refine(a1 _ b).mono ?_;rintro ba bi ⟨rfl,aq⟩;replace P:=P.be aq;replace a:=aC a aq;go_wp2_with fail;refine(eqJ _ (z.be a)).mono ?_;rintro G w9 ⟨rfl,f⟩;go_wp2;go_ret;exact⟨rfl,aC a f⟩
end Go.Proofs.YtmiaanioldpfgaaGreatDoor
namespace Go.Proofs.YtmiaanioldpfgaaGreatDoor
open Go.ChangeShapes Go.WideShapes Go.ChangeAt Go.WideMaps Go.WideElems Go.RowKit Go.Proofs.Tryz
variable{W e:World}
def own:ownKnob Tryz.prog.godebug=none:=by kernel_rfl
def LZ:laidOutB prog=true:=by kernel_rfl
def ayO:Tryz.prog.cellsOf 9=1:=by kernel_rfl
def ayP:Tryz.prog.globalNamed "math/bits.deBruijn64tab" =some 1:=by kernel_rfl
def ayQ:Tryz.prog.globalNamed "internal/strconv.uint64pow10" =some 0:=by kernel_rfl
def ayR:(Tryz.prog.globals[1]?).map (·.type)=some 252:=by kernel_rfl
def ayS:(Tryz.prog.globals[0]?).map (·.type)=some 244:=by kernel_rfl
def ayT:Tryz.prog.cellsOf 252=64:=by kernel_rfl
def ayU:Tryz.prog.cellsOf 244=20:=by kernel_rfl
def ayV:Tryz.prog.cellsOf 5=1:=by kernel_rfl
def ayW:Tryz.prog.cellsOf 143=1:=by kernel_rfl
def uX:List (String×DataW Unit):=[("math/bits.deBruijn32tab",Rows.laid_math_bits_deBruijn32tab),("math/bits.deBruijn64tab",Rows.laid_math_bits_deBruijn64tab),("internal/strconv.uint64pow10",Rows.laid_internal_strconv_uint64pow10)]
def ayX(os:Os)(args:Array Value):laidMetH prog uX ((World.doorLaid prog 400 os).forCall (fun _ _=>0) ⟨#[],args,[]⟩).memory:=
 laidMetH_of_parts3 (fuel:=8) (laidMet_of_run' 8 (by kernel_rfl) (by kernel_rfl)) (by kernel_rfl) (by kernel_rfl)
def ayY:(Rows.laid_math_bits_deBruijn64tab:DataW Unit)=Lib.tabData .u8 (Lib.deBruijn64tab.map (fun z:Nat=>(z:Int))):=by rfl
def ayZ:(Rows.laid_internal_strconv_uint64pow10:DataW Unit)=Lib.tabData .u64 Lib.pow10Tab:=by rfl
def az0(h:laidMetH prog uX W):Glob W:=by
 rw[MakeChecks.laidMetH_plain _ _ _ (by kernel_rfl)] at h;obtain⟨D,⟨t,H,n,q,A,E,x,y,z,w,⟨u,I,o,r,B,F,c,i,l,a,⟨v,J,p,s,C,G,f,k,m,b,_,_⟩,_⟩,_⟩,_,_⟩:=h;obtain rfl:=Option.some.inj (ayP.symm.trans c);obtain rfl:=Option.some.inj (ayQ.symm.trans f);obtain rfl:=Option.some.inj (ayR.symm.trans i);obtain rfl:=Option.some.inj (ayS.symm.trans k);rw[ayY] at a;rw[ayZ] at b;have d:=Lib.cells_of_tab underlying252 underlying5 ayV ayT a;have e:=Lib.cells_of_tab underlying244 underlying143 ayW ayU b;refine⟨fun j g=> ?_,?_⟩
 ·have:=World.var?_cell c l j;rw[this,<-Array.getElem?_toList,d];simp[List.getElem?_map,List.getElem?_eq_getElem g]
 ·unfold Lib.TabIs;rw[m,<-e]
def az1{H:Type}{enc:TypeId×Value->H}{o:Option Addr}{c cap fuel:Nat}{x:DataW H×List MemPlace}
  (v:DataW.trod enc prog W 0 (fun _=>true) true fuel 25 [.slice o c cap]=some x):
  ∃r:List (List UInt8),StrsAt W (.slice o c cap) r∧∀l∈r,l.length<=9223372036854775807:=by
 rcases open_strings underlying25 underlying9 ayO v with ⟨d,B⟩|⟨a,F,D,n,d,_,w,E,C,B,k,A⟩
 ·simp at d;obtain⟨rfl,rfl,rfl⟩:=d;exact⟨[],StrsAt.nil _ _ _,fun l h=>by cases h⟩
 ·simp at d;obtain⟨rfl,rfl,rfl⟩:=d;simp only[if_true] at C;obtain⟨b,f,t⟩:=a;have m:((n.take c).map (·.data.toList)).length=c:=by simp;omega
  refine⟨(n.take c).map (·.data.toList),⟨some ⟨b,f,t⟩,cap,by rw[m],by rw[m];exact w,?_⟩,fun l h=> ?_⟩
  ·rcases Nat.eq_zero_or_pos c with p|p
   ·left;rw[p];rfl
   ·right;have z:t=none:=by simpa [Addr.add] using World.cell?_spot (k 0 (by omega))
    subst z;refine⟨b,f,rfl,?_,fun i l j=> ?_⟩
    ·have g:=k 0 (by omega);exact block_lt_of_cell (a:=⟨b,f,none⟩) (by simpa [Addr.add] using g)
    ·have q:=(List.getElem?_eq_some_iff.1 j).1;rw[m] at q;have g:=k i (by omega);have u:(⟨b,f,none⟩:Addr).add i=⟨b,f+i,none⟩:=by unfold Addr.add;split<;>simp_all
     rw[u] at g;rw[g];rw[List.getElem?_map,List.getElem?_take_of_lt q,List.getElem?_eq_getElem (by omega)] at j;simp only[Option.map_some,Option.some.injEq] at j;subst j;simp[List.getD,List.getElem?_eq_getElem (show i<n.length by omega)]
  ·obtain⟨s,y,rfl⟩:=List.mem_map.1 h;have:=A s (List.mem_of_mem_take y);unfold maxLen at this;have e:s.data.toList.length=s.size:=Array.length_toList;rw[e];exact this
def az2{H:Type}{enc:TypeId×Value->H}{P:Program}{f:Func}{s:ChangeSpec}{args:Array Value}{y:TypeId}{d:List (DataW H)}{a:List MemPlace}
  (g:DataW.Whole enc P f.params.toList s.vars false W args.toList d [] a)(hv:s.vars=[])(q:f.resultTypes= #[y])(v:P.underlying y=some .bool)
  (i:s.fn H d={ results:=[.lit (.bool true)],args:=d })
  (A:∀sp:Nat->Bool,(∀p∈a,sp p.block=true)->DataW.TrodAll enc P e 0 sp true f.params.toList args.toList d a)(l:Below W.1.size W e):
  s.post enc P f false true false false W args (.bool true) e:=by
 have o:∀p∈a,p.block<W.1.size:=fun p c=>g.lt p c;have C:∀p∈a,(fun b=>decide (b<W.1.size)) p.block=true:=fun p c=>by simpa using o p c
 have u:∀(b:Nat) (sp:Nat->Bool) (m:Bool),DataW.TrodAll enc P e b sp m f.resultTypes.toList ((Value.bool true).resultList f.resultTypes.size) (s.fn H (d++[])).results []:=fun b sp m=>by
  rw[List.append_nil,i,q];exact trodAll_mk1 (shut_bool v _)
 have k:∀sp:Nat->Bool,(∀p∈a,sp p.block=true)->DataW.TrodAll enc P e 0 sp true f.params.toList args.toList (s.fn H (d++[])).args a:=fun sp h=>by
  rw[List.append_nil,i];exact A sp h
 have w:∀sp:Nat->Bool,DataW.TrodVars enc P e sp s.vars (s.fn H (d++[])).vars []:=fun sp=>by
  rw[List.append_nil,i,hv];exact rfl
 refine⟨d,[],a,[],a,[],g,u _ _ _,k _ C,w _,World.keptBut_mono (fun p c=>⟨c,.inr (.inl c)⟩) (l.frame (·∈a)),fun _=> ?_⟩;obtain⟨_,_,_,_,_,E,hn⟩:=g;refine⟨fun j t r B D=> ?_,_,_,([]++a)++[],⟨[]++a,[],trodAll_append (k _ (fun _ _=>rfl)) (u _ _ _),w _,rfl,fun b x c=> ?_,fun z=>by cases z⟩,fun p c _=>by simpa using c⟩
 ·exact ok_one (by rw[q]) rfl (okWide_bool_mk v true) j t r B D
 ·have n:MemPlace.cell b x∈a:=by simpa using c
  rw[l.frozen (o _ n)];exact E b x n
end Go.Proofs.YtmiaanioldpfgaaGreatDoor
namespace Go.Proofs.YtmiaanioldpfgaaGreatDoor
open Go.ChangeShapes Go.WideShapes Go.ChangeAt Go.WideMaps Go.WideElems Go.RowKit Go.Deep Go.Proofs.Tryz
variable{W:World}{v:Value}{fuel:Nat}
def gq3:Tryz.prog.cellsOf 40=2:=by kernel_rfl
def gq4:Tryz.prog.cellsOf 38=1:=by kernel_rfl
def gq5:Tryz.prog.cellsOf 3=1:=by kernel_rfl
def gq6{H:Type}{enc:TypeId×Value->H}{x:DataW H×List MemPlace}
  (q:DataW.trod enc prog W 0 (fun _=>true) true fuel 38 [v]=some x):∃e:List Int,IntsAt W v e∧e.length<=9223372036854775807∧∀x∈e,i64 x:=by
 rcases open_ints underlying38 underlying3 gq5 q with ⟨d,w⟩|⟨a,g,o,n,d,_,r,s,y,w,k,u⟩
 ·simp at d;subst d;exact⟨[],⟨none,0,rfl,Nat.le_refl _,.inl rfl⟩,by decide,fun x h=>by cases h⟩
 ·simp at d;subst d;simp only[if_true] at y;obtain⟨b,j,z⟩:=a;have f:(n.take g).length=g:=by rw[List.length_take];omega
  refine⟨n.take g,⟨_,o,by rw[f],by rw[f];exact r,?_⟩,by rw[f];unfold maxLen at s;omega,fun x h=> ?_⟩
  ·rcases Nat.eq_zero_or_pos g with l|l
   ·exact .inl (by rw[l];rfl)
   ·have t:z=none:=by simpa [Addr.add] using World.cell?_spot (k 0 (by omega))
    subst t;refine .inr ⟨b,j,rfl,?_,fun i m=> ?_⟩
    ·have c:=k 0 (by omega);exact block_lt_of_cell (a:=⟨b,j,none⟩) (by simpa [Addr.add] using c)
    ·rw[f] at m;have c:=k i (by omega);have p:(⟨b,j,none⟩:Addr).add i=⟨b,j+i,none⟩:=by unfold Addr.add;split<;>simp_all
     rw[p] at c;rw[c,List.getD_eq_getElem?_getD,List.getD_eq_getElem?_getD,List.getElem?_take_of_lt m]
  ·have c:=u x (List.mem_of_mem_take h);simp only[Lit.wf,Bool.and_eq_true,decide_eq_true_eq] at c;exact⟨c.1,c.2⟩
def gq7{H:Type}{enc:TypeId×Value->H}{x:DataW H×List MemPlace}
  (M:DataW.trod enc prog W 0 (fun _=>true) true fuel 22 [v]=some x):
  ∃ts:List Te,TesAt W v ts∧ts.length<=9223372036854775807∧(∀t∈ts,t.1.length<=9223372036854775807∧t.2.length<=9223372036854775807)∧∀t∈ts,∀x∈t.2,i64 x:=by
 rcases open_slice_pairs underlying22 underlying40 gq3 rfl rfl ayO gq4 M with ⟨l,Q⟩|⟨a,f,D,m,n,Z,V1,U,V,X,Y,l,_,N,O,R,Q,I⟩
 ·simp at l;subst l;exact⟨[],⟨none,0,rfl,Nat.le_refl _,.inl rfl⟩,by decide,(fun t h=>by cases h),fun t h=>by cases h⟩
 ·simp at l;subst l;simp only[if_true] at R;obtain⟨b,j,w⟩:=a;have E:∀i,i<f->∃t:Te,W.cell? ((⟨b,j,w⟩:Addr).add (i*2))=some (.string ⟨t.1.toArray⟩)∧(∃u,W.cell? ((⟨b,j,w⟩:Addr).add (i*2+1))=some u∧IntsAt W u t.2)∧(t.1.length<=9223372036854775807∧t.2.length<=9223372036854775807)∧∀x∈t.2,i64 x:=fun i d=>by
   obtain⟨g,o,S,T⟩:=I i (by omega);obtain⟨s,y, -,C⟩:=DataW.trod_string underlying9 S;obtain⟨e,J,K,L⟩:=gq6 T;simp at y;rw[y] at g;refine⟨(s.data.toList,e),?_,⟨_,o,J⟩,⟨?_,K⟩,L⟩
   ·rw[g]
   ·unfold maxLen at C;simpa using C
  obtain⟨q,r⟩:=choose_lt E;have p:((List.range f).map q).length=f:=by rw[List.length_map,List.length_range]
  have B:∀t∈(List.range f).map q,∃i,i<f∧t=q i:=fun t c=>by
   obtain⟨i,d,rfl⟩:=List.mem_map.1 c;exact⟨i,List.mem_range.1 d,rfl⟩
  refine⟨(List.range f).map q,⟨_,D,by rw[p],by rw[p];exact N,?_⟩,by rw[p];unfold maxLen at O;omega,fun t c=> ?_,fun t c=> ?_⟩
  ·rcases Nat.eq_zero_or_pos f with g|g
   ·exact .inl (by rw[g];rfl)
   ·have o:=(r 0 g).1;have P:w=none:=by simpa [Addr.add] using World.cell?_spot o
    subst P;have G:∀k,(⟨b,j,none⟩:Addr).add k=⟨b,j+k,none⟩:=fun k=>by unfold Addr.add;split<;>simp_all
    refine .inr ⟨b,j,rfl,block_lt_of_cell (a:=⟨b,j,none⟩) (by simpa [Addr.add] using o),fun i t c=> ?_⟩;have d:i<f:=by have:=(List.getElem?_eq_some_iff.1 c).1;rwa [p] at this
    rw[List.getElem?_map,List.getElem?_range d] at c;injection c with c;subst c;obtain⟨z,⟨u,A,F⟩, -, -⟩:=r i d;rw[G] at z A;exact⟨u,z,A,F⟩
  ·obtain⟨i,d,rfl⟩:=B t c;exact(r i d).2.2.1
  ·obtain⟨i,d,rfl⟩:=B t c;exact(r i d).2.2.2
