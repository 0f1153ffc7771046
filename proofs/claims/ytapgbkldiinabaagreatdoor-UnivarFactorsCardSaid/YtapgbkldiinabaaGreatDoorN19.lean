/- Laws. -/
import Derived.Test.YtapgbkldiinabaaGreatDoorN17
import Derived.Test.YtapgbkldiinabaaGreatDoorN18
set_option linter.all false
set_option maxHeartbeats 8000000
set_option maxRecDepth 99999
namespace Go.Proofs.YtapgbkldiinabaaGreatDoor
open Go.RowKit Sos Tryz
structure QuoOf(x c Q:List Int):Prop where
 trim:aN Q
 ne:c≠[]
 tc:aN c
 id_:∀i,cf x i=conv (cf Q) (cf c) i
inductive Sqf(B:Nat):List Int->List Int->List (List Int)->Prop
 |done {p r:List Int} (h:p.length<=1):Sqf B p r []
 |step {p r c Qp Qr:List Int} {l:List (List Int)} (h:1<p.length) (hg:pO B p r c) (hp:QuoOf p c Qp) (hr:QuoOf r c Qr) (t:Sqf B c Qr l):Sqf B p r (Qp :: l)
structure GcdFit(K B:Nat)(xs ys:List Int):Prop where
 tx:aN xs
 ty:aN ys
 kx:∀n∈xs,nl n.natAbs<=K
 ky:∀n∈ys,nl n.natAbs<=K
 b1:xs.length<ys.length->(K+1)*(ys.length-xs.length+2)*3^xs.length<=B
 b2:¬xs.length<ys.length->(K+1)*(xs.length-ys.length+2)*3^ys.length<=B
 lx:xs.length<=1073741824
 ly:ys.length<=1073741824
structure SqfInv(K B:Nat)(Inv:Nat->List Int->List Int->Prop):Prop where
 fit:∀n p r,Inv n p r->GcdFit K B p r
 go:∀n p r c,Inv n p r->1<p.length->pO B p r c->∃Qp Qr n',n'<n∧QuoOf p c Qp∧QuoOf r c Qr∧(∀x∈c,nl x.natAbs<=K)∧(∀x∈Qp,nl x.natAbs<=K)∧(∀x∈Qr,nl x.natAbs<=K)∧c.length<=1073741824∧Inv n' c Qr
def azO{K B:Nat}{xs ys:List Int}(h:GcdFit K B xs ys)(a b:Value)(w:World)(f:Glob w)(j:WholeAt w a xs)(k:WholeAt w b ys)(i:1<=K)(d:5*B+8<=aJ):
  Calls prog 37 #[a,b] w fun e w'=>∃c g,e= .returned c∧WholeAt w' c g∧pO B xs ys g∧Below w.heap.size w w':=
 XV xs ys a b w f j k h.tx h.ty K B h.kx h.ky i h.b1 h.b2 d h.lx h.ly
def azP(w:World)(B:Nat)(a:List Int)(e:Ending)(w':World):Prop:=
 ∃v g Q l,e= .returned v∧WsAt w' w.heap.size 41 v l∧pO B (aS a) (bB (aS a)) g∧QuoOf (aS a) g Q∧Sqf B Q g l∧Below w.heap.size w w'
def bzM(e:List Int)(v:Value)(w:World)(hG:Glob w)(hv:WholeAt w v e)(ht:aN e)(K B:Nat)(hK:∀n∈e,nl n.natAbs<=K)(ag:1<=K)(P:7*K+8<=aJ)(af:5*B+8<=aJ)(hl:e.length<=1073741824)
  (ac:Nat->List Int->List Int->Prop)(hI:SqfInv K B ac)(al:GcdFit K B (aS e) (bB (aS e)))
  (av:∀g,pO B (aS e) (bB (aS e)) g->∃Q n,QuoOf (aS e) g Q∧(∀x∈g,nl x.natAbs<=K)∧(∀x∈Q,nl x.natAbs<=K)∧g.length<=1073741824∧n<=1073741824∧ac n Q g):
  Calls prog 30 #[v] w (azP w B e):=by
 obtain⟨A,c,rfl,hc⟩:=hv.form;have aq:=qQ e _ w hG hv ht K hK (by omega) (by omega);have a3:=dF e;have a2:=gU hK;have a5:=gV ht;unfold azP;generalize aS e=p at *;have U:p.length<=1073741824:=by omega
 have ak:=fun W v h=>JN p v W h K a2 (by unfold aJ at P⊢;omega) U;clear a3;generalize bB p=d at *;go_enter func30,ntmps30;go_wp2_with fail;refine aq.mono ?_;rintro e1 w1 ⟨v1,rfl,b,a⟩;obtain⟨A1,c1,rfl,ba⟩:=b.form;clear aq;go_wp2_with fail;refine(ak _ _ b).mono ?_;rintro e2 w2 ⟨v2,rfl,i,ah⟩;obtain⟨A2,c2,rfl,bb⟩:=i.form;replace b:=b.be ah;replace a:=aC a ah;clear ak;go_wp2_with fail;refine(azO al _ _ _ (hG.be a) b i ag af).mono ?_;rintro e3 w3 ⟨v3,g,rfl,u,s,ai⟩;obtain⟨A3,c3,rfl,bc⟩:=u.form;replace b:=b.be ai;replace a:=aC a ai;obtain⟨Q,n,z,kg,kQ,lg,ln,L⟩:=av g s;have ax:=aB s;have HQ:=aB z;have au:=fun W b i=>YI Q p g (.slice A1 p.length c1) (.slice A3 g.length c3) W b i z.ne z.trim a5 z.tc z.id_ K kQ kg P U lg;clear s z av al i;go_wp2_with fail;refine(au _ b u).mono ?_;rintro e4 w4 ⟨v4,rfl,h4,aj⟩;obtain⟨A4,c4,rfl,bf⟩:=h4.form;replace u:=u.be aj;replace a:=aC a aj;clear au b;go_wp2_with fail;go_loopg [4,5,6] n (fun k vr vp vf wr=>∃r p N O G H m,vr= .slice N r.length O∧vp= .slice G p.length H∧WholeAt wr (.slice N r.length O) r∧WholeAt wr (.slice G p.length H) p∧WsAt wr w.heap.size 41 vf m∧ac k p r∧k<=1073741824∧m.length+k<=n∧Hid (∀l,Sqf B p r l->Sqf B Q g (m++l))∧Below w.heap.size w wr)
 case atStart=>exact⟨g,Q,A3,c3,A4,c4,[],rfl,rfl,u,h4,RowsAt.nil _ _ _ _,L,ln,by simp,fun l h=>h,a⟩
 case round=>
  clear u h4 a L;obtain⟨r,p,N,O,G,H,m,rfl,rfl,j,V,f,L,hk,bm,HS,a⟩:=hrel;generalize wr=wy at *;have hF:=hI.fit _ _ _ L;have U:=hF.lx;obtain⟨Af,a9,rfl,bk⟩:=f.form;have a0:=fun W=>JO p.length H G W (by omega);go_wp2_with fail;refine(a0 _).mono ?_;rintro e5 w5 ⟨rfl,rfl⟩;by_cases b:p.length<=1
  ·have q1:¬(0:Int)<(p.length:Int)-1:=by omega
   have y:=HS.out [] (Sqf.done b);rw[fH] at y;have HE:=aB y;clear y b;go_wp2;go_ret;exact⟨_,g,Q,m,rfl,f,ax.out,HQ.out,HE.out,a⟩
  ·have q1:(0:Int)<(p.length:Int)-1:=by omega
   have ao:1<p.length:=by omega
   clear b;go_wp2_with fail;refine(azO hF _ _ _ (hG.be a) V j ag af).mono ?_;rintro e6 w6 ⟨v6,c,rfl,o,s,R⟩;obtain⟨A6,c6,rfl,bg⟩:=o.form;obtain⟨q,Qr,n',bn,C,D,kc,a6,a7,lc,a1⟩:=hI.go _ _ _ c L ao s;have y:∀l,Sqf B c Qr l->Sqf B Q g (m++(q :: l)):=fun l t=>HS.out _ (Sqf.step ao s C D t);have HE:=aB y;have ar:=fun W b i=>YI q p c (.slice G p.length H) (.slice A6 c.length c6) W b i C.ne C.trim hF.tx C.tc C.id_ K a6 kc P U lc;have a4:=fun W b i=>YI Qr r c (.slice N r.length O) (.slice A6 c.length c6) W b i D.ne D.trim hF.ty D.tc D.id_ K a7 kc P hF.ly lc;replace j:=j.be R;replace V:=V.be R;replace f:=f.be R;replace a:=aC a R;clear y C D s HS;go_wp2_with fail;refine(ar _ V o).mono ?_;rintro e7 M ⟨v7,rfl,I,S⟩;obtain⟨A7,c7,rfl,bh⟩:=I.form;replace j:=j.be S;replace o:=o.be S;replace f:=f.be S;replace a:=aC a S;clear ar;have E:Below M.heap.size M (M.alloc (.cells #[.slice A7 q.length c7] 41)):=(aG _ _).alloc aE _;replace j:=j.be E;replace o:=o.be E;replace I:=I.be E;replace f:=f.be E;replace a:=aC a E;have X:=Bx.new M [.slice A7 q.length c7] 41;have ae:=X.cell 0 rfl;obtain⟨a8,F,Y,aw⟩:=id f;go_wp2_with (at_builtin;refine K4 rfl rfl 41 24 underlying59 Y3 w.heap.size _ a8 rfl F M.heap.size (.slice A7 q.length c7) rfl ae ⟨_,_,_,rfl⟩ (by rw[Y];omega) (by rw[Y];unfold maxLen;omega) a.size ?_;intro v8 w8 ap T J);have zf:=WsAt.push F Y aw I ap T J;have zr:=j.grown F T J;have Z:=o.grown F T J;have zb:=K5 a J F aE;obtain⟨A8,c8,rfl,bi⟩:=zf.form;have am:(m++[q]).length=m.length+1:=by rw[cY];rfl
   clear ap T J F Y aw f I j o a X ae E;generalize an:m++[q]=LS at *;have az:=aB an;have ay:=aB am;clear an am;go_wp2_with fail;refine(a4 _ zr Z).mono ?_;rintro e9 w9 ⟨v9,rfl,h9,ad⟩;obtain⟨A9,c9,rfl,bj⟩:=h9.form;replace Z:=Z.be ad;replace zf:=zf.be ad;replace zb:=aC zb ad;go_wp2;go_roundg n'
   case rel=>exact⟨Qr,c,A9,c9,A6,c6,LS,rfl,rfl,h9,Z,zf,a1,by omega,by have:=ay.out;omega,fun l t=>by have:=HE.out l t;rw[<-az.out,eK];exact this,zb⟩
   case measure=>omega
def tH(a:List Int):List (List UInt8):=(eQ a (cf a (a.length-1))).map cW
def bzN(w:World)(B:Nat)(a:List Int)(e:Ending)(w':World):Prop:=
 ∃v g Q l,e= .returned (.tuple #[v,.int .i64 0])∧TsAt w' w.heap.size 22 v (l.map tH)∧pO B (aS a) (bB (aS a)) g∧QuoOf (aS a) g Q∧Sqf B Q g l∧Below w.heap.size w w'
def WsAt.mono{w:World}{B a:Nat}{v:Value}{b:List (List Int)}(h:WsAt w B 41 v b)(j:a<=B):WsAt w a 41 v b:=by
 obtain⟨l,e,f,i⟩:=h;refine⟨l,?_,f,i⟩;rcases e with h|⟨g,c,d,hv,k,h⟩
 ·exact .inl h
 ·exact .inr ⟨g,c,d,hv,aH j k,h⟩
def WsAt.grown{w w':World}{B k:Nat}{v u:Value}{K:List Value}{p:List (List Int)}(h:WsAt w k 41 u p)(G:PRow w B 22 v K)(E:Keep w w')(C:w.grownBy w' v.ownBlock):WsAt w' k 41 u p:=by
 have o:∀(b:Nat) (n:Array Value) (t:TypeId),w.heap[b]? =some (Obj.cells n t (0,0))->t≠22->w'.heap[b]? =w.heap[b]? :=fun b n t a H=>by
  refine C.block b (Array.getElem?_eq_some_iff.1 a).1 (fun e=> ?_);rcases G with ⟨rfl,_⟩|⟨g,m,f,rfl,_,d,_⟩
  ·simp[Value.ownBlock] at e
  ·simp[Value.ownBlock] at e;subst e;rw[d] at a;injection a with a;injection a with _ a;exact H a.symm
 obtain⟨us,r,s,y⟩:=h;refine⟨us,?_,s,fun i x l I F=> ?_⟩
 ·rcases r with h|⟨g,m,f,hv,a,d,h⟩
  ·exact .inl h
  ·exact .inr ⟨g,m,f,hv,a,(o g f 41 d (by decide)).trans d,h⟩
 ·obtain⟨A,c,e,z,h⟩:=y i x l I F;refine⟨A,c,e,z,?_⟩;rcases h with h|⟨b,J,q,j,D⟩
  ·exact .inl h
  ·exact .inr ⟨b,J,q,⟨(o b _ 44 j.1 (by decide)).trans j.1,j.2⟩,D.ke E⟩
def aqT(a:List (List UInt8))(va:Value)(w:World)(N:Glob w)(R:StrsAt w va a)(az:a.length<=1073741824)(p:Nat)(ag:a.length<=65->∀l∈a,l.length<=1073741824)(af:a.length<=65->∀q∈aU a,RL p q)(a5:p<=1024)
  (hv:vl a=true)(h0:a≠[])(K B:Nat)(ae:1<=K)(av:K<=1073741824)(au:5*B+8<=aJ)(L:Nat->List Int->List Int->Prop)(hI:SqfInv K B L)
  (am:∀D,ComDen (aU a) D (1+65*p)->(∀n∈cC (aU a) D,nl n.natAbs<=K)∧GcdFit K B (aS (cC (aU a) D)) (bB (aS (cC (aU a) D)))∧
   ∀g,pO B (aS (cC (aU a) D)) (bB (aS (cC (aU a) D))) g->∃Q n,QuoOf (aS (cC (aU a) D)) g Q∧(∀x∈g,nl x.natAbs<=K)∧(∀x∈Q,nl x.natAbs<=K)∧g.length<=1073741824∧n<=1073741824∧L n Q g)
  (ah:∀D Q g l,ComDen (aU a) D (1+65*p)->pO B (aS (cC (aU a) D)) (bB (aS (cC (aU a) D))) g->QuoOf (aS (cC (aU a) D)) g Q->Sqf B Q g l->l.length<=1073741824∧∀f∈l,f≠[]∧f.length<=1073741824∧∀n∈f,nl n.natAbs<=K):
  Calls prog 9 #[va] w fun e w'=>∃D,ComDen (aU a) D (1+65*p)∧bzN w B (cC (aU a) D) e w':=by
 obtain⟨A,c,rfl,hc⟩:=R.form;go_enter func9,ntmps9;go_wp2_with fail;refine(I8 a _ _ N R az ag p (1+65*p) af aE (by unfold aJ;omega)).mono ?_;rintro e1 G ⟨v1,bh,xs,D,rfl,F,hD,ao,d⟩;obtain⟨A1,c1,rfl,a7⟩:=F.form;obtain⟨s1,B1,k1,d1,rfl⟩:=hD.form;obtain⟨rfl,s⟩:=ao hv;obtain⟨p1, -,t1⟩:=pJ hv;obtain⟨kn,aj,al⟩:=am D s;have ai:=fun Q g l=>ah D Q g l s;have a2:=oO s.pos s.dvd t1;have Z:(cC (aU a) D).length=a.length:=by rw[oN];unfold aU;rw[cH]
 have lx:(cC (aU a) D).length<=65:=by rw[Z];exact p1
 have ln:(cC (aU a) D).length≠0:=by rw[Z];exact fun e=>h0 (cG e)
 have q0:(((cC (aU a) D).length:Int)==0)=false:=by rw[beq_eq_false_iff_ne];omega
 rw[hv];have ap:=aB s;clear am ah ao s Z t1 p1 R af ag;have V:=fun W h=>fun d:Below w.heap.size w W=>bzM (cC (aU a) D) (.slice A1 (cC (aU a) D).length c1) W (N.be d) h a2 K B kn ae (by unfold aJ;omega) au (by omega) L hI aj al;unfold azP at V;go_wp2_with fail;have o:Below G.heap.size G (G.alloc (.cells #[.bool s1,.slice B1 k1 d1] 44)):=(aG _ _).alloc aE _;replace F:=F.be o;replace d:=aC d o;clear o;generalize G.alloc (.cells #[.bool s1,.slice B1 k1 d1] 44)=w2 at *;refine(V _ F d).mono ?_;rintro e3 w3 ⟨v3,g,Q,l,rfl,m,U,O,P,aw⟩;obtain⟨A3,c3,rfl,a8⟩:=m.form;obtain⟨ll,a0⟩:=ai Q g l U O P;have I:=aB (And.intro U (And.intro O P));replace d:=aC d aw;clear U O P ai V al aj;go_wp2_with fail;go_loopg [7,24] l.length (fun k vf i wr=>∃j,Hid (j+k=l.length)∧i= .int .i64 j∧WsAt wr w2.heap.size 41 (.slice A3 l.length c3) l∧TsAt wr w.heap.size 22 vf ((l.take j).map tH)∧Below w.heap.size w wr)
 case atStart=>exact⟨0,by unfold Hid;omega,rfl,m,RowsAt.nil _ _ _ _,d⟩
 case round=>
  clear m d;obtain⟨j,J,rfl,m,t,d⟩:=hrel;generalize wr=wy at *;have bc:(0:Int)<=(j:Int):=by omega
  obtain⟨Af,ar,rfl,ba⟩:=t.form;cases gk with
  |zero=>
   have hj:j=l.length:=J.out;subst hj;rw[List.take_length] at t;go_wp2_with fail;refine aM (v:= .tuple #[.slice Af (l.map tH).length ar,.int .i64 0]) (by simp[results,results9,go_sem]) rfl ⟨D,ap.out,_,g,Q,l,rfl,t,I.out.1,I.out.2.1,I.out.2.2,d⟩
  |succ k=>
   have ax:j<l.length:=by have:=J.out;omega
   have bf:(j:Int)<(l.length:Int):=by omega
   obtain⟨f,C⟩:∃f,l[j]? =some f:=⟨_,aR ax⟩;obtain⟨b,u,rfl,a6,hu,ak⟩:=m.at_ C;obtain⟨Au,cu,rfl,bb⟩:=ak.form;obtain⟨f0,fl,fk⟩:=a0 f (dG C);have an:(l.take (j+1)).map tH=(l.take j).map tH++[tH f]:=by
    rw[BA,C,List.map_append];rfl
   have ad:=aB an;have bg:((l.take j).map tH).length<=1073741824:=by rw[cH,bK];omega
   clear an C;generalize (l.take j).map tH=TS at *;go_wp2_with fail;refine(byU f _ _ (N.be d) ak f0 K fk ae av fl).mono ?_;rintro e5 y ⟨v5,rfl,h5,S⟩;obtain⟨r,ac⟩:∃r,Hid (tH f=r):=⟨_,rfl⟩;have z:StrsAt y v5 r:=by rw[<-ac.out];exact h5
   clear h5;rw[ac.out] at ad;obtain⟨H,M,rfl,a9⟩:=z.form;have o:Below y.heap.size y (y.alloc (.cells #[.slice H r.length M] 22)):=(aG _ _).alloc aE _;replace m:=(m.be S).be o;replace t:=(t.be S).be o;replace z:=z.be o;replace d:=aC d S;replace d:=aC d o;have X:=Bx.new y [.slice H r.length M] 22;have aq:=X.cell 0 rfl;obtain⟨a4,E,Y,a3⟩:=id t;go_wp2_with (at_builtin;refine K4 rfl rfl 22 24 underlying28 aqU w.heap.size _ a4 rfl E y.heap.size (.slice H r.length M) rfl aq ⟨_,_,_,rfl⟩ (by rw[Y];omega) (by rw[Y];unfold maxLen;omega) d.size ?_;intro v8 w8 a1 ay T);have zf:=TsAt.push E Y a3 z a1 T;have z3:=WsAt.grown m E ay T;have zb:=K5 d T E aE;rw[<-ad.out] at zf;go_roundg k
   case rel=>exact⟨j+1,by have:=J.out;unfold Hid;omega,by go_num,z3,zf,zb⟩
   case measure=>omega
def aqL:eY [45,49]=some (-1):=by decide
def LY:eY [48]=some 0:=by decide
def ayM:eY [49]=some 1:=by decide
def cxU:eY [50]=some 2:=by decide
def ayN:eY [45,50]=some (-2):=by decide
def aqM:eY [45,51]=some (-3):=by decide
def bz1:eY [45,49,47,52]=some (mkRat (-1) 4):=by
 unfold eY;rw[show iA [45,49,47,52]=some (true,[49],[52]) by decide];simp only[];rw[if_neg (by decide),if_pos (by decide)];rfl
def bz2:eY [49,47,50]=some (mkRat 1 2):=by
 unfold eY;rw[show iA [49,47,50]=some (false,[49],[50]) by decide];simp only[];rw[if_neg (by decide),if_pos (by decide)];rfl
def bz3:eY [49,47,52]=some (mkRat 1 4):=by
 unfold eY;rw[show iA [49,47,52]=some (false,[49],[52]) by decide];simp only[];rw[if_neg (by decide),if_pos (by decide)];rfl
def bz4:mkRat (-1) 4= -1/4:=by rw[Rat.mkRat_eq_div];rfl
def bz5:mkRat 1 2=1/2:=by rw[Rat.mkRat_eq_div];rfl
def bz6:mkRat 1 4=1/4:=by rw[Rat.mkRat_eq_div];rfl
def azH:aU [[48],[48],[49]]=[0,0,1]:=by unfold aU;simp only[List.map,LY,ayM];rfl
def azI:aU [[49],[50]]=[1,2]:=by unfold aU;simp only[List.map,ayM,cxU];rfl
def azJ:aU [[45,49],[49]]=[-1,1]:=by unfold aU;simp only[List.map,aqL,ayM];rfl
def azK:aU [[45,51],[49]]=[-3,1]:=by unfold aU;simp only[List.map,aqM,ayM];rfl
def Y5:aU [[48],[48],[45,50],[50]]=[0,0, -2,2]:=by unfold aU;simp only[List.map,LY,ayN,cxU];rfl
def Y6{a:List (List UInt8)}{b:List Rat}(h:aU a=b)(c:a.length<=65)(d:a.all rd=true)(e:b.getLast?≠some 0):vl a=true:=by
 unfold vl;rw[iQ,h];exact⟨c,d,e⟩
def bz7:vl [[48],[48],[49]]=true:=Y6 azH (by decide) (by simp[rd,LY,ayM]) (by decide)
def bz8:vl [[49],[50]]=true:=Y6 azI (by decide) (by simp[rd,ayM,cxU]) (by decide)
def aqN:vl [[45,49],[49]]=true:=Y6 azJ (by decide) (by simp[rd,aqL,ayM]) (by decide)
def aqO:vl [[45,51],[49]]=true:=Y6 azK (by decide) (by simp[rd,aqM,ayM]) (by decide)
def bz9:vl [[48],[48],[45,50],[50]]=true:=Y6 Y5 (by decide) (by simp[rd,LY,ayN,cxU]) (by decide)
def aqP{n:Int}(h:n.natAbs<BN):RL 1 (n:Rat):=⟨cJ (by rw[Nat.pow_one];exact h),cJ (by rw[Nat.pow_one];show 1<BN;decide)⟩
def Y7{a:List Rat}(h:∀q∈a,∃n:Int,q=n∧n.natAbs<BN):∀q∈a,RL 1 q:=fun q b=>by
 obtain⟨n,rfl,hn⟩:=h q b;exact aqP hn
def bzA:∀q∈([0,0,1]:List Rat),RL 1 q:=Y7 (fun q a=>by
 simp at a;rcases a with rfl|rfl
 ·exact⟨0,rfl,by decide⟩
 ·exact⟨1,rfl,by decide⟩)
def bzB:∀q∈([1,2]:List Rat),RL 1 q:=Y7 (fun q a=>by
 simp at a;rcases a with rfl|rfl
 ·exact⟨1,rfl,by decide⟩
 ·exact⟨2,rfl,by decide⟩)
def bzC:∀q∈([-1,1]:List Rat),RL 1 q:=Y7 (fun q a=>by
 simp at a;rcases a with rfl|rfl
 ·exact⟨-1,rfl,by decide⟩
 ·exact⟨1,rfl,by decide⟩)
def bzD:∀q∈([-3,1]:List Rat),RL 1 q:=Y7 (fun q a=>by
 simp at a;rcases a with rfl|rfl
 ·exact⟨-3,rfl,by decide⟩
 ·exact⟨1,rfl,by decide⟩)
def bzE:∀q∈([0,0, -2,2]:List Rat),RL 1 q:=Y7 (fun q a=>by
 simp at a;rcases a with rfl|rfl|rfl
 ·exact⟨0,rfl,by decide⟩
 ·exact⟨-2,rfl,by decide⟩
 ·exact⟨2,rfl,by decide⟩)
def bzF{Q R:List Rat}{K:Nat}(h:DivRes [0,0,1] [1,2] Q R K):Q=[mkRat (-1) 4,mkRat 1 2]∧R=[mkRat 1 4]:=by
 have s:=h.q_len;have t:=h.r_lt;have z:∀i,3<=i->cf Q i=0:=fun i r=>bV (by simp at s;omega);have c:∀i,1<=i->cf R i=0:=fun i r=>bV (by simp at t;omega);have q:=h.id_ 3;have p:=h.id_ 2;have o:=h.id_ 1;have n:=h.id_ 0;have j:cf ([1,2]:List Rat) 0=1:=rfl;have k:cf ([1,2]:List Rat) 1=2:=rfl;have l:cf ([1,2]:List Rat) 2=0:=rfl;have m:cf ([1,2]:List Rat) 3=0:=rfl;have d:cf ([0,0,1]:List Rat) 0=0:=rfl;have e:cf ([0,0,1]:List Rat) 1=0:=rfl;have f:cf ([0,0,1]:List Rat) 2=1:=rfl;have g:cf ([0,0,1]:List Rat) 3=0:=rfl;simp only[conv,bW,Nat.sub_zero,Nat.sub_self,Nat.reduceSub,Nat.reduceAdd,j,k,l,m,d,e,f,g,z 3 (by omega),c 3 (by omega),c 2 (by omega),c 1 (by omega)] at q p o n;rw[bz4,bz5,bz6];have w:cf Q 2=0:=by grind
 have v:cf Q 1=1/2:=by grind
 have u:cf Q 0= -1/4:=by grind
 have x:cf R 0=1/4:=by grind
 refine⟨oZ h.q_trim (fun a b=> ?_) (fun i=> ?_),oZ h.r_trim (fun a b=> ?_) (fun i=> ?_)⟩
 ·simp at b;rw[<-b];grind
 ·match i with
  |0=>exact u
  |1=>exact v
  |2=>exact w
  |i+3=>rw[z (i+3) (by omega),bV (by simp)]
 ·simp at b;rw[<-b];grind
 ·match i with
  |0=>exact x
  |i+1=>rw[c (i+1) (by omega),bV (by simp)]
def aqQ(D:Int)(x:Int):cC [(x:Rat),1] D=[x*D,D]:=by
 unfold cC;show[x*D.tdiv (1:Int),1*D.tdiv (1:Int)]=_
 rw[Int.tdiv_one,Int.one_mul]
def azL(D:Int):cC [0,0, -2,2] D=[0,0, -2*D,2*D]:=by
 unfold cC;show[0*D.tdiv (1:Int),0*D.tdiv (1:Int), -2*D.tdiv (1:Int),2*D.tdiv (1:Int)]=_
 rw[Int.tdiv_one,Int.zero_mul]
def azM{D:Int}(b:0<D):aS [0,0, -2*D,2*D]=[0,0, -1,1]:=by
 have a:(bN [0,0, -2*D,2*D]:Int)=2*D:=by
  rw[I7,I7,I7,I7,JP,Nat.gcd_zero_left,fL,fL];show((Nat.gcd (Nat.gcd (Nat.gcd (2*D.natAbs) (2*D.natAbs)) 0) 0:Nat):Int)=_
  rw[Nat.gcd_self,Nat.gcd_zero_right,Nat.gcd_zero_right];omega
 unfold aS jX;rw[a];show[(0:Int).tdiv (2*D),(0:Int).tdiv (2*D),(-2*D).tdiv (2*D),(2*D).tdiv (2*D)]=_
 rw[Int.zero_tdiv,Int.tdiv_self (by omega),show -2*D= -(2*D) by omega,Int.neg_tdiv,Int.tdiv_self (by omega)]
def aqR(n:Nat)(p r:List Int):Prop:=(n=2∧p=[0,1, -1]∧r=[0, -1])∨(n=1∧p=[0, -1]∧r=[1])∨(n=0∧p=[1]∧r=[1])
def C6{l:List Int}{K:Nat}(a:1<=K)(h:l.all (fun n=>decide (n.natAbs<BN))=true):∀n∈l,nl n.natAbs<=K:=fun n hn=>by
 have:=List.all_eq_true.1 h n hn;exact aH (cJ (by rw[Nat.pow_one];exact of_decide_eq_true this)) a
def bzG:SqfInv 100 1000000 aqR:=by
 refine⟨fun n p r h=> ?_,fun n p r c h b a=> ?_⟩
 ·rcases h with ⟨rfl,rfl,rfl⟩|⟨rfl,rfl,rfl⟩|⟨rfl,rfl,rfl⟩;all_goals exact⟨oB rfl,oB rfl,C6 (by decide) (by decide),C6 (by decide) (by decide),by decide,by decide,by decide,by decide⟩
 ·rcases h with ⟨rfl,rfl,rfl⟩|⟨rfl,rfl,rfl⟩|⟨rfl,rfl,rfl⟩
  ·rw[aqE a];exact⟨[-1,1],[1],1,by decide,⟨oB rfl,by decide,oB rfl,L9 (n:=6) (by decide) (by decide) (by decide)⟩,⟨oB rfl,by decide,oB rfl,L9 (n:=6) (by decide) (by decide) (by decide)⟩,C6 (by decide) (by decide),C6 (by decide) (by decide),C6 (by decide) (by decide),by decide,.inr (.inl ⟨rfl,rfl,rfl⟩)⟩
  ·rw[aqF a];exact⟨[0, -1],[1],0,by decide,⟨oB rfl,by decide,oB rfl,L9 (n:=6) (by decide) (by decide) (by decide)⟩,⟨oB rfl,by decide,oB rfl,L9 (n:=6) (by decide) (by decide) (by decide)⟩,C6 (by decide) (by decide),C6 (by decide) (by decide),C6 (by decide) (by decide),by decide,.inr (.inr ⟨rfl,rfl,rfl⟩)⟩
  ·exact absurd b (by decide)
def Y8{x c Q Q':List Int}(h:QuoOf x c Q)(a:QuoOf x c Q'):Q=Q':=by
 refine oZ h.trim a.trim (fun i=> ?_)
 have b:=YJ (d:=fun j=>cf Q j+(-1)*cf Q' j) (L:=Q.length+Q'.length) h.ne h.tc (fun i e=>by
  show cf Q i+(-1)*cf Q' i=0
  rw[bV (by omega),bV (by omega)];simp) (fun i _=>by
  rw[qD,t6,<-h.id_,<-a.id_];omega) i
 have f:cf Q i+(-1)*cf Q' i=0:=b;omega
def aqS{Q g:List Int}{l:List (List Int)}(m:pO 1000000 [0,0, -1,1] [0, -2,3] g)(k:QuoOf [0,0, -1,1] g Q)(h:Sqf 1000000 Q g l):l=[[-1,1],[0, -1]]:=by
 have a:=aqD m;subst a;have b:Q=[0,1, -1]:=Y8 k ⟨oB rfl,by decide,oB rfl,L9 (n:=6) (by decide) (by decide) (by decide)⟩;subst b;cases h with
 |done h=>simp at h
 |step w o q s u=>
  have c:=aqE o;subst c;have d:=Y8 q (Q':=[-1,1]) ⟨oB rfl,by decide,oB rfl,L9 (n:=6) (by decide) (by decide) (by decide)⟩;have e:=Y8 s (Q':=[1]) ⟨oB rfl,by decide,oB rfl,L9 (n:=6) (by decide) (by decide) (by decide)⟩;subst d;subst e;cases u with
  |done h=>simp at h
  |step x p r t v=>
   have f:=aqF p;subst f;have i:=Y8 r (Q':=[0, -1]) ⟨oB rfl,by decide,oB rfl,L9 (n:=6) (by decide) (by decide) (by decide)⟩;have j:=Y8 t (Q':=[1]) ⟨oB rfl,by decide,oB rfl,L9 (n:=6) (by decide) (by decide) (by decide)⟩;subst i;subst j;cases v with
   |done=>rfl
   |step h _ _ _ _=>simp at h
def bzH:tH [0, -1]=[[48],[49]]:=by
 unfold tH eQ;show[cW (((0:Int):Rat)/((-1:Int):Rat)),cW (((-1:Int):Rat)/((-1:Int):Rat))]=_
 rw[show((0:Int):Rat)/((-1:Int):Rat)=0 by grind,show((-1:Int):Rat)/((-1:Int):Rat)=1 by grind,tL LY,tL ayM]
def bxZ(P Q:Value)(w:World)(j:Glob w)(o:StrsAt w P [[45,49],[49]])(p:StrsAt w Q [[45,51],[49]]):
  Calls prog 18 #[P,Q] w fun e w'=>e= .returned (.tuple #[.string ⟨#[45,50]⟩,.int .i64 0])∧Below w.heap.size w w':=by
 obtain⟨A,c,rfl,hc⟩:=o.form;obtain⟨R,Y,rfl,ae⟩:=p.form;replace o:StrsAt w (.slice A 2 c) [[45,49],[49]]:=o;replace p:StrsAt w (.slice R 2 Y) [[45,51],[49]]:=p;go_enter func18,ntmps18;go_wp2_with fail;refine(I8 [[45,49],[49]] _ _ j o (by decide) (fun _=>by decide) 1 66 (fun _=>by rw[azJ];exact bzC) (by decide) (by unfold aJ;decide)).mono ?_;rintro e1 h ⟨v1,ah,xs,D,rfl,b,d,L,a⟩;obtain⟨rfl,s⟩:=L aqN;rw[azJ] at b s;have G:cC [-1,1] D=[-1*D,D]:=aqQ D (-1);rw[G] at b;obtain⟨S,Z,rfl,af⟩:=b.form;replace b:WholeAt h (.slice S 2 Z) [-1*D,D]:=b;obtain⟨B,l,z,m,rfl⟩:=d.form;rw[aqN];clear L G;go_wp2_with fail;have r:Below h.heap.size h (h.alloc (.cells #[.bool B,.slice l z m] 44)):=(aG _ _).alloc aE _;have X:=Bx.new h [.bool B,.slice l z m] 44;replace b:=b.be r;replace d:=d.be r;replace a:=aC a r;clear r;generalize h.heap.size=I at *;generalize h.alloc (.cells #[.bool B,.slice l z m] 44)=w2 at *;refine(I8 [[45,51],[49]] _ _ (j.be a) (p.be a) (by decide) (fun _=>by decide) 1 66 (fun _=>by rw[azK];exact bzD) (by decide) (by unfold aJ;decide)).mono ?_;rintro e3 i ⟨v3,ai,ys,E,rfl,f,n,M,q⟩;obtain⟨rfl,t⟩:=M aqO;rw[azK] at f t;have H:cC [-3,1] E=[-3*E,E]:=aqQ E (-3);rw[H] at f;obtain⟨T,c3,rfl,ag⟩:=f.form;replace f:WholeAt i (.slice T 2 c3) [-3*E,E]:=f;obtain⟨O,C,N,F,rfl⟩:=n.form;rw[aqO];clear M H;replace X:=X.be q;replace b:=b.be q;replace d:=d.be q;replace a:=aC a q;have U:∀g:Obj,(i.alloc g).cell? ⟨I,0,none⟩=some (.bool B):=fun g=>(X.alloc g).cell 0 rfl;have V:∀g:Obj,(i.alloc g).cell? ⟨I,1,none⟩=some (.slice l z m):=fun g=>(X.alloc g).cell 1 rfl;have J:=fun W v u x y j h1 h2 h3 h4=>cyH D E s.pos t.pos (aH s.nl_ (by decide)) (aH t.nl_ (by decide)) v u x y W j h1 h2 h3 h4;unfold iF at J;clear s t;go_wp2_with fail;have k:Below i.heap.size i (i.alloc (.cells #[.bool O,.slice C N F] 44)):=(aG _ _).alloc aE _;replace b:=b.be k;replace f:=f.be k;replace d:=d.be k;replace n:=n.be k;replace a:=aC a k;clear k X U V;generalize i.alloc (.cells #[.bool O,.slice C N F] 44)=w4 at *;refine(J _ _ _ _ _ (j.be a) b f d n).mono ?_;rintro e5 w5 ⟨v5,rfl,h5,ac⟩;replace a:=aC a ac;have K:=I4 _ _ _ (j.be a) h5 1 (aqP (by decide)) (by decide);rw[show cW ((-2:Int):Rat)=[45,50] from tL ayN] at K;go_wp2_with fail;refine K.mono ?_;rintro e6 w6 ⟨rfl,ad⟩;replace a:=aC a ad;go_wp2_with fail;exact aM (v:= .tuple #[.string ⟨#[45,50]⟩,.int .i64 0]) (by simp[results,results18,go_sem]) rfl ⟨rfl,a⟩
def StrsAt.built(w:World)(a:List (List UInt8))(t:TypeId):StrsAt (w.alloc (.cells (a.map (fun l=>Value.string ⟨l.toArray⟩)).toArray t)) (.slice (some ⟨w.heap.size,0,none⟩) a.length a.length) a:=by
 refine⟨_,_,rfl,aE,.inr ⟨w.heap.size,0,rfl,by simp,fun i l b=> ?_⟩⟩;have B:=Bx.new w (a.map (fun l=>Value.string ⟨l.toArray⟩)) t;rw[bA];exact B.cell i (by rw[iK,b];rfl)
def V9(a:List (List UInt8))(b c:Value)(w:World)(f:StrsAt w b a)(g:StrsAt w c a)(d:a.length<=1099511627776):
  Calls prog 11 #[b,c] w fun e w'=>e= .returned (.bool true)∧Below w.heap.size w w':=
 (aqV a a b c w f g d d).mono (fun e w' h=>⟨by rw[h.1,decide_eq_true rfl],h.2⟩)
def bxW:GcdFit 100 1000000 [0,0, -1,1] [0, -2,3]:=⟨oB rfl,oB rfl,C6 (by decide) (by decide),C6 (by decide) (by decide),by decide,by decide,by decide,by decide⟩
def bxX{D:Int}(a:nl D.natAbs<=66):∀n∈[0,0, -2*D,2*D],nl n.natAbs<=100:=fun n hn=>by
 simp only[List.mem_cons,List.not_mem_nil,or_false] at hn;have b:nl (2:Int).natAbs<=1:=cJ (by decide);have c:nl (-2:Int).natAbs<=1:=cJ (by decide);have d:nl (0:Int).natAbs<=1:=cJ (by decide);rcases hn with rfl|rfl|rfl|rfl
 ·omega
 ·omega
 ·exact aH (gT _ _ _ _ c a) (by decide)
 ·exact aH (gT _ _ _ _ b a) (by decide)
def bxY(h:Value)(w:World)(k:Glob w)(m:StrsAt w h [[48],[48],[45,50],[50]]):
  Calls prog 9 #[h] w fun e w'=>∃v,e= .returned (.tuple #[v,.int .i64 0])∧TsAt w' w.heap.size 22 v [tH [-1,1],[[48],[49]]]∧Below w.heap.size w w':=by
 refine(aqT [[48],[48],[45,50],[50]] h w k m (by decide) 1 (fun _=>by decide) (fun _=>by rw[Y5];exact bzE) (by decide) bz9 (by decide) 100 1000000 (by decide) (by decide) (by unfold aJ;decide) aqR bzG ?_ ?_).mono ?_
 ·intro D b;rw[Y5] at b⊢;rw[azL,azM b.pos,azF];refine⟨bxX (aH b.nl_ (by decide)),bxW,fun g a=> ?_⟩;rw[aqD a];exact⟨[0,1, -1],2,⟨oB rfl,by decide,oB rfl,L9 (n:=6) (by decide) (by decide) (by decide)⟩,C6 (by decide) (by decide),C6 (by decide) (by decide),by decide,by decide,.inl ⟨rfl,rfl,rfl⟩⟩
 ·intro D Q g l b a c d;rw[Y5] at b a c;rw[azL,azM b.pos] at a c;rw[azF] at a;rw[aqS a c d];refine⟨by decide,fun f j=> ?_⟩;simp only[List.mem_cons,List.not_mem_nil,or_false] at j;rcases j with rfl|rfl
  ·exact⟨by decide,by decide,C6 (by decide) (by decide)⟩
  ·exact⟨by decide,by decide,C6 (by decide) (by decide)⟩
 ·rintro e w' ⟨D,b,v,g,Q,l,rfl,i,a,c,d,o⟩;rw[Y5] at b a c;rw[azL,azM b.pos] at a c;rw[azF] at a;rw[aqS a c d] at i;refine⟨v,rfl,?_,o⟩;rw[<-bzH];exact i
def aq2(w:World)(B:Glob w):Calls prog 6 #[] w fun e w'=>e= .returned (.bool true)∧Below w.heap.size w w':=by
 go_enter func6,ntmps6;go_wp2_with fail;have c:Below w.heap.size w (w.alloc (.cells #[.string ⟨#[48]⟩,.string ⟨#[48]⟩,.string ⟨#[49]⟩] 9)):=(aG _ _).alloc aE _;have p:Below w.heap.size w ((w.alloc (.cells #[.string ⟨#[48]⟩,.string ⟨#[48]⟩,.string ⟨#[49]⟩] 9)).alloc (.cells #[.string ⟨#[49]⟩,.string ⟨#[50]⟩] 9)):=c.alloc (by simp) _;have h:StrsAt ((w.alloc (.cells #[.string ⟨#[48]⟩,.string ⟨#[48]⟩,.string ⟨#[49]⟩] 9)).alloc (.cells #[.string ⟨#[49]⟩,.string ⟨#[50]⟩] 9)) (.slice (some ⟨w.heap.size,0,none⟩) 3 3) [[48],[48],[49]]:=(StrsAt.built w [[48],[48],[49]] 9).be ((aG _ _).alloc aE _);have y:StrsAt ((w.alloc (.cells #[.string ⟨#[48]⟩,.string ⟨#[48]⟩,.string ⟨#[49]⟩] 9)).alloc (.cells #[.string ⟨#[49]⟩,.string ⟨#[50]⟩] 9)) (.slice (some ⟨w.heap.size+1,0,none⟩) 2 2) [[49],[50]]:=by
  have:=StrsAt.built (w.alloc (.cells #[.string ⟨#[48]⟩,.string ⟨#[48]⟩,.string ⟨#[49]⟩] 9)) [[49],[50]] 9;rw[World.size_alloc] at this;exact this
 have a:=p;clear c p;generalize (w.alloc (.cells #[.string ⟨#[48]⟩,.string ⟨#[48]⟩,.string ⟨#[49]⟩] 9)).alloc (.cells #[.string ⟨#[49]⟩,.string ⟨#[50]⟩] 9)=W at *;refine(bzL [[48],[48],[49]] [[49],[50]] _ _ _ (B.be a) h y (by decide) (by decide) 1 (fun _=>by decide) (fun _=>by decide) (fun _=>by rw[azH];exact bzA) (fun _=>by rw[azI];exact bzB) (by decide)).mono ?_;rintro T g ⟨v,u,n,Q,R,rfl,hv,D,E, -, -,F⟩;obtain⟨rfl,C⟩:=F bz7 bz8 (by decide);rw[azH,azI] at C;obtain⟨rfl,rfl⟩:=bzF C;have f:StrsAt g v [[45,49,47,52],[49,47,50]]:=by
  have e:List.map cW [mkRat (-1) 4,mkRat 1 2]=[[45,49,47,52],[49,47,50]]:=by
   show[cW (mkRat (-1) 4),cW (mkRat 1 2)]=_
   rw[tL bz1,tL bz2]
  rw[e] at hv;exact hv
 have d:StrsAt g u [[49,47,52]]:=by
  have e:List.map cW [mkRat 1 4]=[[49,47,52]]:=by
   show[cW (mkRat 1 4)]=_
   rw[tL bz3]
  rw[e] at D;exact D
 obtain⟨J,N,rfl, -⟩:=f.form;obtain⟨I,M,rfl, -⟩:=d.form;replace f:StrsAt g (.slice J 2 N) [[45,49,47,52],[49,47,50]]:=f;replace d:StrsAt g (.slice I 1 M) [[49,47,52]]:=d;replace a:=aC a E;clear h y hv D F C E;go_wp2_with fail;have c:Below g.heap.size g (g.alloc (.cells #[.string ⟨#[45,49]⟩,.string ⟨#[49]⟩] 9)):=(aG _ _).alloc aE _;have p:Below g.heap.size g ((g.alloc (.cells #[.string ⟨#[45,49]⟩,.string ⟨#[49]⟩] 9)).alloc (.cells #[.string ⟨#[45,51]⟩,.string ⟨#[49]⟩] 9)):=c.alloc (by simp) _;have h:StrsAt ((g.alloc (.cells #[.string ⟨#[45,49]⟩,.string ⟨#[49]⟩] 9)).alloc (.cells #[.string ⟨#[45,51]⟩,.string ⟨#[49]⟩] 9)) (.slice (some ⟨g.heap.size,0,none⟩) 2 2) [[45,49],[49]]:=(StrsAt.built g [[45,49],[49]] 9).be ((aG _ _).alloc aE _);have y:StrsAt ((g.alloc (.cells #[.string ⟨#[45,49]⟩,.string ⟨#[49]⟩] 9)).alloc (.cells #[.string ⟨#[45,51]⟩,.string ⟨#[49]⟩] 9)) (.slice (some ⟨g.heap.size+1,0,none⟩) 2 2) [[45,51],[49]]:=by
  have:=StrsAt.built (g.alloc (.cells #[.string ⟨#[45,49]⟩,.string ⟨#[49]⟩] 9)) [[45,51],[49]] 9;rw[World.size_alloc] at this;exact this
 replace f:=f.be p;replace d:=d.be p;replace a:=aC a p;clear c p;generalize (g.alloc (.cells #[.string ⟨#[45,49]⟩,.string ⟨#[49]⟩] 9)).alloc (.cells #[.string ⟨#[45,51]⟩,.string ⟨#[49]⟩] 9)=W at *;refine(bxZ _ _ _ (B.be a) h y).mono ?_;rintro U q ⟨rfl,z⟩;replace f:=f.be z;replace d:=d.be z;replace a:=aC a z;clear h y z;go_wp2_with fail;have c:Below q.heap.size q (q.alloc (.cells #[.string ⟨#[48]⟩,.string ⟨#[48]⟩,.string ⟨#[45,50]⟩,.string ⟨#[50]⟩] 9)):=(aG _ _).alloc aE _;have h:StrsAt (q.alloc (.cells #[.string ⟨#[48]⟩,.string ⟨#[48]⟩,.string ⟨#[45,50]⟩,.string ⟨#[50]⟩] 9)) (.slice (some ⟨q.heap.size,0,none⟩) 4 4) [[48],[48],[45,50],[50]]:=StrsAt.built q [[48],[48],[45,50],[50]] 9;replace f:=f.be c;replace d:=d.be c;replace a:=aC a c;clear c;generalize q.alloc (.cells #[.string ⟨#[48]⟩,.string ⟨#[48]⟩,.string ⟨#[45,50]⟩,.string ⟨#[50]⟩] 9)=W at *;refine(bxY _ _ (B.be a) h).mono ?_;rintro V m ⟨v3,rfl,j,A⟩;obtain⟨G,K,rfl, -⟩:=j.form;replace j:TsAt m W.heap.size 22 (.slice G 2 K) [tH [-1,1],[[48],[49]]]:=j;replace f:=f.be A;replace d:=d.be A;replace a:=aC a A;clear h A;go_wp2_with fail;have c:Below m.heap.size m (m.alloc (.cells #[.string ⟨#[45,49,47,52]⟩,.string ⟨#[49,47,50]⟩] 9)):=(aG _ _).alloc aE _;have h:StrsAt (m.alloc (.cells #[.string ⟨#[45,49,47,52]⟩,.string ⟨#[49,47,50]⟩] 9)) (.slice (some ⟨m.heap.size,0,none⟩) 2 2) [[45,49,47,52],[49,47,50]]:=StrsAt.built m [[45,49,47,52],[49,47,50]] 9;(try replace f:=f.be c);(try replace d:=d.be c);(try replace j:=j.be c);(try replace k:=k.be c);replace a:=aC a c;clear c;generalize m.alloc (.cells #[.string ⟨#[45,49,47,52]⟩,.string ⟨#[49,47,50]⟩] 9)=O at *;refine(V9 _ _ _ _ f h (by decide)).mono ?_;rintro X r ⟨rfl,s⟩;(try replace f:=f.be s);(try replace d:=d.be s);(try replace j:=j.be s);replace a:=aC a s;clear h s;go_wp2_with fail;have c:Below r.heap.size r (r.alloc (.cells #[.string ⟨#[49,47,52]⟩] 9)):=(aG _ _).alloc aE _;have h:StrsAt (r.alloc (.cells #[.string ⟨#[49,47,52]⟩] 9)) (.slice (some ⟨r.heap.size,0,none⟩) 1 1) [[49,47,52]]:=StrsAt.built r [[49,47,52]] 9;(try replace f:=f.be c);(try replace d:=d.be c);(try replace j:=j.be c);(try replace k:=k.be c);replace a:=aC a c;clear c;generalize r.alloc (.cells #[.string ⟨#[49,47,52]⟩] 9)=P at *;refine(V9 _ _ _ _ d h (by decide)).mono ?_;rintro Y o ⟨rfl,t⟩;(try replace f:=f.be t);(try replace d:=d.be t);(try replace j:=j.be t);replace a:=aC a t;clear h t;obtain⟨b,u4,rfl,ac,ad,k⟩:=j.at_ (i:=1) (l:=[[48],[49]]) rfl;obtain⟨H,L,rfl, -⟩:=k.form;replace k:StrsAt o (.slice H 2 L) [[48],[49]]:=k;go_wp2_with fail;have c:Below o.heap.size o (o.alloc (.cells #[.string ⟨#[48]⟩,.string ⟨#[49]⟩] 9)):=(aG _ _).alloc aE _;have h:StrsAt (o.alloc (.cells #[.string ⟨#[48]⟩,.string ⟨#[49]⟩] 9)) (.slice (some ⟨o.heap.size,0,none⟩) 2 2) [[48],[49]]:=StrsAt.built o [[48],[49]] 9;(try replace f:=f.be c);(try replace d:=d.be c);(try replace j:=j.be c);(try replace k:=k.be c);replace a:=aC a c;clear c;generalize o.alloc (.cells #[.string ⟨#[48]⟩,.string ⟨#[49]⟩] 9)=S at *;refine(V9 _ _ _ _ k h (by decide)).mono ?_;rintro Z w7 ⟨rfl,x⟩;(try replace f:=f.be x);(try replace d:=d.be x);(try replace j:=j.be x);replace a:=aC a x;clear h x;go_wp2;go_ret;exact⟨rfl,a⟩
def jH(n:Nat)(a:List (List UInt8)):Bool:=a.all (fun l=>decide (l.length<=n))
def LX(n:Nat)(a:List (List UInt8))(v:Value)(w:World)(hv:StrsAt w v a)(hn:n<=1073741824)(G:a.length<=1073741824)(y:∀l∈a,l.length<=9223372036854775807):
  Calls prog 16 #[.int .i64 n,v] w fun e w'=>e= .returned (.bool (jH n a))∧w=w':=by
 obtain⟨A,c,rfl,C⟩:=hv.form;go_enter func16,ntmps16;go_wp2_with fail;go_loopg [5] a.length (fun k i wr=>∃j,Hid (j+k=a.length)∧i= .int .i64 j∧Hid (jH n (a.take j)=true)∧w=wr)
 case atStart=>exact⟨0,by unfold Hid;omega,rfl,rfl,rfl⟩
 case round=>
  obtain⟨j,f,rfl,g,rfl⟩:=hrel;have E:(0:Int)<=(j:Int):=by omega
  cases gk with
  |zero=>
   have m:j=a.length:=f.out;have r:Hid (jH n a=true):=by
    have:=g.out;rwa [m,List.take_length] at this
   subst m;go_wp2;go_ret;rw[r.out];exact⟨rfl,rfl⟩
  |succ k=>
   have x:j<a.length:=by have:=f.out;omega
   have F:(j:Int)<(a.length:Int):=by omega
   obtain⟨t,d⟩:∃t,a[j]? =some t:=⟨_,aR x⟩;have p:jH n (a.take (j+1))=decide (t.length<=n):=by
    unfold jH;rw[BA,d,Option.toList_some,List.all_append];have:=g.out;unfold jH at this;rw[this];simp
   have o:¬t.length<=n->jH n a=false:=fun h=>by
    unfold jH;rw[List.all_eq_false];exact⟨t,dG d,by simpa using h⟩
   have u:=aB p;have s:=aB o;have I:=y t (dG d);obtain⟨b,J,rfl,B,D⟩:=hv.at_ d;have H:(⟨t.toArray⟩:ByteArray).size=t.length:=by simp[ByteArray.size]
   clear p o d g;by_cases q:t.length<=n
   ·have z:¬(n:Int)<(t.length:Int):=by omega
    go_wp2;go_roundg k
    case rel=>exact⟨j+1,by have:=f.out;unfold Hid;omega,by go_num,by unfold Hid;rw[u.out];exact decide_eq_true q,rfl⟩
    case measure=>omega
   ·have z:(n:Int)<(t.length:Int):=by omega
    go_wp2;go_ret;rw[s.out q];exact⟨rfl,rfl⟩
def azQ(w:World)(v:Value)(a:List (List (List UInt8))):Prop:=
 ∃g c,v= .slice (some ⟨g,0,none⟩) a.length c∧∀(i:Nat) (p:List (List UInt8)),a[i]? =some p->∃A d,w.cell? ⟨g,i,none⟩=some (.slice A p.length d)∧StrsAt w (.slice A p.length d) p
def G7(n d:Nat)(a:List (List (List UInt8))):Bool:=a.all (fun p=>decide (p.length<=n)&&jH d p)
def bzO(n d:Nat)(a:List (List (List UInt8)))(v:Value)(w:World)(hv:azQ w v a)(hn:n<=1073741824)(z:d<=1073741824)(K:a.length<=1073741824)(C:∀p∈a,∀l∈p,l.length<=9223372036854775807):
  Calls prog 5 #[.int .i64 n,.int .i64 d,v] w fun e w'=>e= .returned (.bool (G7 n d a))∧w=w':=by
 obtain⟨g,c,rfl,hv⟩:=hv;go_enter func5,ntmps5;go_wp2_with fail;go_loopg [7] a.length (fun k i wr=>∃j,Hid (j+k=a.length)∧i= .int .i64 j∧Hid (G7 n d (a.take j)=true)∧w=wr)
 case atStart=>exact⟨0,by unfold Hid;omega,rfl,rfl,rfl⟩
 case round=>
  obtain⟨j,o,rfl,r,rfl⟩:=hrel;have I:(0:Int)<=(j:Int):=by omega
  cases gk with
  |zero=>
   have s:j=a.length:=o.out;have y:Hid (G7 n d a=true):=by
    have:=r.out;rwa [s,List.take_length] at this
   subst s;go_wp2;go_ret;rw[y.out];exact⟨rfl,rfl⟩
  |succ k=>
   have B:j<a.length:=by have:=o.out;omega
   have J:(j:Int)<(a.length:Int):=by omega
   obtain⟨p,m⟩:∃p,a[j]? =some p:=⟨_,aR B⟩;have u:G7 n d (a.take (j+1))=(decide (p.length<=n)&&jH d p):=by
    unfold G7;rw[BA,m,Option.toList_some,List.all_append];have:=r.out;unfold G7 at this;rw[this];simp
   have t:(decide (p.length<=n)&&jH d p)=false->G7 n d a=false:=fun h=>by
    unfold G7;rw[List.all_eq_false];exact⟨p,dG m,by rw[h];simp⟩
   have q:=aB u;have b:=aB t;have D:=C p (dG m);obtain⟨A,dd,H,E⟩:=hv j p m;clear u t m r;by_cases x:p.length<=n
   ·have F:¬(n:Int)<(p.length:Int):=by omega
    have f:decide (p.length<=n)=true:=decide_eq_true x;rw[f] at q b;clear f;go_wp2_with fail;refine(LX d p _ _ E z (by omega) D).mono ?_;rintro G L ⟨rfl,rfl⟩;cases hs:jH d p with
    |true=>
     rw[hs] at q;clear b;go_wp2;go_roundg k
     case rel=>exact⟨j+1,by have:=o.out;unfold Hid;omega,by go_num,by unfold Hid;rw[q.out];rfl,rfl⟩
     case measure=>omega
    |false=>
     rw[hs] at b;go_wp2;go_ret;rw[b.out rfl];exact⟨rfl,rfl⟩
   ·have F:(n:Int)<(p.length:Int):=by omega
    have f:decide (p.length<=n)=false:=decide_eq_false x;rw[f] at b;clear f;go_wp2;go_ret;rw[b.out rfl];exact⟨rfl,rfl⟩
def aqW{n d:Nat}{b:List (List (List UInt8))}(h:G7 n d b=true){p:List (List UInt8)}(e:p∈b):p.length<=n∧∀l∈p,l.length<=d:=by
 have a:=List.all_eq_true.1 h p e;rw[Bool.and_eq_true,iQ] at a;exact⟨a.1,fun l c=>of_decide_eq_true (List.all_eq_true.1 a.2 l c)⟩
end Go.Proofs.YtapgbkldiinabaaGreatDoor
namespace Go.Proofs.YtapgbkldiinabaaGreatDoor
open Sos Lib
def iG{K:Nat}(h:1<=K):RL K 0:=⟨by show nl 0<=K;rw[dO];omega,by show nl 1<=K;exact aH (cJ (by decide)) h⟩
def C7{K:Nat}{q:Rat}(h:RL K q):RL K (-q):=⟨by rw[show(-q).num= -q.num from rfl,Int.natAbs_neg];exact h.1,h.2⟩
def bU{K L:Nat}{q:Rat}(h:RL K q)(a:K<=L):RL L q:=⟨aH h.1 a,aH h.2 a⟩
def JA{n k:Nat}(h:(decDigits n).length<=k)(d:k<=18):nl n<=1:=by
 refine cJ ?_;have a:=tI (oL n);rw[mQ] at a;have b:10^(decDigits n).length<=10^18:=cO (by decide) (by omega);have c:10^18<BN^1:=by decide
 omega
def tS{t:List UInt8}{q:Rat}(h:eY t=some q)(c:t.length<=18):RL 1 q:=by
 have e:=tL h;have a:(cW q).length<=18:=by rw[e];exact c
 unfold cW at a;rw[cY,cY] at a;refine⟨JA (k:=18) (by omega) (by decide),?_⟩;by_cases b:q.den=1
 ·rw[b];exact cJ (by decide)
 ·rw[if_neg b,eG] at a;exact JA (k:=18) (by omega) (by decide)
def pI{a:List (List UInt8)}(h:∀l∈a,l.length<=18):∀q∈aU a,RL 1 q:=fun q c=>by
 obtain⟨l,b,rfl⟩:=List.mem_map.1 c;cases hr:eY l with
 |none=>exact iG (mC 1)
 |some q=>exact tS hr (h l b)
def cyT{q:Rat}{K:Nat}(h:RL K q):(cW q).length<=40*K+4:=by
 have a:=wR q.num.natAbs K h.1;have b:=wR q.den K h.2;unfold cW;rw[cY,cY];have c:(if q.num<0 then [(45:UInt8)] else []).length<=1:=by split<;>simp
 have d:(if q.den=1 then [] else (47:UInt8) :: decDigits q.den).length<=(decDigits q.den).length+1:=by split<;>simp
 omega
def P9(Q:List Rat):aU (Q.map cW)=Q:=by
 unfold aU;rw[List.map_map];have:((fun l=>(eY l).getD 0) ∘ cW)=id:=funext (fun q=>by show(eY (cW q)).getD 0=q;rw[SU];rfl);rw[this,List.map_id]
def cyU(Q:List Rat):(Q.map cW).all rd=true:=by
 rw[List.all_eq_true];intro l a;obtain⟨q,_,rfl⟩:=List.mem_map.1 a;unfold rd;rw[SU];rfl
def cxV{Q:List Rat}(h:Q.length<=65)(a:aN Q):vl (Q.map cW)=true:=by
 unfold vl;rw[iQ,P9,cH];exact⟨h,cyU Q,(JB Q).1 a⟩
def cyV{a:List (List UInt8)}(h:a.all rd=true):(aU a).map cW=a:=by
 unfold aU;rw[List.map_map];refine(List.map_congr_left (g:=id) (fun l c=> ?_)).trans (List.map_id _);have d:rd l=true:=List.all_eq_true.1 h l c;obtain⟨q,b⟩:=Option.isSome_iff_exists.1 d;show cW ((eY l).getD 0)=l
 rw[b];exact tL b
end Go.Proofs.YtapgbkldiinabaaGreatDoor
namespace Go.Proofs.YtapgbkldiinabaaGreatDoor
open Go.RowKit Sos Tryz
def bzP{w:World}{A e:Option Addr}{c c':Nat}{a b:List (List UInt8)}(g:StrsAt w (.slice A a.length c) a)(h:StrsAt w (.slice e b.length c') b)(t:TypeId):
  azQ (w.alloc (.cells #[.slice A a.length c,.slice e b.length c'] t)) (.slice (some ⟨w.heap.size,0,none⟩) 2 2) [a,b]:=by
 have B:=Bx.new w [.slice A a.length c,.slice e b.length c'] t;have f:Below w.heap.size w (w.alloc (.cells #[.slice A a.length c,.slice e b.length c'] t)):=(aG _ _).alloc aE _;refine⟨w.heap.size,2,rfl,fun i p d=> ?_⟩;match i,d with
 |0,d=>
  simp at d;subst d;exact⟨A,c,B.cell 0 rfl,g.be f⟩
 |1,d=>
  simp at d;subst d;exact⟨e,c',B.cell 1 rfl,h.be f⟩
def cyA{w:World}{g:Nat}{cur cs:Array Value}{e:TypeId}(s:w.heap[g]? =some (.cells cur e (0,0)))(hn:∀u∈cur.toList,NoInt u){u:Value}{n:Nat}(h:NatAt w u n):NatAt (w.setRow g cs) u n:=by
 obtain⟨A,c,hv,r,d,x⟩:=h;have k:(w.setRow g cs).heap.size=w.heap.size:=by simp[World.setRow]
 refine⟨A,c,hv,r,?_,x.mono (by rw[k];exact aE)⟩;rcases d with d|⟨b,m,rfl,v,j⟩
 ·exact .inl d
 ·by_cases l:dg n=[]
  ·exact .inl l
  ·have q:b≠g:=fun p=>by
    subst p;have f:=j 0 (List.length_pos_iff.2 l);rw[cell_of_row w b (m+0) cur e (0,0) s,<-Array.getElem?_toList] at f;exact hn _ (dG f) _ _ rfl
   refine .inr ⟨b,m,rfl,by rw[k];exact v,fun i t=> ?_⟩;exact(World.cell?_of_block (setRow_other w g b cs q)).trans (j i t)
section
variable {P:Program}{ops:Array Oper}{rest:List Oper}{o:Oper}{a:Act}{Q:Exit->Act->World->Prop}{w:World}
def XZ(dT sT F c:TypeId)(k g dLen dCap:Nat)(sp:Option Addr)(sLen sCap:Nat)(cur:Array Value)(t:TypeId)(cs:List Value)
  (q:P.underlying dT=some (.slice c))(m:(P.info? c).map (·.size)=some k)(A:0<k)
  (d:w.heap[g]? =some (.cells cur t (0,0)))(hn:cs.length=sLen*k)(B:sLen<=dLen)
  (n:Src w sp cs)(y:cs.length<=cur.size)(u:∀v∈cs,v.oneCell'=true):
  (Builtin.copy_ #[dT,sT] F #[.slice (some ⟨g,0,none⟩) dLen dCap,.slice sp sLen sCap]).run P w= .ok (goInt sLen) (w.setRow g (cs++cur.toList.drop cs.length).toArray):=by
 have p:=run_storeCells_at P g 0 t cs 0 cur w d (by simpa using y) u;have C:Nat.min sLen dLen=sLen:=gF B;simp only[bA,List.take_zero,iM] at p;cases hq:P.info? c with
 |none=>simp[hq] at m
 |some i=>
  have f:i.size=k:=by simpa [hq] using m
  cases sp with
  |none=>
   have s:cs=[]:=by
    rcases n with h|⟨b,E,e,_⟩
    ·exact h
    ·cases e
   subst s;have D:sLen=0:=by
    rcases iB sLen with h|h
    ·exact h
    ·have:=Nat.mul_pos h A;simp at hn;omega
   subst D;simp[Builtin.copy_,run_underlying q,Builtin.lenOf,Builtin.firstCells,sizeOf,typeInfo,hq,f,storeCells,setRow_self w g cur t (0,0) d]
  |some r=>
   have l:=run_loadCells_list (P:=P) w r cs (fun j v hv=>by
    rcases n with h|⟨b,E,e,x⟩
    ·rw[h] at hv;simp at hv
    ·injection e with e;subst e;have:=x j v hv;unfold Addr.add;split
     ·rename_i z;subst z;simpa using this
     ·exact this)
   rw[hn] at l;simp[Builtin.copy_,run_underlying q,Builtin.lenOf,Builtin.firstCells,sizeOf,typeInfo,hq,f,C,l,p]
def Y0(l:o.guard=none){d s:Operand}{dT sT:TypeId}(p:o.op= .call { callee:= .builtin .copy,args:= #[d,s],argTypes:= #[dT,sT] })(b:TypeId)(k g dLen dCap:Nat)(sp:Option Addr)(sLen sCap:Nat)(cur:Array Value)(t:TypeId)(cs:List Value)
  (x:P.underlying dT=some (.slice b))(r:(P.info? b).map (·.size)=some k)(m:0<k)(f:a.eval d= .slice (some ⟨g,0,none⟩) dLen dCap)(y:a.eval s= .slice sp sLen sCap)
  (j:w.heap[g]? =some (.cells cur t (0,0)))(hn:cs.length=sLen*k)(n:sLen<=dLen)(u:Src w sp cs)(i:cs.length<=cur.size)(c:∀v∈cs,v.oneCell'=true)
  (h:wpList P ops Q rest (a.put o.dst (goInt sLen)) (w.setRow g (cs++cur.toList.drop cs.length).toArray)):wpList P ops Q (o :: rest) a w:=by
 refine wpList_plain l fun K e=> ?_;have q:=XZ (P:=P) (w:=w) dT sT o.type b k g dLen dCap sp sLen sCap cur t cs x r m j hn n u i c;unfold Oper.wp execOp;simp only[p,resolve,invoke,builtin,Sem.run_bind,Sem.run_pure,Result.andThen_ok,List.map_toArray,fM,List.map_nil,f,y,q];exact e _ _ h
end
def K3{α:Type}(z:List α)(k l M:Nat)(d:z.length=k)(f:l<=M):(List.replicate M z).flatten.drop (l*k)=(List.replicate (M-l) z).flatten:=by
 have e:List.replicate M z=List.replicate l z++List.replicate (M-l) z:=by rw[List.replicate_append_replicate];congr 1;omega
 have b:(List.replicate l z).flatten.length=l*k:=by rw[mX (k:=k) (fun r c=>by rw[(List.mem_replicate.1 c).2];exact d),dB]
 rw[e,List.flatten_append,<-b,List.drop_left]
def OwnW.copied{w:World}{g M:Nat}{rows:List (List Value)}{d:List Int}(j:Rw w g 2 (List.replicate M [.bool false,.slice none 0 0]) 44)(p:∀r∈rows,r.length=2)(e:rows.length=d.length)(y:d.length<=M)(hi:IRow w rows d):
  let W:=w.setRow g (rows.flatten++(List.replicate M ([.bool false,.slice none 0 0]:List Value)).flatten.drop rows.flatten.length).toArray
  OwnW W g (d++List.replicate (M-d.length) 0)∧I6 g w W:=by
 have m:w.heap[g]? =some (.cells (List.replicate M ([.bool false,.slice none 0 0]:List Value)).flatten.toArray 44 (0,0)):=j.1
 have q:Keep w (w.setRow g (rows.flatten++(List.replicate M ([.bool false,.slice none 0 0]:List Value)).flatten.drop rows.flatten.length).toArray):=fun x n G=>cyA m (fun u E=>by
  have F:u∈(List.replicate M ([.bool false,.slice none 0 0]:List Value)).flatten:=E;obtain⟨r,D,k⟩:=List.mem_flatten.1 F;rw[(List.mem_replicate.1 D).2] at k;simp at k;rcases k with rfl|rfl
  ·exact NoInt.bool _
  ·exact NoInt.slice _ _ _) G
 have C:rows.flatten.length=d.length*2:=by rw[mX p,e]
 have B:rows.flatten++(List.replicate M ([.bool false,.slice none 0 0]:List Value)).flatten.drop rows.flatten.length=(rows++List.replicate (M-d.length) [Value.bool false,Value.slice none 0 0]).flatten:=by
  rw[C,K3 _ 2 _ _ rfl y,List.flatten_append]
 refine⟨⟨rows++List.replicate (M-d.length) [.bool false,.slice none 0 0],⟨?_,fun r j=> ?_⟩,by simp[e],fun i n hn=> ?_⟩,q,fun b z=>setRow_other w g b _ z,by simp[World.setRow],rfl,rfl,rfl⟩
 ·unfold Bx;rw[<-B];exact setRow_heap w g _ _ _ _ m
 ·rcases List.mem_append.1 j with h|h
  ·exact p r h
  ·rw[(List.mem_replicate.1 h).2];rfl
 ·rcases dE i d.length with h|h
  ·rw[gA h] at hn;obtain⟨s,A,l,c,t,v⟩:=hi i n hn;exact⟨s,A,l,c,by rw[gA (by omega)];exact t,v.ke q⟩
  ·rw[fK h] at hn;have f:=(List.getElem?_eq_some_iff.1 hn).1;rw[dB] at f;rw[j6,if_pos f] at hn;injection hn with hn;subst hn;exact⟨false,none,0,0,by rw[fK (by omega),e,j6,if_pos f],IntAt.zero _⟩
def uG(xs ys:List Int)(y:Int):List Int:=(List.range (max xs.length ys.length)).map (fun i=>cf xs i+cf ys i*y)
def bx0(xs ys:List Int)(y:Int):(uG xs ys y).length=max xs.length ys.length:=by unfold uG;rw[cH,List.length_range]
def x9(xs ys:List Int)(y:Int)(j:Nat):List Int:=(List.range (max xs.length ys.length)).map (fun i=>cf xs i+(if i<j then cf ys i*y else 0))
def Z8(xs ys:List Int)(y:Int)(j:Nat):(x9 xs ys y j).length=max xs.length ys.length:=by unfold x9;rw[cH,List.length_range]
def cxW(xs ys:List Int)(y:Int)(j:Nat){i:Nat}(h:i<max xs.length ys.length):(x9 xs ys y j)[i]? =some (cf xs i+(if i<j then cf ys i*y else 0)):=by unfold x9;rw[iK,List.getElem?_range h];rfl
def bzU(xs ys:List Int)(y:Int):x9 xs ys y 0=xs++List.replicate (max xs.length ys.length-xs.length) 0:=by
 refine List.ext_getElem? (fun i=> ?_);by_cases h:i<max xs.length ys.length
 ·rw[cxW _ _ _ _ h,if_neg (by omega),Int.add_zero];by_cases a:i<xs.length
  ·rw[gA a,aR a,fZ a]
  ·rw[fK (by omega),j6,if_pos (by omega),bV (by omega)]
 ·rw[fU (by rw[Z8];omega),fU (by rw[cY,dB];omega)]
def bzV(xs ys:List Int)(y:Int):x9 xs ys y ys.length=uG xs ys y:=by
 unfold x9 uG;refine List.map_congr_left (fun i _=> ?_);by_cases h:i<ys.length
 ·rw[if_pos h]
 ·rw[if_neg h,bV (l:=ys) (by omega),Int.zero_mul]
def bzW(xs ys:List Int)(y:Int)(j:Nat)(h:j<max xs.length ys.length):(x9 xs ys y j).set j (cf xs j+cf ys j*y)=x9 xs ys y (j+1):=by
 refine List.ext_getElem? (fun i=> ?_);by_cases a:i<max xs.length ys.length
 ·rw[cxW _ _ _ _ a];by_cases e:i=j
  ·subst e;rw[gP (by rw[Z8];exact a),if_pos (by omega)]
  ·rw[C5 (by omega),cxW _ _ _ _ a];by_cases b:i<j
   ·rw[if_pos b,if_pos (by omega)]
   ·rw[if_neg b,if_neg (by omega)]
 ·rw[fU (by rw[eM,Z8];omega),fU (by rw[Z8];omega)]
def bzX{xs ys:List Int}{y:Int}{K:Nat}(b:∀n∈xs,nl n.natAbs<=2*K)(c:∀n∈ys,nl n.natAbs<=K)(a:nl y.natAbs<=K):∀n∈uG xs ys y,nl n.natAbs<=2*K+1:=fun n hn=>by
 unfold uG at hn;obtain⟨i,_,rfl⟩:=List.mem_map.1 hn;exact wX _ _ _ (iU b i) (aH (gT _ _ _ _ (iU c i) a) (by omega))
def WholeAt.rows'{w:World}{A:Option Addr}{c:Nat}{a:List Int}(h:WholeAt w (.slice A a.length c) a):
  ∃rows:List (List Value),rows.length=a.length∧(∀r∈rows,r.length=2)∧Src w A rows.flatten∧IRow w rows a∧∀u∈rows.flatten,u.oneCell'=true:=by
 by_cases b:a=[]
 ·subst b;exact⟨[],rfl,(fun r k=>by cases k),.inl rfl,(fun i n hn=>by simp at hn),(fun u l=>by simp at l)⟩
 ·obtain⟨rows,d,m,e,f,g,j⟩:=h.rows b;exact⟨rows,d,e,f,g,j⟩
def bzY:(Tryz.prog.info? 44).map (·.size)=some 2:=by kernel_rfl
def bzZ(xs ys:List Int)(y:Int)(vx vy vn:Value)(w:World)(hx:WholeAt w vx xs)(hy:WholeAt w vy ys)(hn:IntAt w vn y)(K:Nat)(aq:∀n∈xs,nl n.natAbs<=2*K)(ar:∀n∈ys,nl n.natAbs<=K)(ap:nl y.natAbs<=K)(bu:2*K+4<=17592186044416)(b5:xs.length<=1073741824)(b6:ys.length<=1073741824):
  Calls prog 24 #[vx,vy,vn] w fun e w'=>∃g c,e= .returned (.slice (some ⟨g,0,none⟩) (aW aV (uG xs ys y)).length c)∧w.heap.size<g∧WholeAt w' (.slice (some ⟨g,0,none⟩) (aW aV (uG xs ys y)).length c) (aW aV (uG xs ys y))∧Below w.heap.size w w':=by
 obtain⟨A,c,rfl,hc⟩:=hx.form;obtain⟨A',c',rfl,bz⟩:=hy.form;obtain⟨J,D,I,E,rfl⟩:=hn.form;obtain⟨M,F⟩:∃M,max xs.length ys.length=M:=⟨_,rfl⟩;have bn:max (xs.length:Int) (ys.length:Int)=(M:Int):=by omega
 have av:xs.length<=M:=by omega
 have bv:ys.length<=M:=by omega
 have bw:M<=1073741824:=by omega
 have B1:Bx (w.alloc (.cells #[.bool J,.slice D I E] 44)) (w.heap.size) [.bool J,.slice D I E] 44:=Bx.newAt w [.bool J,.slice D I E] 44 (w.heap.size) (by simp);have h:Below w.heap.size w (w.alloc (.cells #[.bool J,.slice D I E] 44)):=(aG _ _).alloc (by simp) _;go_enter func24,ntmps24;obtain⟨R,af,ae,a9,a0,a3⟩:=hx.rows';have az:R.flatten.length<=(List.replicate M ([.bool false,.slice none 0 0]:List Value)).flatten.toArray.size:=by
  rw[mX ae,af,List.size_toArray,mX (k:=2) (fun r hr=>by rw[(List.mem_replicate.1 hr).2];rfl),dB];omega
 have a6:R.flatten.length=xs.length*2:=by rw[mX ae,af]
 have al:=aB az;have an:=aB a6;clear az a6
 go_wp2_with (first
  |(at_make;refine jT rfl rfl 44 _ 2 32 underlying41 p6 rfl (by decide) M rfl rfl (by first|rfl|omega) (by first|rfl|omega) (by omega) (by omega) ?_;intro w1 bs ad ac;rw[World.size_alloc] at ad;have a5:w1.heap[w.heap.size+1]? =some (.cells (List.replicate M ([.bool false,.slice none 0 0]:List Value)).flatten.toArray 44 (0,0)):=ad.1;have a7:=a9.be (aC h ac);have am:=aB a5;clear a5)
  |(with_reducible refine Y0 rfl (d:= .tmp 16) (s:= .tmp 17) rfl 44 2 (w.heap.size+1) M M A xs.length c _ 44 R.flatten underlying41 bzY (by decide) rfl rfl am.out an.out av a7 al.out a3 ?_;generalize aw:World.setRow w1 (w.heap.size+1) (R.flatten++(List.replicate M ([.bool false,.slice none 0 0]:List Value)).flatten.drop R.flatten.length).toArray=w2;have ao:=aB aw;clear aw))
 have ah:=aC h ac;obtain⟨Y,H⟩:=OwnW.copied (w:=w1) (g:=w.heap.size+1) (M:=M) ad ae af av (a0.ke (Keep.be ah));rw[ao.out] at Y H;have ak:=B1.be ac;have B2:Bx _ w.heap.size [.bool J,.slice D I E] 44:=(H.2.1 w.heap.size (by omega)).trans ak;have ay:=jD ah H (by omega);rw[<-F,<-bzU xs ys y] at Y;have au:=bx0 xs ys y;have bt:=aB F;have ag:Hid ((uG xs ys y).length=M):=by unfold Hid;rw[au];exact F
 have bh:Hid (∀j,(x9 xs ys y j).length=M):=fun j=>by rw[Z8];exact F
 have bg:Hid (∀j i,i<M->(x9 xs ys y j)[i]? =some (cf xs i+(if i<j then cf ys i*y else 0))):=fun j i hi=>cxW _ _ _ _ (by rw[F];exact hi);have bi:Hid (∀j,j<M->(x9 xs ys y j).set j (cf xs j+cf ys j*y)=x9 xs ys y (j+1)):=fun j hj=>bzW _ _ _ _ (by rw[F];exact hj);have bf:Hid (x9 xs ys y ys.length=uG xs ys y):=bzV _ _ _;have bj:Hid (∀n∈uG xs ys y,nl n.natAbs<=2*K+1):=bzX aq ar ap;clear F au bn ad bs ac H ak h B1 af ae a9 a0 a3 ah am an al a7 ao;go_wp2_with fail;go_loopg [21] ys.length (fun k i wr=>∃j,Hid (j+k=ys.length)∧i= .int .i64 j∧OwnW wr (w.heap.size+1) (x9 xs ys y j)∧Bx wr w.heap.size [.bool J,.slice D I E] 44∧Below w.heap.size w wr)
 case atStart=>exact⟨0,by unfold Hid;omega,rfl,Y,B2,ay⟩
 case round=>
  clear Y B2 ay;obtain⟨j,HJ,rfl,S,N,h⟩:=hrel;generalize wr=z at *;have b2:(0:Int)<=(j:Int):=by omega
  cases gk with
  |zero=>
   have hj:j=ys.length:=HJ.out;subst hj;rw[bf.out] at S;have a:=S.whole M (by rw[ag.out];exact aE);have ba:=Q9 (uG xs ys y) (some ⟨w.heap.size+1,0,none⟩) M z a (2*K+1) bj.out (by omega) (by rw[ag.out];omega);rw[ag.out] at ba;go_wp2_with fail;refine ba.mono ?_;rintro e5 w5 ⟨rfl,h5,bo⟩;go_wp2;go_ret;exact⟨w.heap.size+1,M,rfl,by omega,h5,aC h bo⟩
  |succ k=>
   have bp:j<ys.length:=by have:=HJ.out;omega
   have aj:j<M:=by omega
   have b3:(j:Int)<(ys.length:Int):=by omega
   have b4:(j:Int)<(M:Int):=by omega
   have ai:=bg.out j j aj;rw[if_neg (Nat.lt_irrefl j),Int.add_zero] at ai;have a1:j<(x9 xs ys y j).length:=by rw[bh.out];exact aj
   have a8:=bi.out j aj;obtain⟨b,s,B,l,d,rfl,bx,y0,y1,bb,bc⟩:=(hy.be h).get (i:=j) bp;have bY:=ar _ bc;have bX:=iU aq j;have bm:=gT (cf ys j) y _ _ bY ap;have a2:=fun W v u h1 h2=>jB (cf ys j) y v u W h1 h2 (by omega);have ax:=fun W v u h1 h2=>rJ (cf xs j) (cf ys j*y) v u W h1 h2 (by omega) (by omega);unfold dW at a2 ax;have bk:=aB a8;clear a8 bc bm;generalize cf xs j+cf ys j*y=nv at *;generalize cf ys j*y=mv at *;generalize cf xs j=ov at *;generalize cf ys j=yv at *;obtain⟨st,At,kt,ct,L,O,a4⟩:=S.at_ ai;have a:=S.lt;have q:=N.lt;have b0:z.heap.size≠w.heap.size+1:=by omega
   have f:Below z.heap.size z (z.alloc (.cells #[.bool s,.slice B l d] 44)):=(aG _ _).alloc aE _;have C:=Bx.new z [.bool s,.slice B l d] 44;have T:=C.cell 0 rfl;have U:=C.cell 1 rfl;have V:=(N.be f).cell 0 rfl;have X:=(N.be f).cell 1 rfl;replace L:=(f.cell (p:=⟨w.heap.size+1,j*2,none⟩) a).trans L;replace O:=(f.cell (p:=⟨w.heap.size+1,j*2+1,none⟩) a).trans O;have Q:=(a4.be f).drew;have bq:=((hn.be h).be f).drew;have br:=(bb.be f).drew;have t:=(S.be f).drew;have P:=(N.be f).drew;have G:=(aC h f).drew;replace a:=aZ a f.size;replace q:=aZ q f.size;have x:=C.lt;clear ai S N h bb a4;go_wp2_with fail;clear C f;generalize b1:z.heap.size=Z at *;generalize z.alloc (.cells #[.bool s,.slice B l d] 44)=wz at *
   go_region_with (first
     |(go_at_call 25;refine(a2 _ _ _ br bq).mono ?_;rintro e6 w6 ⟨v6,rfl,h6,m⟩;replace Q:=Q.be m;replace t:=t.be m;replace P:=P.be m;replace G:=aC G m;replace L:=(m.cell (p:=⟨w.heap.size+1,j*2,none⟩) a).trans L;replace O:=(m.cell (p:=⟨w.heap.size+1,j*2+1,none⟩) a).trans O;replace V:=(m.cell (p:=⟨w.heap.size,0,none⟩) q).trans V;replace X:=(m.cell (p:=⟨w.heap.size,1,none⟩) q).trans X;replace T:=(m.cell (p:=⟨Z,0,none⟩) x).trans T;replace U:=(m.cell (p:=⟨Z,1,none⟩) x).trans U;replace a:=aZ a m.size;replace q:=aZ q m.size;replace x:=aZ x m.size)
     |(go_at_call 50;refine(ax _ _ _ Q h6).mono ?_;rintro e7 w7 ⟨v7,rfl,h7,o⟩;obtain⟨s7,A7,k7,c7,rfl⟩:=h7.form;replace Q:=Q.be o;replace t:=t.be o;replace P:=P.be o;replace G:=aC G o;replace L:=(o.cell (p:=⟨w.heap.size+1,j*2,none⟩) a).trans L;replace O:=(o.cell (p:=⟨w.heap.size+1,j*2+1,none⟩) a).trans O;replace V:=(o.cell (p:=⟨w.heap.size,0,none⟩) q).trans V;replace X:=(o.cell (p:=⟨w.heap.size,1,none⟩) q).trans X;replace T:=(o.cell (p:=⟨Z,0,none⟩) x).trans T;replace U:=(o.cell (p:=⟨Z,1,none⟩) x).trans U;replace a:=aZ a o.size;replace q:=aZ q o.size;replace x:=aZ x o.size;have f0:=t.free (j*2);have f1:=t.free (j*2+1)))
   all_goals (
    go_wp2_with fail;have H:=(t.stored a1 h7).2;have zS:=(t.stored a1 h7).1;rw[bk.out] at zS;have zN:Bx _ w.heap.size [.bool J,.slice D I E] 44:=(H.2.1 w.heap.size (by omega)).trans P;have zb:=jD G H (by omega);go_roundg k
    case rel=>exact⟨j+1,by have:=HJ.out;unfold Hid;omega,by go_num,zS,zN,zb⟩
    case measure=>omega)
end Go.Proofs.YtapgbkldiinabaaGreatDoor
namespace Go.Proofs.YtapgbkldiinabaaGreatDoor
open Sos
def R5(a d:List Int)(c b:Int):List Int:=aW aV (uG (kC d a) (aW aV [c]) b)
def pD(a b:List Int)(E:Int):Nat->List Int
 |0=>[]
 |k+1=>R5 b (pD a b E k) (cf a (a.length-1-k)) (E^k)
def bzS(a b:List Int)(c e:Int):(R5 a b c e).length<=b.length+a.length+1:=by
 unfold R5;refine aH (oY _ _) ?_;rw[bx0];have f:(kC b a).length<=b.length+a.length:=by
  unfold kC;split
  ·simp
  ·rw[cH,List.length_range];omega
 have d:=oY aV [c];rw[iJ] at d;omega
def azR(b a:List Int)(E:Int)(hi:a.length<=65):∀k,(pD b a E k).length<=66*k
 |0=>aE
 |k+1=>by
  have c:=bzS a (pD b a E k) (cf b (b.length-1-k)) (E^k);have d:=azR b a E hi k;show(R5 _ _ _ _).length<=_
  omega
def aqY{c:Int}{K:Nat}(h:nl c.natAbs<=K):∀n∈aW aV [c],nl n.natAbs<=K:=fun n hn=>by
 have:=rC hn;rw[List.mem_singleton] at this;subst this;exact h
def aqZ{xs ys:List Int}{a b:Nat}(c:∀n∈xs,nl n.natAbs<=a)(d:∀n∈ys,nl n.natAbs<=b)(e:xs.length+ys.length<=1073741824):∀n∈kC xs ys,nl n.natAbs<=a+b+1:=fun n hn=>by
 unfold kC at hn;split at hn
 ·cases hn
 ·obtain⟨i,hi,rfl⟩:=List.mem_map.1 hn;exact K6 (iU c) (iU d) (by have:=List.mem_range.1 hi;omega)
def bzT{xs ys:List Int}{y:Int}{a b c:Nat}(e:∀n∈xs,nl n.natAbs<=a)(f:∀n∈ys,nl n.natAbs<=b)(d:nl y.natAbs<=c)(h:b+c<=a):∀n∈uG xs ys y,nl n.natAbs<=a+1:=fun n hn=>by
 unfold uG at hn;obtain⟨i,_,rfl⟩:=List.mem_map.1 hn;exact wX _ _ _ (iU e i) (aH (gT _ _ _ _ (iU f i) d) h)
def azS(E:Int)(k K:Nat)(h:nl E.natAbs<=K):nl (E^k).natAbs<=k*K+1:=by
 rw[Int.natAbs_pow];exact aH (X9 _ _) (Nat.add_le_add_right (eV _ h) 1)
def azT{c b:List Int}{E:Int}{K:Nat}(g:∀n∈c,nl n.natAbs<=K)(hi:∀n∈b,nl n.natAbs<=K)(d:nl E.natAbs<=K)(f:b.length<=65):∀k,k<=65->∀n∈pD c b E k,nl n.natAbs<=k*(2*K+4)
 |0,_,n,hn=>by cases hn
 |k+1,hk,n,hn=>by
  have l:=azT g hi d f k (by omega);have p:=azR c b E f k;have h:=aqZ l hi (by omega);have i:=azS E k K d;have e:(k+1)*(2*K+4)=k*(2*K+4)+2*K+4:=by rw[Nat.succ_mul];omega
  have m:k*(2*K+4)=2*(k*K)+4*k:=by rw[iL,Nat.mul_left_comm];omega
  have j:=bzT (a:=k*(2*K+4)+2*K+2) (fun n hn=>aH (h n hn) (by omega)) (aqY (iU g (c.length-1-k))) i (by omega);have o:=j n (rC hn);omega
end Go.Proofs.YtapgbkldiinabaaGreatDoor
namespace Go.Proofs.YtapgbkldiinabaaGreatDoor
open Go.RowKit Sos Tryz
def PX(n m:Nat):Bool:=decide (((n:Int)-1)*((m:Int)-1)<=64)
def bzQ{n m:Nat}(b:n≠0)(hn:n<=65)(d:m<=65): -65<=((n:Int)-1)*((m:Int)-1)∧((n:Int)-1)*((m:Int)-1)<=4096:=by
 obtain⟨p,rfl⟩:∃p,n=p+1:=⟨n-1,by omega⟩;have e:((p+1:Nat):Int)-1=(p:Int):=by omega
 rw[e];rcases iB m with h|h
 ·subst h;have a:(p:Int)*(((0:Nat):Int)-1)= -(p:Int):=by omega
  rw[a];omega
 ·obtain⟨q,rfl⟩:∃q,m=q+1:=⟨m-1,by omega⟩;have a:((q+1:Nat):Int)-1=(q:Int):=by omega
  rw[a,<-Int.natCast_mul];have c:p*q<=64*64:=Nat.mul_le_mul (by omega) (by omega);omega
def aqX(w:World)(a b:List (List UInt8))(c:Nat)(e:Ending)(w':World):Prop:=
 ∃v n T,e= .returned (.tuple #[v,.int .i64 n])∧StrsAt w' v T∧Below w.heap.size w w'∧
  (¬(vl a=true∧vl b=true)->n=1∧T=[])∧(vl a=true->vl b=true->a=[]->n=0∧T=[])∧(vl a=true->vl b=true->a≠[]->PX a.length b.length=false->n=2∧T=[])∧
  (vl a=true->vl b=true->a≠[]->PX a.length b.length=true->n=0∧∃D E,ComDen (aU a) D c∧ComDen (aU b) E c∧T=(eQ (pD (cC (aU a) D) (cC (aU b) E) E a.length) (D*E^(a.length-1))).map cW)
def bzR(a b:List (List UInt8))(va vb:Value)(w:World)(hG:Glob w)(ha:StrsAt w va a)(a9:StrsAt w vb b)(bv:a.length<=1073741824)(bw:b.length<=1073741824)(K:Nat)
  (bq:a.length<=65->∀l∈a,l.length<=1073741824)(br:b.length<=65->∀l∈b,l.length<=1073741824)(a6:a.length<=65->∀q∈aU a,RL K q)(a7:b.length<=65->∀q∈aU b,RL K q)(hK:K<=1024):
  Calls prog 7 #[va,vb] w (aqX w a b (1+65*K)):=by
 obtain⟨A,c,rfl,hc⟩:=ha.form;obtain⟨A',c',rfl,cm⟩:=a9.form;go_enter func7,ntmps7;go_wp2_with fail;refine(I8 a _ _ hG ha bv bq K (1+65*K) a6 aE (by unfold aJ;omega)).mono ?_;rintro e1 w1 ⟨v1,d4,xs,D,rfl,G,F,ap,ba⟩;obtain⟨A1,c1,rfl,du⟩:=G.form;obtain⟨s1,B1,k1,d1,rfl⟩:=F.form;go_wp2_with fail;have az:Below w1.heap.size w1 (w1.alloc (.cells #[.bool s1,.slice B1 k1 d1] 44)):=(aG _ _).alloc aE _;have X:=Bx.new w1 [.bool s1,.slice B1 k1 d1] 44;replace G:=G.be az;replace F:=F.be az;have m:=aC ba az;clear az;generalize cs:w1.heap.size=gx at *;generalize w1.alloc (.cells #[.bool s1,.slice B1 k1 d1] 44)=w2 at *;refine(I8 b _ _ (hG.be m) (a9.be m) bw br K (1+65*K) a7 aE (by unfold aJ;omega)).mono ?_;rintro e3 w3 ⟨v3,d5,ys,E,rfl,hy,hE,aq,am⟩;obtain⟨A3,c3,rfl,dv⟩:=hy.form;obtain⟨s3,B3,k3,d3,rfl⟩:=hE.form;replace X:=X.be am;replace G:=G.be am;replace F:=F.be am;replace m:=aC m am;have ch:=X.lt;cases hva:vl a with
 |false=>
  have S:Hid (vl a=false):=hva;clear hva ap aq;generalize vl b=ok;go_wp2_with fail
  all_goals (
   go_ret2;refine⟨_,1,[],rfl,StrsAt.nil _ _ _,m.alloc m.size _,(fun _=>⟨rfl,rfl⟩),(fun h=> ?_),(fun h=> ?_),(fun h=> ?_)⟩
   ·rw[S.out] at h;cases h
   ·rw[S.out] at h;cases h
   ·rw[S.out] at h;cases h)
 |true=>
  cases hvb:vl b with
  |false=>
   have S:Hid (vl b=false):=hvb;clear hva hvb ap aq;go_wp2;go_ret2;refine⟨_,1,[],rfl,StrsAt.nil _ _ _,m.alloc m.size _,(fun _=>⟨rfl,rfl⟩),(fun _ h=> ?_),(fun _ h=> ?_),(fun _ h=> ?_)⟩
   ·rw[S.out] at h;cases h
   ·rw[S.out] at h;cases h
   ·rw[S.out] at h;cases h
  |true=>
   obtain⟨rfl,af⟩:=ap hva;obtain⟨rfl,ag⟩:=aq hvb;obtain⟨p1, -,t1⟩:=pJ hva;obtain⟨p2, -,t2⟩:=pJ hvb;have a2:Hid (vl a=true∧vl b=true):=⟨hva,hvb⟩;have H:(cC (aU a) D).length=a.length:=by rw[oN];unfold aU;rw[cH]
   have ly:(cC (aU b) E).length=b.length:=by rw[oN];unfold aU;rw[cH]
   have bx:=sA _ D K _ (a6 p1) af.nl_;have bY:=sA _ E K _ (a7 p2) ag.nl_;have bD:=af.nl_;have bE:=ag.nl_;have HC:Hid (ComDen (aU a) D (1+65*K)∧ComDen (aU b) E (1+65*K)):=⟨af,ag⟩;have bh:Hid (∀T,T=(eQ (pD (cC (aU a) D) (cC (aU b) E) E a.length) (D*E^(a.length-1))).map cW->∃D E,ComDen (aU a) D (1+65*K)∧ComDen (aU b) E (1+65*K)∧T=(eQ (pD (cC (aU a) D) (cC (aU b) E) E a.length) (D*E^(a.length-1))).map cW):=fun T h=>⟨D,E,af,ag,h⟩;by_cases ae:a=[]
   ·have q0:(((cC (aU a) D).length:Int)==0)=true:=by rw[H,ae];rfl
    have HA:=aB ae;clear hva hvb ap aq af ag H ly ae ha bx bY;go_wp2;go_ret2;exact⟨_,0,[],rfl,StrsAt.nil _ _ _,m.alloc m.size _,(fun h=>absurd a2.out h),(fun _ _ _=>⟨rfl,rfl⟩),(fun _ _ h=>absurd HA.out h),(fun _ _ h=>absurd HA.out h)⟩
   ·have a8:a.length≠0:=fun e=>ae (cG e);have HA:=aB ae;have q0:(((cC (aU a) D).length:Int)==0)=false:=by rw[H];simp;omega
    obtain⟨bf,bg⟩:=bzQ a8 p1 p2;rw[<-H,<-ly] at bf bg;have au:Hid ((((cC (aU a) D).length:Int)-1)*(((cC (aU b) E).length:Int)-1)<=64->PX a.length b.length=true):=fun h=>by unfold PX;rw[<-H,<-ly];exact decide_eq_true h
    have ar:Hid (¬(((cC (aU a) D).length:Int)-1)*(((cC (aU b) E).length:Int)-1)<=64->PX a.length b.length=false):=fun h=>by unfold PX;rw[<-H,<-ly];exact decide_eq_false h
    have bi:Hid (∀T,T=(eQ (pD (cC (aU a) D) (cC (aU b) E) E (cC (aU a) D).length) (D*E^((cC (aU a) D).length-1))).map cW->∃D E,ComDen (aU a) D (1+65*K)∧ComDen (aU b) E (1+65*K)∧T=(eQ (pD (cC (aU a) D) (cC (aU b) E) E a.length) (D*E^(a.length-1))).map cW):=fun T h=>bh.out T (by rw[h,H]);have dc:(cC (aU a) D).length<=65:=by rw[H];exact p1
    have b6:(cC (aU b) E).length<=65:=by rw[ly];exact p2
    have dt:(cC (aU a) D).length≠0:=by rw[H];exact a8
    clear hva hvb ap aq af ag H ly ae ha a9 t1 t2 a6 a7 bq br bv bw bh HC p1 p2 a8 hc cm ba cs;generalize cC (aU a) D=f at *;generalize cC (aU b) E=g at *;obtain⟨U,ak⟩:∃U,U=((f.length:Int)-1)*((g.length:Int)-1):=⟨_,rfl⟩;have c2:IntKind.i64.wrap (((f.length:Int)-1)*((g.length:Int)-1))=U:=by rw[ak];exact IntWalk.i64_in _ ⟨by omega,by omega⟩
    have c4:wrap64 (((f.length:Int)-1)*((g.length:Int)-1))=U:=by rw[ak];unfold wrap64;omega
    rw[<-ak] at bf bg au ar;have dh:=aB ak;clear ak;have Y:=Bx.new w3 [.bool s3,.slice B3 k3 d3] 44;by_cases bb:U<=64
    ·have bu:¬(64:Int)<U:=by omega
     have b8:=aB (au.out bb);clear au ar
     go_wp2_with (first
      |(go_at_call 20;(with_reducible refine(JO f.length c1 A1 _ (by omega)).mono ?_);rintro e4 w4 ⟨rfl,rfl⟩)
      |(go_at_call 20;(with_reducible refine(JO g.length c3 A3 _ (by omega)).mono ?_);rintro e4 w4 ⟨rfl,rfl⟩))
     have ad:Below w3.heap.size w3 (w3.alloc (.cells #[.bool s3,.slice B3 k3 d3] 44)):=(aG _ _).alloc aE _;replace G:=G.be ad;replace hy:=hy.be ad;replace F:=F.be ad;replace hE:=hE.be ad;replace X:=X.be ad;replace m:=aC m ad;clear ad c2 c4 bf bg bb bu am;generalize ct:w3.heap.size=gy at *;generalize w3.alloc (.cells #[.bool s3,.slice B3 k3 d3] 44)=w5 at *;refine(OA 1 w5 (by decide) (by decide)).mono ?_;rintro e6 t ⟨v6,rfl,h6,O⟩;obtain⟨s6,A6,k6,c6,rfl⟩:=h6.form;replace G:=G.be O;replace hy:=hy.be O;replace F:=F.be O;replace hE:=hE.be O;replace X:=X.be O;replace Y:=Y.be O;replace m:=aC m O;have dr:=X.lt;have ds:=Y.lt;clear O ct ch;have P0:=xC h6;have bp:Below t.heap.size t (t.alloc (.cells #[.bool s6,.slice A6 k6 c6] 44)):=(aG _ _).alloc aE _;have bn:=azT (E:=E) (K:=K+(1+65*K)) bx bY (aH bE (by omega)) b6;have bm:=azR f g E b6;have ay:Hid (∀j,j<=65->∀n∈pD f g E j,nl n.natAbs<=9000000):=fun j hj n hn=>aH (bn j hj n hn) (aH (dK _ hj) (by omega));have ax:=aB bm;have av:Hid (∀j,j<=65->nl (E^j).natAbs<=9000000):=fun j hj=>aH (azS E j (1+65*K) bE) (by have:j*(1+65*K)<=65*(1+65*K):=dK _ hj;omega);have a1:Hid (∀k j,j+(k+1)=f.length->aW aV (uG (kC (pD f g E j) g) (aW aV [cf f k]) (E^j))=pD f g E (j+1)):=fun k j h=>by
      show _=R5 g (pD f g E j) (cf f (f.length-1-j)) (E^j)
      rw[show f.length-1-j=k by omega];rfl
     clear bn bm;go_wp2_with (go_at_call 20;refine(JO f.length c1 A1 _ (by omega)).mono ?_;rintro e4 w4 ⟨rfl,rfl⟩);go_loopg [12,14] f.length (fun k rv iv wr=>∃j Ar cr,Hid (j+k=f.length)∧rv= .slice Ar (pD f g E j).length cr∧iv= .int .i64 ((k:Int)-1)∧WholeAt wr (.slice Ar (pD f g E j).length cr) (pD f g E j)∧(∀b,Ar=some ⟨b,0,none⟩->b≠t.heap.size)∧IntBx wr t.heap.size (E^(min j (f.length-1)))∧Below t.heap.size t wr)
     case atStart=>exact⟨0,none,0,by unfold Hid;omega,rfl,rfl,WholeAt.nil _ _ _,(fun b h=>by cases h),by rw[Nat.zero_min,Int.pow_zero];exact P0,bp⟩
     case round=>
      clear P0 bp;obtain⟨j,Ar,cr,HJ,rfl,rfl,Z,ck,P,C⟩:=hrel;generalize wr=wx at *;cases gk with
      |zero=>
       have hj:j=f.length:=HJ.out;subst hj;have e1:min f.length (f.length-1)=f.length-1:=by omega
       rw[e1] at P;obtain⟨R,L,Q,M,y,N⟩:=P;have bP:=av.out (f.length-1) (by omega);have bR:=ay.out f.length dc;have lR:=ax.out f.length;have cz:=fun W I J=>jB D (E^(f.length-1)) (.agg #[.bool s1,.slice B1 k1 d1]) (.agg #[.bool R,.slice L Q M]) W I J (by omega);have bM:=gT D (E^(f.length-1)) _ _ bD bP;have c5:=fun W u (hG:Glob W) I J=>X8 (pD f g E f.length) (D*E^(f.length-1)) (.slice Ar (pD f g E f.length).length cr) u W hG I J 9100000 (fun n hn=>aH (bR n hn) (by decide)) (by omega) (by decide) (by decide) (by omega);have b9:=aB (bi.out _ rfl);have di:=(X.be C).cell 0 rfl;have dj:=(X.be C).cell 1 rfl;have cb:=y.cell 0 rfl;have cd:=y.cell 1 rfl;have ci:=F.be C;replace m:=aC m C;have cy:¬(0:Int)<=((0:Nat):Int)-1:=by omega
       have bz:((0:Nat):Int)-1= -1:=by omega
       rw[bz];clear bR bM bP bi a1 ay av ax e1 cy bz ck;generalize E^(f.length-1)=EP at *;go_wp2_with fail;refine(cz _ ci N).mono ?_;rintro e7 z ⟨v7,rfl,h7,an⟩;obtain⟨s7,A7,k7,c7,rfl⟩:=h7.form;replace Z:=Z.be an;replace m:=aC m an;go_wp2_with fail;refine(c5 _ _ (hG.be m) Z h7).mono ?_;rintro e8 w8 ⟨v8,rfl,V,o⟩;go_wp2;go_ret2;refine⟨_,0,_,rfl,V,aC m o,(fun h=>absurd a2.out h),(fun _ _ h=>absurd h HA.out),(fun _ _ _ h=> ?_),(fun _ _ _ _=>⟨rfl,b9.out⟩)⟩;rw[b8.out] at h;cases h
      |succ k=>
       have cu:j+(k+1)=f.length:=HJ.out;have cx:k<f.length:=by omega
       have e0:((k+1:Nat):Int)-1=(k:Int):=by omega
       have k0:(0:Int)<=(k:Int):=by omega
       have dy:(k:Int)<(f.length:Int):=by omega
       have e1:min j (f.length-1)=j:=by omega
       rw[e1] at P;rw[e0];have ah:=a1.out k j cu;have ca:=aB ah;obtain⟨bo,s,B,l,d,rfl,cl,y0,y1,bs,bt⟩:=(G.be C).get (i:=k) cx;have bC:=bx _ bt;have bP:=av.out j (by omega);have bR:=ay.out j (by omega);have lR:=ax.out j;have b4:=fun A c W (h:WholeAt W (.slice A 1 c) [cf f k])=>show Calls prog 22 #[.slice A 1 c] W (fun e x=>e= .returned (.slice A (aW aV [cf f k]).length c)∧WholeAt x (.slice A (aW aV [cf f k]).length c) (aW aV [cf f k])∧Below W.heap.size W x) from Q9 [cf f k] A c W h (K+(1+65*K)) (fun n hn=>by rw[List.mem_singleton] at hn;subst hn;exact bC) (by omega) (by simp);have b3:=fun W I J=>byD (pD f g E j) g (.slice Ar (pD f g E j).length cr) (.slice A3 g.length c3) W I J 9000000 bR (fun n hn=>aH (bY n hn) (by omega)) (by unfold aJ;omega) (by omega) (by omega);have bT:=aqZ bR bY (by omega);have lT:(kC (pD f g E j) g).length<=1073741824:=by
        unfold kC;split
        ·simp
        ·rw[cH,List.length_range];omega
       obtain⟨R,L,Q,M,y,N⟩:=P;have bc:=fun W v Ac cc I J h3=>bzZ (kC (pD f g E j) g) (aW aV [cf f k]) (E^j) v (.slice Ac (aW aV [cf f k]).length cc) (.agg #[.bool R,.slice L Q M]) W I J h3 9100000 (fun n hn=>aH (bT n hn) (by omega)) (aqY (aH bC (by omega))) (by omega) (by omega) lT (aH (oY _ _) (by simp));rw[ah] at bc;have b0:=fun W I J=>jB (E^j) E (.agg #[.bool R,.slice L Q M]) (.agg #[.bool s3,.slice B3 k3 d3]) W I J (by omega);have b1:E^j*E=E^(j+1):=(gR E j).symm;rw[b1] at b0;have cq:=y.lt;have a5:Below wx.heap.size wx (wx.alloc (.cells #[.bool s,.slice B l d] 44)):=(aG _ _).alloc aE _;have hS:=WholeAt.single bs;clear ah bT bR bP bC bt a1 ay av ax b1 lT e1 ca bs;generalize c0:pD f g E j=RJ at *;generalize b2:pD f g E (j+1)=RK at *;have aw:=aB b2;clear c0 b2;generalize kC RJ g=TJ at *;generalize cn:aW aV [cf f k]=CK at *;clear cn;go_wp2_with fail;replace hS:=hS;refine(b4 _ _ _ hS).mono ?_;rintro e7 z ⟨rfl,hC,an⟩;have ao:=aC a5 an;replace C:=aC C ao;replace Z:=Z.be ao;have b5:=hy.be C;replace N:=N.be ao;replace y:=y.be ao;have cb:=y.cell 0 rfl;have cd:=y.cell 1 rfl;replace cq:=y.lt;clear a5 an ao hS b4 y0 y1 cl;by_cases cv:k=0
       ·have cw:¬(0:Int)<(k:Int):=by omega
        go_wp2_with fail;have ai:=y.lt;have KS:=aB (show∀x,Below z.heap.size z x->(x.cell? ⟨t.heap.size,0,none⟩=some (.bool R)∧x.cell? ⟨t.heap.size,1,none⟩=some (.slice L Q M)) from fun x hU=>⟨(hU.cell (p:=⟨t.heap.size,0,none⟩) ai).trans (y.cell 0 rfl),(hU.cell (p:=⟨t.heap.size,1,none⟩) ai).trans (y.cell 1 rfl)⟩)
        go_region_held3 (fun x=>x.cell? ⟨t.heap.size,0,none⟩=some (.bool R)∧x.cell? ⟨t.heap.size,1,none⟩=some (.slice L Q M))
         (exact KS.out _ (by with_reducible (repeat (first|exact aG _ _|refine ua ?_|refine ud ?_|refine ut ?_ o|refine ut ?_ r|refine us ?_ (by omega)))))
         (first
          |(go_at_call 23;(with_reducible refine(b3 _ (Z.be (by with_reducible (repeat (first|exact aG _ _|refine ua ?_|refine ud ?_|refine ut ?_ o|refine ut ?_ r|refine us ?_ (by omega))))) (b5.be (by with_reducible (repeat (first|exact aG _ _|refine ua ?_|refine ud ?_|refine ut ?_ o|refine ut ?_ r|refine us ?_ (by omega)))))).mono ?_);rintro e8 w8 ⟨v8,rfl,V,o⟩;have l8:=o.size;(try simp at l8);have a3:Below z.heap.size z w8:=(by with_reducible (repeat (first|exact aG _ _|refine ua ?_|refine ud ?_|refine ut ?_ o|refine ut ?_ r|refine us ?_ (by omega))));have da:=a3.size;obtain⟨A8,c8,rfl, -⟩:=V.form)
          |(go_at_call 24;(with_reducible refine(bc _ _ _ _ (V.be (by with_reducible (repeat (first|exact aG _ _|refine ua ?_|refine ud ?_|refine ut ?_ o|refine ut ?_ r|refine us ?_ (by omega))))) (hC.be (by with_reducible (repeat (first|exact aG _ _|refine ua ?_|refine ud ?_|refine ut ?_ o|refine ut ?_ r|refine us ?_ (by omega))))) (N.be (by with_reducible (repeat (first|exact aG _ _|refine ua ?_|refine ud ?_|refine ut ?_ o|refine ut ?_ r|refine us ?_ (by omega)))))).mono ?_);rintro e9 w9 ⟨g9,c9,rfl,co,h9,r⟩;have l9:=r.size;(try simp at l9);have a4:Below z.heap.size z w9:=(by with_reducible (repeat (first|exact aG _ _|refine ua ?_|refine ud ?_|refine ut ?_ o|refine ut ?_ r|refine us ?_ (by omega))));have db:=a4.size;have ac:Below z.heap.size z w9:=(by with_reducible (repeat (first|exact aG _ _|refine ua ?_|refine ud ?_|refine ut ?_ o|refine ut ?_ r|refine us ?_ (by omega))));have Z9:=y.be ac;skip))
        go_wp2_with fail;have zP:IntBx w9 t.heap.size (E^j):=⟨_,_,_,_,Z9,N.be ac⟩;have zb:=aC C ac;have e2:min (j+1) (f.length-1)=j:=by omega
        go_roundg k
        case rel=>exact⟨j+1,some ⟨g9,0,none⟩,c9,by unfold Hid;omega,by rw[aw.out],by rw[cv];rfl,by rw[aw.out];exact h9,(fun b e=>by injection e with e;injection e with e;omega),by rw[e2];exact zP,zb⟩
        case measure=>omega
       ·have cw:(0:Int)<(k:Int):=by omega
        go_wp2_with fail;have ai:=y.lt;have KS:=aB (show∀x,Below z.heap.size z x->(x.cell? ⟨t.heap.size,0,none⟩=some (.bool R)∧x.cell? ⟨t.heap.size,1,none⟩=some (.slice L Q M)) from fun x hU=>⟨(hU.cell (p:=⟨t.heap.size,0,none⟩) ai).trans (y.cell 0 rfl),(hU.cell (p:=⟨t.heap.size,1,none⟩) ai).trans (y.cell 1 rfl)⟩)
        go_region_held3 (fun x=>x.cell? ⟨t.heap.size,0,none⟩=some (.bool R)∧x.cell? ⟨t.heap.size,1,none⟩=some (.slice L Q M))
         (exact KS.out _ (by with_reducible (repeat (first|exact aG _ _|refine ua ?_|refine ud ?_|refine ut ?_ o|refine ut ?_ r|refine us ?_ (by omega)))))
         (first
          |(go_at_call 23;(with_reducible refine(b3 _ (Z.be (by with_reducible (repeat (first|exact aG _ _|refine ua ?_|refine ud ?_|refine ut ?_ o|refine ut ?_ r|refine us ?_ (by omega))))) (b5.be (by with_reducible (repeat (first|exact aG _ _|refine ua ?_|refine ud ?_|refine ut ?_ o|refine ut ?_ r|refine us ?_ (by omega)))))).mono ?_);rintro e8 w8 ⟨v8,rfl,V,o⟩;have l8:=o.size;(try simp at l8);have a3:Below z.heap.size z w8:=(by with_reducible (repeat (first|exact aG _ _|refine ua ?_|refine ud ?_|refine ut ?_ o|refine ut ?_ r|refine us ?_ (by omega))));have da:=a3.size;obtain⟨A8,c8,rfl, -⟩:=V.form)
          |(go_at_call 24;(with_reducible refine(bc _ _ _ _ (V.be (by with_reducible (repeat (first|exact aG _ _|refine ua ?_|refine ud ?_|refine ut ?_ o|refine ut ?_ r|refine us ?_ (by omega))))) (hC.be (by with_reducible (repeat (first|exact aG _ _|refine ua ?_|refine ud ?_|refine ut ?_ o|refine ut ?_ r|refine us ?_ (by omega))))) (N.be (by with_reducible (repeat (first|exact aG _ _|refine ua ?_|refine ud ?_|refine ut ?_ o|refine ut ?_ r|refine us ?_ (by omega)))))).mono ?_);rintro e9 w9 ⟨g9,c9,rfl,co,h9,r⟩;have l9:=r.size;(try simp at l9);have a4:Below z.heap.size z w9:=(by with_reducible (repeat (first|exact aG _ _|refine ua ?_|refine ud ?_|refine ut ?_ o|refine ut ?_ r|refine us ?_ (by omega))));have db:=a4.size;have ac:Below z.heap.size z w9:=(by with_reducible (repeat (first|exact aG _ _|refine ua ?_|refine ud ?_|refine ut ?_ o|refine ut ?_ r|refine us ?_ (by omega))));have Z9:=y.be ac;skip))
        have a0:=aC C ac;have Y9:=Y.be a0;have dk:=Y9.cell 0 rfl;have dl:=Y9.cell 1 rfl;have ce:=Z9.cell 0 rfl;have cg:=Z9.cell 1 rfl;have bk:=N.be ac;have cj:=hE.be a0;go_wp2_with fail;refine(b0 _ bk cj).mono ?_;rintro dq de ⟨d2,rfl,bj,al⟩;obtain⟨d0,df,dx,dp,rfl⟩:=bj.form;have aj:=Z9.be al;replace ce:=aj.cell 0 rfl;replace cg:=aj.cell 1 rfl;have dm:=aj.free 0;have dn:=aj.free 1;have dw:=al.size;go_wp2_with fail;obtain⟨zP,ah⟩:=IntBx.stored (w:=de) (b:=t.heap.size) ⟨_,_,_,_,aj,bk.be al⟩ bj;have zR:=(h9.be al).step ah (fun b e=>by injection e with e;injection e with e;omega);have zb:=jD (aC a0 al) ah aE;have e2:min (j+1) (f.length-1)=j+1:=by omega
        go_roundg k
        case rel=>exact⟨j+1,some ⟨g9,0,none⟩,c9,by unfold Hid;omega,by rw[aw.out],rfl,by rw[aw.out];exact zR,(fun b e=>by injection e with e;injection e with e;omega),by rw[e2];exact zP,zb⟩
        case measure=>omega
    ·have bu:(64:Int)<U:=by omega
     have b7:=aB (ar.out bb);clear au ar
     go_wp2_with (first
      |(go_at_call 20;(with_reducible refine(JO f.length c1 A1 _ (by omega)).mono ?_);rintro e4 w4 ⟨rfl,rfl⟩)
      |(go_at_call 20;(with_reducible refine(JO g.length c3 A3 _ (by omega)).mono ?_);rintro e4 w4 ⟨rfl,rfl⟩))
     go_ret2;refine⟨_,2,[],rfl,StrsAt.nil _ _ _,m.alloc m.size _,(fun h=>absurd a2.out h),(fun _ _ h=>absurd h HA.out),(fun _ _ _ _=>⟨rfl,rfl⟩),(fun _ _ _ h=> ?_)⟩;rw[b7.out] at h;cases h
end Go.Proofs.YtapgbkldiinabaaGreatDoor
namespace Go.Proofs.YtapgbkldiinabaaGreatDoor
open Sos
def rY:RL 1 (1:Rat):=⟨cJ (m:=1) (by unfold BN;decide),cJ (m:=1) (by unfold BN;decide)⟩
end Go.Proofs.YtapgbkldiinabaaGreatDoor
namespace Go.Proofs.YtapgbkldiinabaaGreatDoor
open Go.RowKit Sos
def VR{a:List (List UInt8)}(h:¬a.length<=65):vl a=false:=by unfold vl;rw[jA];exact fun b=>h b.1
def VS(a:List (List UInt8)):(aU a).length=a.length:=cH _
end Go.Proofs.YtapgbkldiinabaaGreatDoor
namespace Go.Proofs.YtapgbkldiinabaaGreatDoor
def aD:Nat:=4294967296
def mV:0<aD:=by decide
def nv:List Nat->Nat
 |[]=>0
 |d :: l=>d+aD*nv l
def Dg(l:List Nat):Prop:=∀d∈l,d<aD
def rB:nv []=0:=rfl
def mF(l m:List Nat):nv (l++m)=nv l+aD^l.length*nv m:=by
 induction l with
 |nil=>simp[nv]
 |cons d l a=>
  rw[List.cons_append,nv,nv,a,List.length_cons,Nat.pow_succ,Nat.mul_add,Nat.mul_comm (aD^l.length) aD,Nat.mul_assoc];omega
def NV(n:Nat):nv (List.replicate n 0)=0:=by
 induction n with
 |zero=>rfl
 |succ n a=>rw[List.replicate_succ,nv,a];rfl
def nO{l:List Nat}(h:Dg l):nv l<aD^l.length:=by
 induction l with
 |nil=>simp[nv]
 |cons d l e=>
  have a:=e (fun x c=>h x (List.mem_cons_of_mem _ c));have f:=h d List.mem_cons_self;rw[nv,List.length_cons,Nat.pow_succ,Nat.mul_comm];have b:(nv l+1)*aD<=aD^l.length*aD:=Nat.mul_le_mul_right _ a;rw[Nat.add_mul] at b;omega
def NW{l:List Nat}{i d:Nat}(h:l[i]? =some d):nv (l.take (i+1))=nv (l.take i)+aD^i*d:=by
 have a:=(List.getElem?_eq_some_iff.1 h).1;rw[List.take_succ_eq_append_getElem a,mF,nv,rB,Nat.mul_zero,Nat.add_zero,List.length_take,Nat.min_eq_left (Nat.le_of_lt a)];rw[List.getElem?_eq_getElem a] at h;injection h with h;rw[h]
def zM{l:List Nat}{i d:Nat}(h:l[i]? =some d):nv (l.drop i)=d+aD*nv (l.drop (i+1)):=by
 have a:=(List.getElem?_eq_some_iff.1 h).1;rw[List.drop_eq_getElem_cons a,nv];rw[List.getElem?_eq_getElem a] at h;injection h with h;rw[h]
def Dg.set{l:List Nat}(h:Dg l)(i:Nat){x:Nat}(c:x<aD):Dg (l.set i x):=fun d b=>by
 rcases List.mem_or_eq_of_mem_set b with a|a
 ·exact h d a
 ·rw[a];exact c
def Dg.zeros(n:Nat):Dg (List.replicate n 0):=fun d a=>by rw[(List.mem_replicate.1 a).2];exact mV
def Dg.take{l:List Nat}(h:Dg l)(n:Nat):Dg (l.take n):=fun d a=>h d (List.mem_of_mem_take a)
def Dg.get{l:List Nat}(h:Dg l){i d:Nat}(hi:l[i]? =some d):d<aD:=h d (List.mem_of_getElem? hi)
def Dg.trim{l:List Nat}(h:Dg l):Dg (aW aV l):=fun d a=>h d (rC a)
def EZ(l:List Nat):nv (aW aV l)=nv l:=by
 obtain⟨m,b,c, -⟩:=pZ aV l;have i:nv m=0:=by
  clear b;induction m with
  |nil=>rfl
  |cons d m j=>
   have h:=c d List.mem_cons_self;have f:d=0:=by simpa [aV] using h
   rw[nv,j (fun a g=>c a (List.mem_cons_of_mem _ g)),f];rfl
 have e:=mF (aW aV l) m;rw[<-b,i,Nat.mul_zero,Nat.add_zero] at e;exact e.symm
def azV{l:List Nat}(b:aN l)(a:l≠[]):aD^(l.length-1)<=nv l:=by
 obtain⟨m,d,rfl⟩:∃m d,l=m++[d]:=⟨l.dropLast,l.getLast a,(List.dropLast_concat_getLast a).symm⟩;have c:d≠0:=b d (by simp);rw[mF,nv,rB,Nat.mul_zero,Nat.add_zero,List.length_append,List.length_singleton,Nat.add_sub_cancel];have:aD^m.length*1<=aD^m.length*d:=Nat.mul_le_mul_left _ (by omega);omega
def vI{a b:List Nat}(d:Dg a)(f:aN b)(h:a.length<b.length):nv a<nv b:=by
 have c:b≠[]:=fun e=>by rw[e] at h;simp at h
 have g:=nO d;have i:=azV f c;have j:aD^a.length<=aD^(b.length-1):=Nat.pow_le_pow_right mV (by omega);omega
def bqG{l:List Nat}(b:aN l)(h:nv l=0):l=[]:=by
 by_cases a:l=[]
 ·exact a
 ·have:=azV b a;have c:0<aD^(l.length-1):=Nat.pow_pos mV;omega
def F0{a b:List Nat}(j:Dg a)(n:Dg b){i x y:Nat}(d:a[i]? =some x)(l:b[i]? =some y)(o:a.length=b.length)(k:a.drop (i+1)=b.drop (i+1))(h:x<y):nv a<nv b:=by
 have c:=(List.getElem?_eq_some_iff.1 d).1;have e:nv a=nv (a.take i)+aD^i*(x+aD*nv (a.drop (i+1))):=by
  rw[<-zM d];conv=>lhs;rw[<-List.take_append_drop i a,mF,List.length_take,Nat.min_eq_left (Nat.le_of_lt c)]
 have f:nv b=nv (b.take i)+aD^i*(y+aD*nv (b.drop (i+1))):=by
  rw[<-zM l];conv=>lhs;rw[<-List.take_append_drop i b,mF,List.length_take,Nat.min_eq_left (by omega)]
 have g:=nO (j.take i);rw[List.length_take,Nat.min_eq_left (Nat.le_of_lt c)] at g;rw[e,f,k];have m:aD^i*(x+aD*nv (b.drop (i+1)))+aD^i<=aD^i*(y+aD*nv (b.drop (i+1))):=by
  rw[<-Nat.mul_succ];exact Nat.mul_le_mul_left _ (by omega)
 omega
def zO{x y s:Nat}(a:x<2^s):2^s*y ||| x=2^s*y+x:=(Nat.two_pow_add_eq_or_of_lt a y).symm
