/- Laws. -/
import Derived.Test.YtjgbleapffgbcaaGreatDoorV26
set_option linter.all false
set_option maxHeartbeats 8000000
set_option maxRecDepth 99999
namespace Go.Proofs.YtjgbleapffgbcaaGreatDoor
open Go.RowKit Sos Tryz
variable{w w':World}{v:Value}{l:List (List UInt8×List UInt8)}{A:Option Addr}{c g i n z:Nat}
def jG(p:List UInt8×List UInt8):List Value:=[.string ⟨p.1.toArray⟩,.string ⟨p.2.toArray⟩]
def IvsAt(w:World)(v:Value)(l:List (List UInt8×List UInt8)):Prop:=∃A c,v= .slice A l.length c∧l.length<=c∧(l=[]∨∃b,A=some ⟨b,0,none⟩∧b<w.1.size∧∀(i:Nat) (p:List UInt8×List UInt8),l[i]? =some p->w.cell? ⟨b,i*2,none⟩=some (.string ⟨p.1.toArray⟩)∧w.cell? ⟨b,i*2+1,none⟩=some (.string ⟨p.2.toArray⟩))
def IvsAt.be(h:IvsAt w v l)(a:Below w.1.size w w'):IvsAt w' v l:=by
 obtain⟨A,c,hv,g,h⟩:=h;refine⟨A,c,hv,g,?_⟩;rcases h with h|⟨b,e,d,f⟩
 ·exact .inl h
 ·exact .inr ⟨b,e,aZ d a.size,fun i p h=>⟨(a.cell (p:=⟨b,i*2,none⟩) d).trans (f i p h).1,(a.cell (p:=⟨b,i*2+1,none⟩) d).trans (f i p h).2⟩⟩
def IvsAt.form(h:IvsAt w v l):∃A c,v= .slice A l.length c∧l.length<=c:=by
 obtain⟨A,c,hv,a,_⟩:=h;exact⟨A,c,hv,a⟩
def IvsAt.at_(h:IvsAt w (.slice A n c) l){p:List UInt8×List UInt8}(hi:l[i]? =some p):∃b,A=some ⟨b,0,none⟩∧b<w.1.size∧w.cell? ⟨b,i*2,none⟩=some (.string ⟨p.1.toArray⟩)∧w.cell? ⟨b,i*2+1,none⟩=some (.string ⟨p.2.toArray⟩):=by
 obtain⟨f,g,e,j,h⟩:=h;simp only[Value.slice.injEq] at e;obtain⟨rfl,rfl,rfl⟩:=e;rcases h with rfl|⟨b,e,d,a⟩
 ·simp at hi
 ·exact⟨b,e,d,(a i p hi).1,(a i p hi).2⟩
def GrowD.ivs(h:GrowD w g 38 2 v (l.map jG)):IvsAt w v l:=by
 obtain⟨A,c,rfl,d⟩:=h.form;rw[cH] at d;refine⟨A,c,by rw[cH],d,?_⟩;cases l with
 |nil=>exact .inl rfl
 |cons m l=>
  obtain⟨b,e, -,k, -⟩:=h.at_ (i:=0) (r:=jG m) rfl;refine .inr ⟨b,e,k,fun i p j=> ?_⟩;obtain⟨n,a, -, -,f⟩:=h.at_ (i:=i) (r:=jG p) (by rw[iK,j];rfl);rw[e] at a;simp only[Option.some.injEq,Addr.mk.injEq] at a;obtain⟨rfl,_⟩:=a;exact⟨f 0 _ rfl,f 1 _ rfl⟩
def IvsAt.built(w:World)(l:List (List UInt8×List UInt8))(t:TypeId):IvsAt (w.alloc (.cells (l.map jG).flatten.toArray t)) (.slice (some ⟨w.1.size,0,none⟩) l.length l.length) l:=by
 refine⟨_,_,rfl,aE,.inr ⟨w.1.size,rfl,by simp,fun i p e=> ?_⟩⟩;have B:=Bx.new w (l.map jG).flatten t;have b:∀r∈l.map jG,r.length=2:=fun r a=>by
  obtain⟨q, -,rfl⟩:=List.mem_map.1 a;rfl
 have a:(l.map jG)[i]? =some (jG p):=by rw[iK,e];rfl
 have c:=mW b a (j:=0) (by decide);have d:=mW b a (j:=1) (by decide);exact⟨B.cell (i*2) c,B.cell (i*2+1) d⟩
def LP(a:List (List UInt8×List UInt8))(l m:Value)(w:World)(g:IvsAt w l a)(h:IvsAt w m a)(F:a.length<=1073741824):
  Calls prog 24 #[l,m] w fun e w'=>e= .returned (.bool true)∧Below w.1.size w w':=by
 obtain⟨A,c,rfl,B⟩:=g.form;obtain⟨r,u,rfl,C⟩:=h.form;go_enter func24,ntmps24;go_wp2_with fail;go_loopg [5] a.length (fun k i wr=>∃j,Hid (j+k=a.length)∧i= .int .i64 j∧Below w.1.size w wr)
 case atStart=>exact⟨0,by unfold Hid;omega,rfl,aG _ _⟩
 case round=>
  obtain⟨j,d,rfl,b⟩:=hrel;generalize wr=K at *;have D:(0:Int)<=(j:Int):=by omega
  cases gk with
  |zero=>
   have o:j=a.length:=d.out;subst o;go_wp2;go_ret;exact⟨rfl,b⟩
  |succ k=>
   have q:j<a.length:=by have:=d.out;omega
   have E:(j:Int)<(a.length:Int):=by omega
   obtain⟨p,f⟩:∃p,a[j]? =some p:=⟨_,aR q⟩;obtain⟨s,rfl,G,v,x⟩:=(g.be b).at_ f;obtain⟨t,rfl,H,y,z⟩:=(h.be b).at_ f;have n:=b.drew;generalize (⟨p.1.toArray⟩:ByteArray)=I at *;generalize (⟨p.2.toArray⟩:ByteArray)=J at *;clear f;go_wp2_with fail;go_region
   all_goals (
    go_wp2;go_roundg k
    case rel=>exact⟨j+1,by have:=d.out;unfold Hid;omega,by go_num,n⟩
    case measure=>omega)
def LQ:(Tryz.prog.info? 38).map (fun i=>(i.zero,i.size,i.bytes))=some (some (.agg #[.string ⟨#[]⟩,.string ⟨#[]⟩]),2,32):=by kernel_rfl
def LR(n:Nat):∀y∈Builtin.zeroCells (Value.agg #[.string ⟨#[]⟩,.string ⟨#[]⟩]).cells n,NoInt y:=fun y b=>by
 unfold Builtin.zeroCells at b;obtain⟨j,_,rfl⟩:=Array.mem_map.1 b;have a:(Value.agg #[.string ⟨#[]⟩,.string ⟨#[]⟩]).cells= #[Value.string ⟨#[]⟩,.string ⟨#[]⟩]:=rfl;rw[a];have a:(#[Value.string ⟨#[]⟩,.string ⟨#[]⟩]:Array Value).size=2:=rfl;rw[a];rcases(show j%2=0∨j%2=1 by omega) with h|h<;>rw[h]
 ·exact NoInt.string _
 ·exact NoInt.string _
def RowSp.get{l:List (Rat×Rat)}(h:RowSp w z (.slice A n c) l){p:Rat×Rat}(hi:l[i]? =some p):∃b s1 d r k v f s m x g t o y j u q,A=some ⟨b,0,none⟩∧b<w.1.size∧
  (w.cell? ⟨b,i*8,none⟩=some (.bool s1)∧w.cell? ⟨b,i*8+1,none⟩=some (.slice d r k)∧w.cell? ⟨b,i*8+2,none⟩=some (.bool v)∧w.cell? ⟨b,i*8+3,none⟩=some (.slice f s m)∧w.cell? ⟨b,i*8+4,none⟩=some (.bool x)∧w.cell? ⟨b,i*8+5,none⟩=some (.slice g t o)∧w.cell? ⟨b,i*8+6,none⟩=some (.bool y)∧w.cell? ⟨b,i*8+7,none⟩=some (.slice j u q))∧
  SpanAt w (.agg #[.bool s1,.slice d r k,.bool v,.slice f s m,.bool x,.slice g t o,.bool y,.slice j u q]) p.1 p.2:=by
 obtain⟨H,C,D⟩:=h;obtain⟨s1,d,r,k,v,f,s,m,x,g,t,o,y,j,u,q,e,F,G⟩:=D.2 i p hi;obtain⟨b,B, -,E,a⟩:=C.at_ e;exact⟨b,s1,d,r,k,v,f,s,m,x,g,t,o,y,j,u,q,B,E,⟨a 0 _ rfl,a 1 _ rfl,a 2 _ rfl,a 3 _ rfl,a 4 _ rfl,a 5 _ rfl,a 6 _ rfl,a 7 _ rfl⟩,SpanAt.of F G⟩
def SpanAt.be{x y:Rat}(h:SpanAt w v x y)(a:Below w.1.size w w'):SpanAt w' v x y:=by
 obtain⟨q,d,m,i,r,e,n,j,s,f,o,k,t,g,p,l,rfl,b,c⟩:=h;exact SpanAt.of (b.be a) (c.be a)
def m8(p:Rat×Rat):List UInt8×List UInt8:=(cW p.1,cW p.2)
def exX{A:List Rat}(c:∀q∈A,RL 1 q)(e:A.length<=7)(t:aN A)(D:Int)(B:Nat)(d:ComDen A D B):∀n∈aS (cC A D),nl n.natAbs<=9:=by
 by_cases a:A=[]
 ·subst a;exact fun n hn=>by cases hn
 obtain⟨E,b⟩:=dyK c;rw[exD d b t a];exact gU (fun n hn=>aH (sA _ E 1 _ c b.nl_ n hn) (by omega))
def exY(d:List (List UInt8))(O n K:Nat)(P:List (Rat×Rat)->Prop)(v:Value)(w:World)(g:Glob w)(hv:StrsAt w v d)(hl:d.length<=7)(hs:∀l∈d,l.length<=1073741824)(af:∀q∈aU d,RL O q)(bn:O<=16)(ar:aN (aU d)->∀D B,ComDen (aU d) D B->∀n∈aS (cC (aU d) D),nl n.natAbs<=9)(ad:vl d=true->d≠[]->Pw (jF (aU d)) n)(hn:n<=40000)(a9:110079<=K)(aq:K<=1073741824)(DA:Rat->Rat->Prop)(hA:uN K DA)(J:∀l,P l->l.length<=1048576∧∀p∈l,RL K p.1∧RL K p.2)
  (V:∀w s c,Prp (aU d) w->CnZ w s c->∃l,ExK K DA (fun x=>aY 0 ((s :: c).map (fun a=>aP a 0 x))) (fun x=>aP s 0 x) (((-((2:Int)^n):Int)):Rat) ((((2:Int)^n:Int)):Rat) l∧P l):
  Calls prog 11 #[v] w fun e w'=>∃v' l,e= .returned (.tuple #[v',.int .i64 (dM d)])∧(dM d=0->P l)∧(dM d≠0->l=[])∧IvsAt w' v' (l.map m8)∧Below w.1.size w w':=by
 obtain⟨A,c,rfl,hc⟩:=hv.form;have C:=fun W g h=>dyQ d O (.slice A d.length c) W g h hl hs af (by omega);have a3:(aU d).length=d.length:=cH _;have U:=uL d;unfold Y5 at C;obtain⟨E,hE⟩:∃E,dM d=E:=⟨_,rfl⟩;rw[hE] at C U⊢;clear hE;go_enter func11,ntmps11;go_wp2_with fail;refine(C _ g hv).mono ?_;rintro e1 w1 ⟨H,k1,I,bw,rfl,⟨s2,N,k2,Q,rfl⟩,ac,f⟩;obtain⟨w2,r,ah,F⟩:=bI w1 [.bool s2,.slice N k2 Q] 60;replace f:=aC f ah;rcases U with ⟨rfl,L,h0⟩|⟨rfl, -⟩|⟨rfl, -, -⟩;rotate_left
 ·skip;clear ac C V J;go_wp2_with fail;(try rw[r]);(try clear r);go_ret2;exact⟨_,[],rfl,fun h=>absurd h (by decide),fun _=>rfl,⟨_,_,rfl,aE,.inl rfl⟩,f⟩
 ·skip;clear ac C V J;go_wp2_with fail;(try rw[r]);(try clear r);go_ret2;exact⟨_,[],rfl,fun h=>absurd h (by decide),fun _=>rfl,⟨_,_,rfl,aE,.inl rfl⟩,f⟩
 replace ad:=ad L h0;obtain⟨D, -, -,y,m, -⟩:=ac rfl;replace m:=m.be ah;have a1:(cC (aU d) D).length=d.length:=by rw[oN,a3]
 have Y:cC (aU d) D≠[]:=fun e=>h0 (bX (by rw[<-a1,e];rfl));have ae:=oO y.pos y.dvd (pJ L).2.2;have Z:=sA _ D O _ af y.nl_;have al:=uE y (pJ L).2.2;have a2:=nM al;have ay:=czJ al ae Y;have an:=(IY Z (by omega)).1;have ao:=ar (pJ L).2.2 D _ y;have a6:(aS (cC (aU d) D)).length<=7:=by rw[dF];omega
 obtain⟨A8,c8,e8, -⟩:=m.form;simp only[Value.slice.injEq] at e8;obtain⟨rfl,rfl,rfl⟩:=e8;have a4:=fun W g h=>dxZ (cC (aU d) D) _ (.slice H (cC (aU d) D).length I) W g h ae Y (by omega) Z (by omega) ao;have T:=fun W g h=>UK (cC (aU d) D) (.slice H (cC (aU d) D).length I) W g h Y ae _ Z (by omega) (by omega) (by omega);rw[ay] at T an
 have aj:=fun s u u' W g h h' (o:Sqp 24057 (aS (cC (aU d) D)) s) (M:Sz s)=>ay8 s (jF (aU d)) n K P u u' W g h h' o.ts o.ne M ad hn (bU an (by omega)) a9 aq DA hA (fun c hc=>by
  obtain⟨l,h1,h2⟩:=V _ s c a2 ⟨⟨o.mono (by decide),hc⟩,o,M,a6,ao⟩;exact⟨l,h1,(J l h2).1,h2⟩)
 unfold iF at T;unfold DT at aj;clear C ac y a1 Y ae Z al a2 ay an V ad af a3 h0 L F ah ao a6 ar hs;generalize cC (aU d) D=ns at *;generalize jF (aU d)=bq at *;go_wp2_with fail;(try rw[r]);(try clear r);refine(a4 _ (g.be f) m).mono ?_;rintro e3 w3 ⟨v3,s,rfl,S,o,M,au⟩;replace m:=m.be au;replace f:=aC f au;have a0:=fun u' W g h h'=>aj s v3 u' W g h h' o M;clear aj a4;go_wp2_with fail;refine(T _ (g.be f) m).mono ?_;rintro e4 w4 ⟨v4,rfl,h4,av⟩;replace S:=S.be av;replace f:=aC f av;go_wp2_with fail;refine(a0 _ _ (g.be f) S h4).mono ?_;rintro e5 w5 ⟨v5,bk,l,rfl,ag,h5,ba⟩;obtain⟨bu,bg⟩:=J l ag;have a7:=aB ag;clear ag J;replace f:=aC f ba;obtain⟨A5,c5,rfl,bp⟩:=h5.form;clear a0 T o M S h4 m;go_wp2_with fail;go_loopg [7,25] l.length (fun k vf i wr=>∃j,Hid (j+k=l.length)∧i= .int .i64 j∧GrowD wr w5.1.size 38 2 vf (((l.take j).map m8).map jG)∧Below w5.1.size w5 wr)
 case atStart=>exact⟨0,by unfold Hid;omega,rfl,GrowD.nil,aG _ _⟩
 case round=>
  obtain⟨j,HJ,rfl,z,G⟩:=hrel;generalize wr=wy at *;have br:(0:Int)<=(j:Int):=by omega
  have ax:=aC f G;obtain⟨Af,nf,bm,rfl⟩:=z.form3;cases gk with
  |zero=>
   have hj:j=l.length:=HJ.out;subst hj;rw[aq9] at z;have hI:=z.ivs;clear z;go_wp2;go_ret2;exact⟨_,rfl,l,a7.out,hI,ax⟩
  |succ k=>
   have bf:j<l.length:=by have:=HJ.out;omega
   have bs:(j:Int)<(l.length:Int):=by omega
   obtain⟨p,hp⟩:∃p,l[j]? =some p:=⟨_,aR bf⟩;obtain⟨b,s1,H,k1,I,s2,N,k2,Q,s3,A3,k3,c3,s4,A4,k4,c4,rfl,bo,U,bi⟩:=(h5.be G).get hp;have ak:=bg p (dG hp);have a5:=fun W g h=>ZX p.1 p.2 (.agg #[.bool s1,.slice H k1 I,.bool s2,.slice N k2 Q,.bool s3,.slice A3 k3 c3,.bool s4,.slice A4 k4 c4]) W g h K ak.1 ak.2 aq;have a8:Hid (((l.take (j+1)).map m8).map jG=((l.take j).map m8).map jG++[[.string ⟨(cW p.1).toArray⟩,.string ⟨(cW p.2).toArray⟩]]):=by
    unfold Hid;rw[Q9,hp,aqO,aq7,aq7];rfl
   have bb:(((l.take j).map m8).map jG).length<=1073741824:=by rw[cH,cH,bK];omega
   generalize ((l.take j).map m8).map jG=R at *;generalize (⟨(cW p.1).toArray⟩:ByteArray)=tx at *;generalize (⟨(cW p.2).toArray⟩:ByteArray)=ty at *;clear hp ak;obtain⟨w6,e6,t,X⟩:=bI wy [.bool s1,.slice H k1 I,.bool s2,.slice N k2 Q,.bool s3,.slice A3 k3 c3,.bool s4,.slice A4 k4 c4] 85;have cX:=X.k8;go_wp2_with fail;(try rw[e6]);(try clear e6);refine(a5 _ ((g.be ax).be t) (bi.be t)).mono ?_;rintro e7 w7 ⟨rfl,ai⟩;have aw:Below w7.1.size w7 (w7.alloc (.cells #[.string tx,.string ty] 38)):=(aG _ _).alloc aE _;have az:=((z.be t).be ai).be aw;have am:=((aC G t).trans (ai.mono (aH G.size t.size))).trans (aw.mono (aH G.size (aH t.size ai.size)));have XB:=Bx.new w7 [.string tx,.string ty] 38;have bh:∀u∈[Value.string tx,.string ty],NoInt u∧u.oneCell'=true:=fun u hu=>by
    simp at hu;rcases hu with rfl|rfl
    ·exact⟨NoInt.string _,rfl⟩
    ·exact⟨NoInt.string _,rfl⟩
   clear z a5 X cX U;go_wp2_with (at_builtin;refine yE rfl rfl 38 2 32 _ underlying31 LQ rfl LR (by decide) (by decide) rfl az rfl XB rfl bh bb am.size ?_;intro v8 w8 ap bt bc bv);have bj:=am.trans (az.left bc am.size);rw[<-a8.out] at ap;go_roundg k
   case rel=>exact⟨j+1,by have:=HJ.out;unfold Hid;omega,by go_num,ap,bj⟩
   case measure=>omega
def LT(b:List (List UInt8))(n K:Nat)(P:List (Rat×Rat)->Prop)(v:Value)(w:World)(m:Glob w)(hv:StrsAt w v b)(d:b.length<=7)(i:∀l∈b,l.length<=6)(y:vl b=true->b≠[]->Pw (jF (aU b)) n)(hn:n<=1000)(o:110079<=K)(r:K<=1073741824)(f:Rat->Rat->Prop)(k:uN K f)(t:∀l,P l->l.length<=1048576∧∀p∈l,RL K p.1∧RL K p.2)
  (u:∀w s c,Prp (aU b) w->CnZ w s c->∃l,ExK K f (fun x=>aY 0 ((s :: c).map (fun a=>aP a 0 x))) (fun x=>aP s 0 x) (((-((2:Int)^n):Int)):Rat) ((((2:Int)^n:Int)):Rat) l∧P l):
  Calls prog 11 #[v] w fun e w'=>∃j l,e= .returned (.tuple #[j,.int .i64 (dM b)])∧(dM b=0->P l)∧(dM b≠0->l=[])∧IvsAt w' j (l.map m8)∧Below w.1.size w w':=
 have g:∀q∈aU b,RL 1 q:=pI (fun l d=>aH (i l d) (by decide))
 exY b 1 n K P v w m hv d (fun l h=>aH (i l h) (by decide)) g (by decide) (exX g (by rw[VS];exact d)) y (by omega) o r f k t u
def LY:cL [48]=some 0:=by decide
def ayM:cL [49]=some 1:=by decide
def ayN:cL [45,50]=some (-2):=by decide
