/- Laws. -/
import Derived.Test.YticcgnnefilhcaaGreatDoorRows
import Derived.Test.YticcgnnefilhcaaGreatDoorT26
import Derived.ProofKit
import Derived.LaidMore
import Derived.OpenShut
import Derived.Stop.Joined
import Derived.SliceStrings
import Derived.Lib.LaidTab
import Derived.Carry
set_option linter.all false
set_option maxHeartbeats 8000000
set_option maxRecDepth 99999
namespace Go.Proofs.YticcgnnefilhcaaGreatDoor
open Go.RowKit Sos Go.Proofs.Tryz
def ey0(a b:List (List UInt8))(o p:Value)(w:World)(t:StrsAt w o a)(u:StrsAt w p b)(K:Nat)(F:a.length<=8)(G:b.length<=8)(H:∀l∈a,l.length<=1073741824)(I:∀l∈b,l.length<=1073741824)(r:∀q∈aU a,RL K q)(s:∀q∈aU b,RL K q)(z:1<=K)(y:K<=1048576)(L:Nat)(C:∀n,n<=14->kk K n<=L)(B:L<=100000000000):
  Calls prog 8 #[o,p] w (bx0 w (KF a b) (L8 a b)):=by
 have j:=eyS a b o p w t u (by omega) (by omega) H I K r s y;obtain⟨A,O,rfl,U⟩:=t.form;obtain⟨N,P,rfl,V⟩:=u.form;unfold dqR at j;go_enter func8,ntmps8;go_wp2_with fail;refine j.mono ?_;rintro R M ⟨J,u1,rfl,f,g,c⟩;clear j;by_cases hv:vl a=true∧vl b=true
 ·have d:Hid (KF a b=cW (Y5 (aU a) (aU b))∧L8 a b=0):=⟨if_pos hv,if_pos hv⟩;rw[tW hv.1] at f;rw[tW hv.2] at g;have e:(vl a&&vl b)=true:=by rw[hv.1,hv.2];rfl
  have i:=dqW (aU a) (aU b) J u1 M f g K r s z (by rw[VS];exact F) (by rw[VS];exact G) L C B;have k:=fun W v h m=>CF (Y5 (aU a) (aU b)) v W h L m (by omega);unfold dqM eS at i;unfold CG at k;rw[e];clear hv f g e;generalize Y5 (aU a) (aU b)=Q at *;go_wp2_with fail;refine i.mono ?_;rintro S Y ⟨⟨X,rfl,x,D⟩,m⟩;replace c:=aC c D;clear i;go_wp2_with fail;refine(k _ _ x m).mono ?_;rintro T Z ⟨rfl,E⟩;replace c:=aC c E;clear k;go_wp2;go_ret2;unfold bx0;rw[d.out.1,d.out.2];exact⟨rfl,c⟩
 ·have d:Hid (KF a b=[]∧L8 a b=1):=⟨if_neg hv,if_neg hv⟩;have e:(vl a&&vl b)=false:=by
   cases ea:vl a with
   |false=>rfl
   |true=>
    cases eb:vl b with
    |false=>rfl
    |true=>exact absurd ⟨ea,eb⟩ hv
  rw[e];clear hv f g e;go_wp2;go_ret2;unfold bx0;rw[d.out.1,d.out.2];exact⟨rfl,c⟩
def ey1(a:List (List UInt8))(Z:Value)(w:World)(ha:StrsAt w Z a)(K:Nat)(av:a.length<=8)(ai:∀l∈a,l.length<=1073741824)(t:∀q∈aU a,RL K q)(ac:1<=K)(hK:K<=1048576)(L:Nat)(hL:∀n,n<=14->kk (K+1) n<=L)(al:L<=100000000000):
  Calls prog 10 #[Z] w (bx0 w (dzE a) (dzF a)):=by
 have S:=VQ a Z w ha (by omega) ai (fun q R=>bU (t q R) (by omega));obtain⟨A,ca,rfl,hc⟩:=ha.form;unfold qP at S;go_enter func10,ntmps10;go_wp2_with fail;refine S.mono ?_;rintro e1 j ⟨v1,rfl,i,p⟩;clear S;cases hva:vl a with
 |false=>
  have d:Hid (dzE a=[]∧dzF a=1):=by unfold Hid dzE dzF;rw[if_neg (by rw[hva];simp),if_neg (by rw[hva];simp)];exact⟨rfl,rfl⟩
  clear hva i;go_wp2;go_ret2;unfold bx0;rw[d.out.1,d.out.2];exact⟨rfl,p⟩
 |true=>
  rw[tW hva] at i;have B:=(pJ hva).2.2;have r:=VS a;obtain⟨A1,c1,rfl,a3⟩:=i.form;by_cases o:2<=a.length
  ·have d:Hid (dzE a=cW (dq5 (aU a))∧dzF a=0):=by unfold Hid dzE dzF;rw[if_pos ⟨hva,o⟩,if_pos hva,if_pos o];exact⟨rfl,rfl⟩
   obtain⟨n,hn⟩:∃n,a.length=n+1:=⟨a.length-1,by omega⟩;obtain⟨m,hm⟩:∃m,n=m+1:=⟨n-1,by omega⟩;have ad:aU a≠[]:=fun e=>by rw[e] at r;simp at r;omega
   have ag:cf (aU a) n≠0:=by have h:=(fT ad).1 B;rw[r,hn] at h;exact h
   have X:∀q∈aU a,RL (K+1) q:=fun q R=>bU (t q R) (by omega);have kd:=JE t (by omega) ac;have y:=fun W v h=>JF (aU a) v W h K t (by omega) ac (by omega);rw[qB (dqU B)] at y;have N:=fun W v u h F=>dqW (aU a) (fW (aU a)) v u W h F (K+1) X kd (by omega) (by omega) (by rw[qO];omega) L hL al;have Y:RL (K+1) (cf (aU a) n):=lV X (iG (by omega)) n;have ax:K+1<=L:=hL 0 (dC 14);have M:=fun W v u h F c=>vD (Y5 (aU a) (fW (aU a))) (cf (aU a) n) v u W h F L c (bU Y ax) (by omega) ag;have hx:(aU a)[n]? =some (cf (aU a) n):=by rw[fZ (by omega)];exact aR (by omega)
   obtain⟨bb,s3,A3,k3,c3,s4,A4,k4,c4,hA,ar,g0,hi⟩:=i.at_ hx;have O:=fun W v h f=>yW (Y5 (aU a) (fW (aU a))/cf (aU a) n) v W h f;have T:=fun W v h f=>CF (Y5 (aU a) (fW (aU a))/cf (aU a) n) v W h (L+(K+1)) f (by omega);have U:=fun W v h f=>CF (-(Y5 (aU a) (fW (aU a))/cf (aU a) n)) v W h (L+(K+1)) f (by omega);have aj:∀c:RL L (Y5 (aU a) (fW (aU a))),RL (L+(K+1)) (Y5 (aU a) (fW (aU a))/cf (aU a) n):=fun c=>xS c Y;have k:Hid (dq5 (aU a)=if n*m/2%2=1 then -(Y5 (aU a) (fW (aU a))/cf (aU a) n) else Y5 (aU a) (fW (aU a))/cf (aU a) n):=by
    unfold Hid dq5;rw[r,hn,show n+1-1=n by omega,show n-1=m by omega]
   have ah:n*m<=63*63:=C5 (by omega) (by omega);obtain⟨P,I⟩:∃P,n*m=P:=⟨_,rfl⟩;rw[I] at k ah;have az:(aU a).length=n+1:=by omega
   have P9:Hid (IntKind.i64.wrap (((aU a).length:Int)-1)=(n:Int)):=by unfold Hid;rw[IntKind.wrap_i64];omega
   have a0:Hid (((aU a).length:Int)-1=(n:Int)):=by unfold Hid;omega
   have a4:(n:Int)<((aU a).length:Int):=by omega
   have a5:(0:Int)<=(n:Int):=by omega
   have p0:¬(n:Int)<1:=by omega
   have P1:Hid (wrap64 ((n:Int)-1)=(m:Int)):=by unfold Hid wrap64;omega
   have P2:Hid (wrap64 ((n:Int)*(m:Int))=(P:Int)):=by unfold Hid;rw[<-dz5,I];unfold wrap64;omega
   obtain⟨H,hH⟩:∃H,P/2=H:=⟨_,rfl⟩;rw[hH] at k;have p3:(P:Int).tdiv 2=(H:Int):=by rw[Int.tdiv_eq_ediv_of_nonneg (by omega)];omega
   have P4:Hid (wrap64 (H:Int)=(H:Int)):=by unfold Hid wrap64;omega
   unfold lT at y;unfold dqM eS at N;unfold eS at M O;unfold CG at T U;clear hva B r o hn hm ad X kd hx I ah t ai av ag Y az;generalize Y5 (aU a) (fW (aU a))=RT at *;generalize cf (aU a) n=LQ at *;generalize RT/LQ=Q at *;generalize fW (aU a)=DR at *;subst hA;have p9:=P9.out;go_upto_region 7 with fail;clear p9;have:=St.mk p;go_cut [7] (fun s8 wx=>∃g,s8= .pointer (some ⟨g,0,none⟩)∧j.1.size<=g∧QVar wx g Q∧RL L RT∧Below j.1.size j wx)
   case first=>
    go_region_held3 (fun w'=>R4 w' bb (n*4) (.bool s3) (.slice A3 k3 c3) (.bool s4) (.slice A4 k4 c4)) (with_reducible exact g0.up ar)
     (first
      |(go_at_call 33;refine(y _ _ i.up).mono ?_;rintro e3 w3 ⟨v3,rfl,h3,am⟩;have:=St.mk am)
      |(go_at_call 24;refine(N _ _ _ i.up h3.up).mono ?_;rintro e4 w4 ⟨⟨v4,rfl,h4,an⟩,c⟩;have:=St.mk an)
      |(go_at_call 32;refine(M _ _ _ h4.up hi.up c).mono ?_;rintro e7 C ⟨v7,rfl,G,ap⟩;obtain⟨s7,A7,k7,c7,s8,A8,k8,c8,rfl⟩:=G.form;have:=St.mk ap;have D:=Up.out (a:=j) (b:=C);have ll:=D.size;
        have l3:=(Up.out (a:=j) (b:=w3)).size;have l4:=(Up.out (a:=j) (b:=w4)).size;
        (try (have s:=(Bx.newAt j zR 58 j.1.size rfl).up (b:=C);have ab:=s.g4));
        (try (have s:=(Bx.newAt w3 zR 58 w3.1.size rfl).up (b:=C);have ab:=s.g4));
        (try (have s:=(Bx.newAt w4 zR 58 w4.1.size rfl).up (b:=C);have ab:=s.g4))))
    all_goals (
     go_wp2;go_meet;refine⟨_,rfl,by omega,?_⟩
     first|(with_reducible exact(KZ G D).imp_right (fun h=>⟨c,h⟩))|(with_reducible exact(L0 ‹_› G D (by omega)).imp_right (fun h=>⟨c,h⟩)))
   case rest=>
    clear y N M g0 hi i;obtain⟨g,rfl,hg,⟨s4,A4,k4,c4,s5,A5,k5,c5,V,hV⟩,c,aq⟩:=hcut;have x:=aC p aq;have aw:=aH p.size hg;have cV:=V.g4;have f:=aj c;have ay:nl Q.num.natAbs<=549755813888:=aH (show nl Q.num.natAbs<=L+(K+1) from f.1) (by omega);clear aj c;by_cases z:H%2=1
    ·rw[if_pos z] at k;have p5:(H:Int).tmod 2=1:=by rw[R5 (by omega)];omega
     have p1:=P1.out;have p2:=P2.out;have p4:=P4.out;clear z T;go_wp2_with fail;refine(O _ _ hV (aH ay (by omega))).mono ?_;rintro e6 w6 ⟨v6,rfl,h6,ae⟩;obtain⟨s6,A6,k6,c6,s7,A7,k7,c7,rfl⟩:=h6.form;have E:=V.be ae;have ak:=E.g4;have ao:=aC x ae;go_upto_region 10 with fail;obtain⟨W8,e8,V8,af,au,a2⟩:=E.mut4 ao aw (.bool s6) (.slice A6 k6 c6) (.bool s7) (.slice A7 k7 c7) rfl rfl;rw[e8];clear e8;have a1:=V8.g4;have h8:=h6.ke au;clear V E cV ak;go_wp2_with fail;refine(U _ _ h8 (C7 f)).mono ?_;rintro e9 w9 ⟨rfl,J⟩;go_wp2;go_ret2;unfold bx0;rw[d.out.1,d.out.2,k.out];exact⟨rfl,aC af J⟩
    ·rw[if_neg z] at k;have p5:(H:Int).tmod 2=0:=by rw[R5 (by omega)];omega
     have p1:=P1.out;have p2:=P2.out;have p4:=P4.out;clear z U O;go_wp2_with fail;refine(T _ _ hV f).mono ?_;rintro e9 w9 ⟨rfl,J⟩;go_wp2;go_ret2;unfold bx0;rw[d.out.1,d.out.2,k.out];exact⟨rfl,aC x J⟩
  ·have d:Hid (dzE a=[]∧dzF a=3):=by unfold Hid dzE dzF;rw[if_neg (fun h=>o h.2),if_pos hva,if_neg o];exact⟨rfl,rfl⟩
   have p9:wrap64 (((aU a).length:Int)-1)=((aU a).length:Int)-1:=by unfold wrap64;omega
   have p0:((aU a).length:Int)-1<1:=by omega
   clear hva B r o i;generalize aU a=NA at *;go_wp2;go_ret2;unfold bx0;rw[d.out.1,d.out.2];exact⟨rfl,p⟩
def exG:∀n,n<=14->kk 1 n<=400000000:=fun n h=>aH (dq9 1 h) (by decide+kernel)
def exH:∀n,n<=14->kk (1+1) n<=700000000:=fun n h=>aH (dq9 2 h) (by decide+kernel)
def exI(a b:List (List UInt8))(O P:Value)(w:World)(i:Glob w)(f:StrsAt w O a)(g:StrsAt w P b)(H:∀l∈a,l.length<=9223372036854775807)(I:∀l∈b,l.length<=9223372036854775807):
  Calls prog 3 #[O,P] w fun e w'=>e= .returned (.bool true)∧Below w.1.size w w':=by
 obtain⟨A,c,rfl,hc⟩:=f.form;obtain⟨F,G,rfl,ae⟩:=g.form;have k:=exO f g 22;have d:Below w.1.size w (w.alloc (.cells #[.slice A a.length c,.slice F b.length G] 22)):=(aG _ _).alloc aE _
 have J:=fun W v (k:bzY W v [a,b])=>show Calls prog 5 #[.int .i64 6,.int .i64 6,v] W fun e w'=>e= .returned (.bool (Q5 6 6 [a,b]))∧W=w' from dx2 6 6 [a,b] v W k (by decide) (by decide) (by show 2<=1073741824;decide) (fun p k=>by
  simp only[List.mem_cons,List.not_mem_nil,or_false] at k;rcases k with rfl|rfl
  ·exact H
  ·exact I)
 clear H I;go_enter func3,ntmps3;go_wp2_with fail;replace f:=f.be d;replace g:=g.be d;generalize w.alloc (.cells #[.slice A a.length c,.slice F b.length G] 22)=W at *;refine(J _ _ k).mono ?_;rintro Y w1 ⟨rfl,rfl⟩;clear J k;cases hs:Q5 6 6 [a,b] with
 |false=>
  clear hs;go_wp2_with fail;refine(PX _ (i.be d)).mono ?_;rintro Q U ⟨rfl,s⟩;go_wp2;go_ret;exact⟨rfl,aC d s⟩
 |true=>
  obtain⟨R,C⟩:=bzZ hs (p:=a) (by simp);obtain⟨S,D⟩:=bzZ hs (p:=b) (by simp);have m:∀q∈aU a,RL 1 q:=pI (fun l j=>aH (C l j) (by decide));have r:∀q∈aU b,RL 1 q:=pI (fun l j=>aH (D l j) (by decide));have n:∀l∈a,l.length<=1073741824:=fun l j=>aH (C l j) (by decide);have B:∀l∈b,l.length<=1073741824:=fun l j=>aH (D l j) (by decide);have K:=fun W v u i h o=>byD a b v u W i h o 1 (by omega) (by omega) n B m r (by decide) (by decide);have L:=fun W v u h o=>ey0 a b v u W h o 1 (by omega) (by omega) n B m r (by decide) (by decide) _ exG (by decide);have M:=fun W v i h=>exU a v W i h 1 (by omega) n m (by decide) (by decide);have N:=fun W v h=>ey1 a v W h 1 (by omega) n m (by decide) (by decide) _ exH (by decide);unfold bx0 at K L M N;clear hs R C S D m r n B;generalize KF a b=T at *;generalize L8 a b=E at *;generalize dzE a=X at *;generalize dzF a=V at *;go_wp2_with fail;refine(K _ _ _ (i.be d) f g).mono ?_;rintro Z af ⟨rfl,t⟩;replace f:=f.be t;replace g:=g.be t;replace d:=aC d t;go_wp2_with fail;refine(L _ _ _ f g).mono ?_;rintro ab ag ⟨rfl,x⟩;replace f:=f.be x;replace g:=g.be x;replace d:=aC d x;go_wp2_with fail;refine(M _ _ (i.be d) f).mono ?_;rintro ac ah ⟨rfl,y⟩;replace f:=f.be y;replace g:=g.be y;replace d:=aC d y;go_wp2_with fail;refine(N _ _ f).mono ?_;rintro ad ai ⟨rfl,z⟩;replace f:=f.be z;replace g:=g.be z;replace d:=aC d z;go_wp2_with fail;refine(PX _ (i.be d)).mono ?_;rintro Q U ⟨rfl,s⟩;go_wp2;go_ret;exact⟨rfl,aC d s⟩
end Go.Proofs.YticcgnnefilhcaaGreatDoor
namespace Go.Proofs.YticcgnnefilhcaaGreatDoor
open Go.ChangeShapes Go.WideShapes Go.ChangeAt Go.WideMaps Go.WideElems Go.RowKit Go.Proofs.Tryz
variable{W e:World}
def own:ownKnob Tryz.prog.godebug=none:=by kernel_rfl
def LZ:laidOutB prog=true:=by kernel_rfl
def ayO:Tryz.prog.cellsOf 9=1:=by kernel_rfl
def ayP:Tryz.prog.globalNamed "math/bits.deBruijn64tab" =some 1:=by kernel_rfl
def ayQ:Tryz.prog.globalNamed "internal/strconv.uint64pow10" =some 0:=by kernel_rfl
def ayR:(Tryz.prog.globals[1]?).map (·.type)=some 260:=by kernel_rfl
def ayS:(Tryz.prog.globals[0]?).map (·.type)=some 252:=by kernel_rfl
def ayT:Tryz.prog.cellsOf 260=64:=by kernel_rfl
def ayU:Tryz.prog.cellsOf 252=20:=by kernel_rfl
def ayV:Tryz.prog.cellsOf 5=1:=by kernel_rfl
def ayW:Tryz.prog.cellsOf 132=1:=by kernel_rfl
def uX:List (String×DataW Unit):=[("math/bits.deBruijn32tab",Rows.laid_math_bits_deBruijn32tab),("math/bits.deBruijn64tab",Rows.laid_math_bits_deBruijn64tab),("internal/strconv.uint64pow10",Rows.laid_internal_strconv_uint64pow10)]
def ayX(os:Os)(args:Array Value):laidMetH prog uX ((World.doorLaid prog 400 os).forCall (fun _ _=>0) ⟨#[],args,[]⟩).memory:=
 laidMetH_of_parts3 (fuel:=8) (laidMet_of_run' 8 (by kernel_rfl) (by kernel_rfl)) (by kernel_rfl) (by kernel_rfl)
def ayY:(Rows.laid_math_bits_deBruijn64tab:DataW Unit)=Lib.tabData .u8 (Lib.deBruijn64tab.map (fun z:Nat=>(z:Int))):=by rfl
def ayZ:(Rows.laid_internal_strconv_uint64pow10:DataW Unit)=Lib.tabData .u64 Lib.pow10Tab:=by rfl
def az0(h:laidMetH prog uX W):Glob W:=by
 rw[MakeChecks.laidMetH_plain _ _ _ (by kernel_rfl)] at h;obtain⟨D,⟨t,H,n,q,A,E,x,y,z,w,⟨u,I,o,r,B,F,c,i,l,a,⟨v,J,p,s,C,G,f,k,m,b,_,_⟩,_⟩,_⟩,_,_⟩:=h;obtain rfl:=Option.some.inj (ayP.symm.trans c);obtain rfl:=Option.some.inj (ayQ.symm.trans f);obtain rfl:=Option.some.inj (ayR.symm.trans i);obtain rfl:=Option.some.inj (ayS.symm.trans k);rw[ayY] at a;rw[ayZ] at b;have d:=Lib.cells_of_tab underlying260 underlying5 ayV ayT a;have e:=Lib.cells_of_tab underlying252 underlying132 ayW ayU b;refine⟨fun j g=> ?_,?_⟩
 ·have:=World.var?_cell c l j;rw[this,<-Array.getElem?_toList,d];simp[List.getElem?_map,List.getElem?_eq_getElem g]
 ·unfold Lib.TabIs;rw[m,<-e]
def az1{H:Type}{enc:TypeId×Value->H}{p:Option Addr}{c k fuel:Nat}{x:DataW H×List MemPlace}
  (w:DataW.trod enc prog W 0 (fun _=>true) true fuel 22 [.slice p c k]=some x):
  ∃t:List (List UInt8),StrsAt W (.slice p c k) t∧∀l∈t,l.length<=9223372036854775807:=by
 rcases open_strings underlying22 underlying9 ayO w with ⟨d,C⟩|⟨a,G,E,o,d,_,y,F,D,C,m,B⟩
 ·simp at d;obtain⟨rfl,rfl,rfl⟩:=d;exact⟨[],StrsAt.nil _ _ _,fun l h=>by cases h⟩
 ·simp at d;obtain⟨rfl,rfl,rfl⟩:=d;simp only[if_true] at D;obtain⟨b,f,u⟩:=a;have n:((o.take c).map (·.data.toList)).length=c:=by simp;omega
  refine⟨(o.take c).map (·.data.toList),⟨some ⟨b,f,u⟩,k,by rw[n],by rw[n];exact y,?_⟩,fun l h=> ?_⟩
  ·rcases Nat.eq_zero_or_pos c with q|q
   ·left;rw[q];rfl
   ·right;have A:u=none:=by simpa [Addr.add] using World.cell?_spot (m 0 (by omega))
    subst A;refine⟨b,f,rfl,?_,fun i l j=> ?_⟩
    ·have g:=m 0 (by omega);exact block_lt_of_cell (a:=⟨b,f,none⟩) (by simpa [Addr.add] using g)
    ·have r:=(List.getElem?_eq_some_iff.1 j).1;rw[n] at r;have g:=m i (by omega);have v:(⟨b,f,none⟩:Addr).add i=⟨b,f+i,none⟩:=by unfold Addr.add;split<;>simp_all
     rw[v] at g;rw[g];rw[List.getElem?_map,List.getElem?_take_of_lt r,List.getElem?_eq_getElem (by omega)] at j;simp only[Option.map_some,Option.some.injEq] at j;subst j;simp[List.getD,List.getElem?_eq_getElem (show i<o.length by omega)]
  ·obtain⟨s,z,rfl⟩:=List.mem_map.1 h;have:=B s (List.mem_of_mem_take z);unfold maxLen at this;have e:s.data.toList.length=s.size:=Array.length_toList;rw[e];exact this
def az2{H:Type}{enc:TypeId×Value->H}{P:Program}{f:Func}{s:ChangeSpec}{args:Array Value}{y:TypeId}{d:List (DataW H)}{a:List MemPlace}
  (g:DataW.Whole enc P f.params.toList s.vars false W args.toList d [] a)(hv:s.vars=[])(q:f.resultTypes= #[y])(v:P.underlying y=some .bool)
  (i:s.fn H d={ results:=[.lit (.bool true)],args:=d })
  (A:∀sp:Nat->Bool,(∀p∈a,sp p.block=true)->DataW.TrodAll enc P e 0 sp true f.params.toList args.toList d a)(l:Below W.1.size W e):
  s.post enc P f false true false false W args (.bool true) e:=by
 have o:∀p∈a,p.block<W.1.size:=fun p c=>g.lt p c;have C:∀p∈a,(fun b=>decide (b<W.1.size)) p.block=true:=fun p c=>by simpa using o p c
 have u:∀(b:Nat) (sp:Nat->Bool) (m:Bool),DataW.TrodAll enc P e b sp m f.resultTypes.toList ((Value.bool true).resultList f.resultTypes.size) (s.fn H (d++[])).results []:=fun b sp m=>by
  rw[List.append_nil,i,q];exact trodAll_mk1 (shut_bool v _)
 have k:∀sp:Nat->Bool,(∀p∈a,sp p.block=true)->DataW.TrodAll enc P e 0 sp true f.params.toList args.toList (s.fn H (d++[])).args a:=fun sp h=>by
  rw[List.append_nil,i];exact A sp h
 have w:∀sp:Nat->Bool,DataW.TrodVars enc P e sp s.vars (s.fn H (d++[])).vars []:=fun sp=>by
  rw[List.append_nil,i,hv];exact rfl
 refine⟨d,[],a,[],a,[],g,u _ _ _,k _ C,w _,World.keptBut_mono (fun p c=>⟨c,.inr (.inl c)⟩) (l.frame (·∈a)),fun _=> ?_⟩;obtain⟨_,_,_,_,_,E,hn⟩:=g;refine⟨fun j t r B D=> ?_,_,_,([]++a)++[],⟨[]++a,[],trodAll_append (k _ (fun _ _=>rfl)) (u _ _ _),w _,rfl,fun b x c=> ?_,fun z=>by cases z⟩,fun p c _=>by simpa using c⟩
 ·exact ok_one (by rw[q]) rfl (okWide_bool_mk v true) j t r B D
 ·have n:MemPlace.cell b x∈a:=by simpa using c
  rw[l.frozen (o _ n)];exact E b x n
