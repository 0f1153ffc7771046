/- Laws. -/
import Derived.Test.YtjgbleapffgbcaaGreatDoorRows
import Derived.Test.YtjgbleapffgbcaaGreatDoorV27
import Derived.Test.YtjgbleapffgbcaaGreatDoorV28
import Derived.ProofKit
import Derived.LaidMore
import Derived.OpenShut
import Derived.Stop.Joined
import Derived.SliceStrings
import Derived.Lib.LaidTab
import Derived.Carry
set_option linter.all false
set_option maxHeartbeats 8000000
set_option maxRecDepth 99999
namespace Go.Proofs.YtjgbleapffgbcaaGreatDoor
open Go.RowKit Sos Go.Proofs.Tryz
def StrsAt.built(w:World)(a:List (List UInt8))(t:TypeId):StrsAt (w.alloc (.cells (a.map (fun l=>Value.string ⟨l.toArray⟩)).toArray t)) (.slice (some ⟨w.1.size,0,none⟩) a.length a.length) a:=by
 refine⟨_,_,rfl,aE,.inr ⟨w.1.size,0,rfl,by simp,fun i l b=> ?_⟩⟩;have B:=Bx.new w (a.map (fun l=>Value.string ⟨l.toArray⟩)) t;rw[bA];exact B.cell i (by rw[iK,b];rfl)
def yO:aU [[45,50],[48],[49]]=[-2,0,1]:=by
 show[(cL [45,50]).getD 0,(cL [48]).getD 0,(cL [49]).getD 0]=_
 rw[ayN,LY,ayM];rfl
def ayF:cL [45,52]=some (-4):=by decide
def ayG:cL [52]=some 4:=by decide
def ayH:([(-4,0),(0,4)]:List (Rat×Rat)).map m8=[([45,52],[48]),([48],[52])]:=by
 show[(cW (-4),cW 0),(cW 0,cW 4)]=_
 rw[tL ayF,tL LY,tL ayG]
def LW:vl [[45,50],[48],[49]]=true:=by
 unfold vl;rw[iQ,yO];exact⟨by decide,by decide,by decide⟩
def ayI:dM [[45,50],[48],[49]]=0:=by unfold dM;rw[if_pos LW,if_neg (by simp)]
def ayJ:oS [[45,50],[48],[49]] [] []=0:=by
 have h:dM [[45,50],[48],[49]]=0:=by unfold dM;rw[if_pos LW,if_neg (by simp)]
 unfold oS;rw[h];rfl
def ayK{n:Int}(h:KU (aU [[45,50],[48],[49]]) (lC [] (-1)) (m5 []) (lC [] 1) (m5 []) 0 n):n=2:=by
 have a:=h.2 rfl;rw[yO] at a;rw[a.get (by decide) D6 KQ (by decide)];exact Z5
def ayL:∀p∈([(-4,0),(0,4)]:List (Rat×Rat)),RL 110079 p.1∧RL 110079 p.2:=fun p b=>by
 have c:RL 110079 ((4:Int):Rat):=uW (aH (cJ (m:=1) (by unfold BN;decide)) (by decide)) (by decide);have d:RL 110079 ((-4:Int):Rat):=uW (aH (cJ (m:=1) (by unfold BN;decide)) (by decide)) (by decide);have a:RL 110079 (0:Rat):=iG (by decide);simp only[List.mem_cons,List.not_mem_nil,or_false] at b;rcases b with rfl|rfl
 ·exact⟨d,a⟩
 ·exact⟨a,c⟩
def DV(w:World)(g:Glob w):Calls prog 6 #[] w fun e w'=>e= .returned (.bool true)∧Below w.1.size w w':=by
 have m:=fun W v g h=>LT [[45,50],[48],[49]] 2 110079 (fun l=>l=[(-4,0),(0,4)]) v W g h (by decide) (by decide) (fun _ _=>by rw[yO,ZF];exact ZG) (by decide) (by decide) (by decide) y7 (ZV (by unfold aJ;decide)) (fun l h=>by rw[h];exact⟨by decide,ayL⟩) (fun w s c p z=>by rw[yO] at p;exact⟨_,ZH p z.1,rfl⟩);have i:=fun W v g h=>KV [[45,50],[48],[49]] v W g h (by decide) (by decide);unfold uM at i;rw[ayJ] at i;rw[ayI] at m;go_enter func6,ntmps6;go_wp2_with fail;have a:Below w.1.size w (w.alloc (.cells #[.string ⟨#[45,50]⟩,.string ⟨#[48]⟩,.string ⟨#[49]⟩] 9)):=(aG _ _).alloc aE _;have q:StrsAt (w.alloc (.cells #[.string ⟨#[45,50]⟩,.string ⟨#[48]⟩,.string ⟨#[49]⟩] 9)) (.slice (some ⟨w.1.size,0,none⟩) 3 3) [[45,50],[48],[49]]:=StrsAt.built w [[45,50],[48],[49]] 9;generalize w.alloc (.cells #[.string ⟨#[45,50]⟩,.string ⟨#[48]⟩,.string ⟨#[49]⟩] 9)=W at *;refine(m _ _ (g.be a) q).mono ?_;rintro E d ⟨I,l,rfl,A, -,b,x⟩;obtain rfl:=A trivial;rw[ayH] at b;replace a:=aC a x;obtain⟨t,u,rfl,H⟩:=b.form;replace b:IvsAt d (.slice t 2 u) [([45,52],[48]),([48],[52])]:=b;clear q m;go_wp2_with fail;have j:Below d.1.size d (d.alloc (.cells #[.string ⟨#[45,50]⟩,.string ⟨#[48]⟩,.string ⟨#[49]⟩] 9)):=(aG _ _).alloc aE _;have r:StrsAt (d.alloc (.cells #[.string ⟨#[45,50]⟩,.string ⟨#[48]⟩,.string ⟨#[49]⟩] 9)) (.slice (some ⟨d.1.size,0,none⟩) 3 3) [[45,50],[48],[49]]:=StrsAt.built d [[45,50],[48],[49]] 9;replace b:=b.be j;replace a:=aC a j;clear j;generalize d.alloc (.cells #[.string ⟨#[45,50]⟩,.string ⟨#[48]⟩,.string ⟨#[49]⟩] 9)=C at *;refine(i _ _ (g.be a) r).mono ?_;rintro F f ⟨n,rfl, -, -,hn,o⟩;obtain rfl:=ayK hn;replace b:=b.be o;replace a:=aC a o;clear r i hn;go_wp2_with fail;have k:Below f.1.size f (f.alloc (.cells #[.string ⟨#[45,52]⟩,.string ⟨#[48]⟩,.string ⟨#[48]⟩,.string ⟨#[52]⟩] 38)):=(aG _ _).alloc aE _;have B:IvsAt (f.alloc (.cells #[.string ⟨#[45,52]⟩,.string ⟨#[48]⟩,.string ⟨#[48]⟩,.string ⟨#[52]⟩] 38)) (.slice (some ⟨f.1.size,0,none⟩) 2 2) [([45,52],[48]),([48],[52])]:=IvsAt.built f [([45,52],[48]),([48],[52])] 38;replace b:=b.be k;replace a:=aC a k;clear k;generalize f.alloc (.cells #[.string ⟨#[45,52]⟩,.string ⟨#[48]⟩,.string ⟨#[48]⟩,.string ⟨#[52]⟩] 38)=D at *;refine(LP _ _ _ _ b B (by decide)).mono ?_;rintro G J ⟨rfl,y⟩;go_wp2;go_ret;exact⟨rfl,aC a y⟩
def dyX(f:List (List UInt8))(a b:List UInt8)(v:Value)(w:World)(d:Glob w)(hv:StrsAt w v f)(al:∀l∈f,l.length<=9223372036854775807)(ao:a.length<=9223372036854775807)(ap:b.length<=9223372036854775807):
  Calls prog 4 #[v,.string ⟨a.toArray⟩,.string ⟨b.toArray⟩] w fun e w'=>e= .returned (.bool true)∧Below w.1.size w w':=by
 obtain⟨A,G,rfl,hc⟩:=hv.form;have E:f.length<=5->∀W,StrsAt W (.slice A f.length G) f->Calls prog 5 #[.int .i64 5,.slice A f.length G] W fun e w'=>e= .returned (.bool (jH 5 f))∧W=w':=fun s W h=>LX 5 f (.slice A f.length G) W h (by decide) (by omega) al
 have D:∀W v,StrsAt W v [a,b]->Calls prog 5 #[.int .i64 5,v] W fun e w'=>e= .returned (.bool (jH 5 [a,b]))∧W=w':=fun W v h=>LX 5 [a,b] v W h (by decide) (by show 2<=1073741824;decide) (fun l s=>by
  simp only[List.mem_cons,List.not_mem_nil,or_false] at s;rcases s with rfl|rfl
  ·exact ao
  ·exact ap)
 clear al ao ap;have c:=aG w.1.size w;go_enter func4,ntmps4;by_cases an:f.length<=5
 ·have q5:¬(5:Int)<(f.length:Int):=by omega
  replace E:=E an;go_wp2_with fail;refine(E _ hv).mono ?_;rintro e1 w1 ⟨rfl,rfl⟩;cases hs:jH 5 f with
  |false=>
   clear hs E D;go_wp2_with fail;refine(DV _ (d.be c)).mono ?_;rintro z y ⟨rfl,j⟩;go_wp2;go_ret;exact⟨rfl,aC c j⟩
  |true=>
   have C:∀l∈f,l.length<=5:=fun l s=>by
    unfold jH at hs;exact of_decide_eq_true (List.all_eq_true.1 hs l s)
   have au:=fun W d h=>dq0 f (.slice A f.length G) W d h (by omega) (fun _ l s=>aH (C l s) (by decide));clear hs E;go_wp2_with fail;refine(au _ d hv).mono ?_;rintro e2 u ⟨rfl,ah⟩;replace hv:=hv.be ah;replace c:=aC c ah;clear au;cases hvl:vl f with
   |false=>
    clear hvl C D;go_wp2_with fail;refine(DV _ (d.be c)).mono ?_;rintro z y ⟨rfl,j⟩;go_wp2;go_ret;exact⟨rfl,aC c j⟩
   |true=>
    go_wp2_with fail;have p:Below u.1.size u (u.alloc (.cells #[.string ⟨a.toArray⟩,.string ⟨b.toArray⟩] 9)):=(aG _ _).alloc aE _;have o:StrsAt (u.alloc (.cells #[.string ⟨a.toArray⟩,.string ⟨b.toArray⟩] 9)) (.slice (some ⟨u.1.size,0,none⟩) 2 2) [a,b]:=StrsAt.built u [a,b] 9;replace c:=aC c p;replace hv:=hv.be p;generalize u.alloc (.cells #[.string ⟨a.toArray⟩,.string ⟨b.toArray⟩] 9)=w3 at *;refine(D _ _ o).mono ?_;rintro e3 w4 ⟨rfl,rfl⟩;cases hs2:jH 5 [a,b] with
    |false=>
     clear hs2 D o hvl C;go_wp2_with fail;refine(DV _ (d.be c)).mono ?_;rintro z y ⟨rfl,j⟩;go_wp2;go_ret;exact⟨rfl,aC c j⟩
    |true=>
     have ac:a.length<=5∧b.length<=5:=by
      unfold jH at hs2;have h:=List.all_eq_true.1 hs2;exact⟨of_decide_eq_true (h a (by simp)),of_decide_eq_true (h b (by simp))⟩
     have av:=fun W d=>cxS b W d (by omega);clear hs2 D o;go_wp2_with fail;refine(av _ (d.be c)).mono ?_;rintro e5 w5 ⟨rfl,ai⟩;replace hv:=hv.be ai;replace c:=aC c ai;clear av;cases hrb:rd b with
     |false=>
      clear hrb ac hvl C;go_wp2_with fail;refine(DV _ (d.be c)).mono ?_;rintro z y ⟨rfl,j⟩;go_wp2;go_ret;exact⟨rfl,aC c j⟩
     |true=>
      obtain⟨X,hX⟩:=Option.isSome_iff_exists.1 hrb;obtain⟨S,J⟩:=dz2 hvl an C;have N:=J.mul;unfold o7 at N;have g:=aB (And.intro ac (And.intro hX J));clear hrb hvl C hX J;go_wp2_with fail;refine(N _ _ _ (d.be c) hv hv).mono ?_;rintro e6 w6 ⟨v6,rfl,n,az⟩;obtain⟨A6,c6,rfl, -⟩:=n.form;rw[cH] at n⊢;replace c:=aC c az;have O:=g.out.2.2.nn _ _ (d.be c) n;unfold kL at O;clear N;go_wp2_with fail;refine O.mono ?_;rintro e7 w7 ⟨rfl,aj⟩;replace n:=n.be aj;replace c:=aC c aj;clear O;have V:=cyC a w7 (d.be c) (by have:=g.out.1;omega);unfold eO at V;have hQ:0<((cL a).getD 0).num.sign->∃q,cL a=some q∧0<q:=fun h=>by
       cases hr:cL a with
       |none=>rw[hr] at h;exact absurd h (by decide)
       |some q=>
        rw[hr] at h;refine⟨q,rfl,?_⟩;have H:0<q.num.sign:=h;rcases iY q with k|k|k
        ·rw[(fS q).2 k] at H;exact absurd H (by decide)
        ·rw[k] at H;exact absurd H (by decide)
        ·exact k
      have I:=aB hQ;clear hQ;generalize ((cL a).getD 0).num.sign=Z at *;go_wp2_with fail;refine V.mono ?_;rintro e8 x ⟨rfl,ak⟩;replace n:=n.be ak;replace c:=aC c ak;clear V;by_cases hz:Z<=0
      ·clear I g;go_wp2_with fail;refine(DV _ (d.be c)).mono ?_;rintro z y ⟨rfl,j⟩;go_wp2;go_ret;exact⟨rfl,aC c j⟩
      ·obtain⟨q,hq,R⟩:=I.out (by omega);obtain⟨T,K⟩:=dz3 g.out.2.2 hq g.out.1.1 R;have M:=K.add;unfold o7 at M;have r:=aB (And.intro R K);clear I hq R K;go_wp2_with fail;have p:Below x.1.size x (x.alloc (.cells #[.string ⟨a.toArray⟩] 9)):=(aG _ _).alloc aE _;have o:StrsAt (x.alloc (.cells #[.string ⟨a.toArray⟩] 9)) (.slice (some ⟨x.1.size,0,none⟩) 1 1) [a]:=StrsAt.built x [a] 9;replace c:=aC c p;replace n:=n.be p;generalize x.alloc (.cells #[.string ⟨a.toArray⟩] 9)=y at *;refine(M _ _ _ (d.be c) n o).mono ?_;rintro a5 bg ⟨bc,rfl,i,aw⟩;obtain⟨a1,a3,rfl, -⟩:=i.form;rw[cH] at i⊢;replace c:=aC c aw;clear M o n;have ar:=r.out.2.total r.out.1 _ _ (d.be c) i;go_wp2_with fail;refine ar.mono ?_;rintro a6 bh ⟨rfl,ad⟩;replace i:=i.be ad;replace c:=aC c ad;clear ar;have am:=r.out.2.eval g.out.2.1 g.out.1.2 _ _ (d.be c) i;go_wp2_with fail;refine am.mono ?_;rintro a7 a0 ⟨rfl,ae⟩;replace i:=i.be ae;replace c:=aC c ae;clear am;have k1:RL 1144 (1:Rat):=⟨by show nl 1<=1144;exact aH (cJ (m:=1) (by decide)) (by decide),by show nl 1<=1144;exact aH (cJ (m:=1) (by decide)) (by decide)⟩;have aq:=exV (cW (aI T X)) [49] (aI T X) 1 1144 a0 (d.be c) (SU _) (by decide) (r.out.2.val X (lS g.out.2.1 (by have:=g.out.1;omega))) k1 (by decide) (aH (cx1 (r.out.2.val X (lS g.out.2.1 (by have:=g.out.1;omega)))) (by decide)) (by decide);go_wp2_with fail;refine aq.mono ?_;rintro a8 t ⟨rfl,af⟩;replace i:=i.be af;replace c:=aC c af;clear aq k1;obtain⟨U,L⟩:=dz4 r.out.2 r.out.1 (lS g.out.2.1 (by have:=g.out.1;omega));have Y:=L.sub;unfold o7 at Y;have HC:=aB L;clear L;generalize cW (aI T X+1)=F at *;go_wp2_with fail;have p:Below t.1.size t (t.alloc (.cells #[.string ⟨F.toArray⟩] 9)):=(aG _ _).alloc aE _;have o:StrsAt (t.alloc (.cells #[.string ⟨F.toArray⟩] 9)) (.slice (some ⟨t.1.size,0,none⟩) 1 1) [F]:=StrsAt.built t [F] 9;replace c:=aC c p;replace i:=i.be p;generalize t.alloc (.cells #[.string ⟨F.toArray⟩] 9)=bi at *;refine(Y _ _ _ (d.be c) i o).mono ?_;rintro a9 bj ⟨bf,rfl,B,ax⟩;obtain⟨a2,a4,rfl, -⟩:=B.form;rw[cH] at B⊢;replace c:=aC c ax;clear Y o i;have Q:=HC.out.nn _ _ (d.be c) B;unfold kL at Q;go_wp2_with fail;refine Q.mono ?_;rintro ba bk ⟨rfl,ag⟩;replace B:=B.be ag;replace c:=aC c ag;clear Q;have P:=HC.out.at g.out.2.1 g.out.1.2 _ _ (d.be c) B;unfold kL at P;go_wp2_with fail;refine P.mono ?_;rintro bb bm ⟨rfl,ay⟩;replace c:=aC c ay;clear P;go_wp2_with fail;refine(DV _ (d.be c)).mono ?_;rintro z y ⟨rfl,j⟩;go_wp2;go_ret;exact⟨rfl,aC c j⟩
 ·have q5:(5:Int)<(f.length:Int):=by omega
  clear E D;go_wp2_with fail;refine(DV _ (d.be c)).mono ?_;rintro z y ⟨rfl,j⟩;go_wp2;go_ret;exact⟨rfl,aC c j⟩
end Go.Proofs.YtjgbleapffgbcaaGreatDoor
namespace Go.Proofs.YtjgbleapffgbcaaGreatDoor
open Go.ChangeShapes Go.WideShapes Go.ChangeAt Go.WideMaps Go.WideElems Go.RowKit Go.Proofs.Tryz
variable{W e:World}
def own:ownKnob Tryz.prog.godebug=none:=by kernel_rfl
def LZ:laidOutB prog=true:=by kernel_rfl
def ayO:Tryz.prog.cellsOf 9=1:=by kernel_rfl
def ayP:Tryz.prog.globalNamed "math/bits.deBruijn64tab" =some 0:=by kernel_rfl
def ayQ:Tryz.prog.globalNamed "internal/strconv.uint64pow10" =some 3:=by kernel_rfl
def ayR:(Tryz.prog.globals[0]?).map (·.type)=some 203:=by kernel_rfl
def ayS:(Tryz.prog.globals[3]?).map (·.type)=some 209:=by kernel_rfl
def ayT:Tryz.prog.cellsOf 203=64:=by kernel_rfl
def ayU:Tryz.prog.cellsOf 209=20:=by kernel_rfl
def ayV:Tryz.prog.cellsOf 5=1:=by kernel_rfl
def ayW:Tryz.prog.cellsOf 119=1:=by kernel_rfl
def uX:List (String×DataW Unit):=[("math/bits.deBruijn32tab",Rows.laid_math_bits_deBruijn32tab),("math/bits.deBruijn64tab",Rows.laid_math_bits_deBruijn64tab),("internal/strconv.uint64pow10",Rows.laid_internal_strconv_uint64pow10)]
def ayX(os:Os)(args:Array Value):laidMetH prog uX ((World.doorLaid prog 400 os).forCall (fun _ _=>0) ⟨#[],args,[]⟩).memory:=
 laidMetH_of_parts3 (fuel:=8) (laidMet_of_run' 8 (by kernel_rfl) (by kernel_rfl)) (by kernel_rfl) (by kernel_rfl)
def ayY:(Rows.laid_math_bits_deBruijn64tab:DataW Unit)=Lib.tabData .u8 (Lib.deBruijn64tab.map (fun z:Nat=>(z:Int))):=by rfl
def ayZ:(Rows.laid_internal_strconv_uint64pow10:DataW Unit)=Lib.tabData .u64 Lib.pow10Tab:=by rfl
def az0(h:laidMetH prog uX W):Glob W:=by
 rw[MakeChecks.laidMetH_plain _ _ _ (by kernel_rfl)] at h;obtain⟨C,⟨t,G,n,q,A,D,x,y,z,w,⟨u,H,o,r,B,E,c,i,l,a,⟨v,I,p,s,p2,F,f,k,m,b,_,_⟩,_⟩,_⟩,_,_⟩:=h;obtain rfl:=Option.some.inj (ayP.symm.trans c);obtain rfl:=Option.some.inj (ayQ.symm.trans f);obtain rfl:=Option.some.inj (ayR.symm.trans i);obtain rfl:=Option.some.inj (ayS.symm.trans k);rw[ayY] at a;rw[ayZ] at b;have d:=Lib.cells_of_tab underlying203 underlying5 ayV ayT a;have e:=Lib.cells_of_tab underlying209 underlying119 ayW ayU b;refine⟨fun j g=> ?_,?_⟩
 ·have:=World.var?_cell c l j;rw[this,<-Array.getElem?_toList,d];simp[List.getElem?_map,List.getElem?_eq_getElem g]
 ·unfold Lib.TabIs;rw[m,<-e]
def az1{H:Type}{enc:TypeId×Value->H}{p:Option Addr}{c k fuel:Nat}{x:DataW H×List MemPlace}
  (w:DataW.trod enc prog W 0 (fun _=>true) true fuel 22 [.slice p c k]=some x):
  ∃t:List (List UInt8),StrsAt W (.slice p c k) t∧∀l∈t,l.length<=9223372036854775807:=by
 rcases open_strings underlying22 underlying9 ayO w with ⟨d,C⟩|⟨a,G,E,o,d,_,y,F,D,C,m,B⟩
 ·simp at d;obtain⟨rfl,rfl,rfl⟩:=d;exact⟨[],StrsAt.nil _ _ _,fun l h=>by cases h⟩
 ·simp at d;obtain⟨rfl,rfl,rfl⟩:=d;simp only[if_true] at D;obtain⟨b,f,u⟩:=a;have n:((o.take c).map (·.data.toList)).length=c:=by simp;omega
  refine⟨(o.take c).map (·.data.toList),⟨some ⟨b,f,u⟩,k,by rw[n],by rw[n];exact y,?_⟩,fun l h=> ?_⟩
  ·rcases Nat.eq_zero_or_pos c with q|q
   ·left;rw[q];rfl
   ·right;have A:u=none:=by simpa [Addr.add] using World.cell?_spot (m 0 (by omega))
    subst A;refine⟨b,f,rfl,?_,fun i l j=> ?_⟩
    ·have g:=m 0 (by omega);exact block_lt_of_cell (a:=⟨b,f,none⟩) (by simpa [Addr.add] using g)
    ·have r:=(List.getElem?_eq_some_iff.1 j).1;rw[n] at r;have g:=m i (by omega);have v:(⟨b,f,none⟩:Addr).add i=⟨b,f+i,none⟩:=by unfold Addr.add;split<;>simp_all
     rw[v] at g;rw[g];rw[List.getElem?_map,List.getElem?_take_of_lt r,List.getElem?_eq_getElem (by omega)] at j;simp only[Option.map_some,Option.some.injEq] at j;subst j;simp[List.getD,List.getElem?_eq_getElem (show i<o.length by omega)]
  ·obtain⟨s,z,rfl⟩:=List.mem_map.1 h;have:=B s (List.mem_of_mem_take z);unfold maxLen at this;have e:s.data.toList.length=s.size:=Array.length_toList;rw[e];exact this
def az2{H:Type}{enc:TypeId×Value->H}{P:Program}{f:Func}{s:ChangeSpec}{args:Array Value}{y:TypeId}{d:List (DataW H)}{a:List MemPlace}
  (g:DataW.Whole enc P f.params.toList s.vars false W args.toList d [] a)(hv:s.vars=[])(q:f.resultTypes= #[y])(v:P.underlying y=some .bool)
  (i:s.fn H d={ results:=[.lit (.bool true)],args:=d })
  (A:∀sp:Nat->Bool,(∀p∈a,sp p.block=true)->DataW.TrodAll enc P e 0 sp true f.params.toList args.toList d a)(l:Below W.1.size W e):
  s.post enc P f false true false false W args (.bool true) e:=by
 have o:∀p∈a,p.block<W.1.size:=fun p c=>g.lt p c;have C:∀p∈a,(fun b=>decide (b<W.1.size)) p.block=true:=fun p c=>by simpa using o p c
 have u:∀(b:Nat) (sp:Nat->Bool) (m:Bool),DataW.TrodAll enc P e b sp m f.resultTypes.toList ((Value.bool true).resultList f.resultTypes.size) (s.fn H (d++[])).results []:=fun b sp m=>by
  rw[List.append_nil,i,q];exact trodAll_mk1 (shut_bool v _)
 have k:∀sp:Nat->Bool,(∀p∈a,sp p.block=true)->DataW.TrodAll enc P e 0 sp true f.params.toList args.toList (s.fn H (d++[])).args a:=fun sp h=>by
  rw[List.append_nil,i];exact A sp h
 have w:∀sp:Nat->Bool,DataW.TrodVars enc P e sp s.vars (s.fn H (d++[])).vars []:=fun sp=>by
  rw[List.append_nil,i,hv];exact rfl
 refine⟨d,[],a,[],a,[],g,u _ _ _,k _ C,w _,World.keptBut_mono (fun p c=>⟨c,.inr (.inl c)⟩) (l.frame (·∈a)),fun _=> ?_⟩;obtain⟨_,_,_,_,_,E,hn⟩:=g;refine⟨fun j t r B D=> ?_,_,_,([]++a)++[],⟨[]++a,[],trodAll_append (k _ (fun _ _=>rfl)) (u _ _ _),w _,rfl,fun b x c=> ?_,fun z=>by cases z⟩,fun p c _=>by simpa using c⟩
 ·exact ok_one (by rw[q]) rfl (okWide_bool_mk v true) j t r B D
 ·have n:MemPlace.cell b x∈a:=by simpa using c
  rw[l.frozen (o _ n)];exact E b x n
