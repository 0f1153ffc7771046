/-
  Contracts, laws: AppD.
-/
import Derived.Test.YthfnenohhindpaaGreatDoorC27
import Derived.Lib.AppendStr
set_option linter.all false
set_option maxHeartbeats 8000000
set_option maxRecDepth 100000
namespace Go.Proofs.YthfnenohhindpaaGreatDoor
open Go.RowKit Sos
theorem O7 (l:List UInt8):Lib.strCells ⟨l.toArray⟩=Lib.byteCells l:=by simp[Lib.strCells,Lib.byteCells]
theorem OA (B:Nat) (n:Value) (bs l:List UInt8) (w:World) (D:B<=w.heap.size) (F:TxtAt w B n bs) (N:1<=l.length) (I:bs.length+l.length<=140737488355328):
  p6 w n l (fun f w'=>TxtAt w' B f (bs++l)∧TxtTo w n w' f):=by
 obtain⟨i,o,x,p,s⟩:=info_parts kP;refine⟨fun b h=> ?_,fun b a c h G=> ?_⟩
 ·have q:=F.below h;have v:(⟨l.toArray⟩:ByteArray).size=l.length:=by simp[ByteArray.size]
  obtain⟨f,w',m,t,y,_⟩:=Lib.run_append_own_string (P:=Tryz.prog) b B 177 9 177 5 i Tryz.underlying177 Tryz.underlying9 o x p s n bs.length _ q ⟨l.toArray⟩ (by rw[v];unfold maxLen;omega) (by rw[v];exact I) (aG D h.size);rw[v,O7] at t;have A:Go.Src Tryz.prog i.size 9 (.string ⟨l.toArray⟩) l.length (Lib.byteCells l) b:=by
   have:=Go.Src.ofString (P:=Tryz.prog) b Tryz.underlying9 ⟨l.toArray⟩;rw[v] at this;rw[p];exact this
  have z:f.ownBlock=n.ownBlock∨f.ownBlock=some b.heap.size:=by
   rcases q.2 with ⟨rfl,e⟩|⟨g,r,C,rfl,L,E,hn,k,M,O⟩
   ·have d:=run_append_grow_src (P:=Tryz.prog) b 177 9 177 5 i _ Tryz.underlying177 o x none 0 0 [] (run_firstCells_none b.drew i.size 0 0 0) _ _ _ A (by omega) (by omega) (by rw[s];exact growslice_fits (by omega) (by omega));rw[m] at d;injection d with h1 h2;right;rw[h1];rfl
   ·by_cases J:bs.length+l.length<=r
    ·have d:=run_append_room_src (P:=Tryz.prog) b 177 9 177 5 i Tryz.underlying177 o g 0 bs.length r _ _ _ A J
      (fun j H=>by
       rw[Lib.byteCells_length] at H;rw[p,cell_of_row b g _ C _ (0,0) E];simp;omega) (fun j _=>frozen_of_row b g _ C _ E)
     rw[m] at d;injection d with h1 h2;left;rw[h1];rfl
    ·have d:=run_append_grow_src (P:=Tryz.prog) b 177 9 177 5 i _ Tryz.underlying177 o x (some ⟨g,0,none⟩) bs.length r (Lib.byteCells bs)
      (run_firstCells_some b.drew i.size bs.length ⟨g,0,none⟩ bs.length r (Lib.byteCells bs) (by rw[Lib.byteCells_length,p,Nat.mul_one]) (fun j u K=>by
       have:=World.ownsRow.cells q (g:=g) rfl j u K;simpa using this)) _ _ _ A (by omega) (by omega) (by rw[s];exact growslice_fits (by omega) (by omega))
     rw[m] at d;injection d with h1 h2;right;rw[h1];rfl
  have k:=TxtAt.more' (w:=b) (bs:=bs) (l:=l) t y z;exact⟨f,w',m,k.1,(TxtTo.below h).trans k.2⟩
 ·have q:=F.below h;obtain⟨f,w',m,t,y,_,z⟩:=run_append_own_at (P:=Tryz.prog) b B 177 177 5 i _ 1 1 Tryz.underlying177 o x p s rfl (by decide) n bs.length _ q a l.length c (Lib.byteCells l) (by rw[Lib.byteCells_length,Nat.mul_one]) G (E7 l) (by unfold maxLen;omega) (by omega) (aG D h.size);have k:=TxtAt.more' (w:=b) (bs:=bs) (l:=l) t y z;exact⟨f,w',m,k.1,(TxtTo.below h).trans k.2⟩
theorem OwnP.powA {w:World} {B:Nat} {v:Value} {us:List Value} (h:OwnP w B v us):PowA w v us:=by
 obtain⟨⟨_,j⟩,b⟩:=h;rcases j with ⟨rfl,e⟩|⟨g,d,f,rfl,l,c,hn,m,n,k⟩
 ·exact⟨none,0,by rw[e],by omega,Old.none,.inl e,fun i u a=>(b i u a).1⟩
 ·refine⟨_,d,rfl,hn,Old.mk (Array.getElem?_eq_some_iff.1 c).1,.inr ⟨g,0,rfl,?_⟩,fun i u a=>(b i u a).1⟩;intro i u a;rw[cell_of_row w g (0+i) f _ (0,0) c,aS,<-Array.getElem?_toList];rw[<-k,List.getElem?_take] at a;split at a
  ·exact a
  ·cases a
theorem DW (B:Nat) (j:Value) (bs:List UInt8) (x:Nat) (T:Value) (w:World) (hG:GlobB B w) (F:B<=w.heap.size) (D:TxtAt w B j bs) (hx:NatAt w T x) (a0:Apart j T) (bx:nl x<=4294967296) (bk:bs.length<=4398046511104):
  Calls Tryz.prog 176 #[j,T] w fun e w'=>∃v,e= .returned v∧TxtAt w' B v (bs++Lib.decDigits x)∧TxtTo w j w' v:=by
 have HX:=aB hx;obtain⟨A,c,bi,hc,ba,bt⟩:=hx;subst bi;by_cases E:nl x=0
 ·obtain rfl:=mQ E;have q0:((nl 0:Int)==0)=true:=by rw[dC];rfl
  have bb:w.ownsRow B 5 1 j bs.length (Lib.byteCells bs):=D;go_enter Tryz.func176,Tryz.ntmps176;go_wp2_with (at_builtin;refine fE rfl rfl 5 _ 1 1 Tryz.underlying177 kP rfl (by decide) B j bs.length _ rfl (bb.alloc _) [Value.int .u8 48] rfl (by simp) (j0 _ _ _) (by simp[Value.oneCell']) (by omega) (by omega) (by simp;omega) ?_;intro S w6 N J G);have n:=TxtAt.more (bs:=bs) (l:=[48]) N J G;have a2:Lib.decDigits 0=[48]:=by rw[Lib.decDigits_one (by decide)];rfl
  go_wp2_with fail;go_ret;exact⟨_,rfl,by rw[a2];exact n.1,n.2⟩
 ·have q0:((nl x:Int)==0)=false:=by simp;omega
  have au:x≠0:=by intro h;subst h;exact E dC
  by_cases o:nl x=1
  ·have S:((nl x:Int)==1)=true:=by simp;omega
   have R:x<BN:=by have:=cJ x;rw[o,Nat.pow_one] at this;exact this
   obtain⟨b,bz,rfl,hb,af⟩:=ba.at_ (by rw[aJ];omega);have g0:=af 0 (by rw[aJ];omega);rw[mR au R] at g0;simp only[Nat.add_zero,List.getD_cons_zero] at g0;have ad:=OA B j bs (Lib.decDigits x) w F D (by rw[Lib.decDigits_length];exact Lib.nDigits_pos x) (by have:=tJ R;omega);have az:=E8 j x w _ R hG.here ad;have i0:(0:Int)<(nl x:Int):=by omega
   clear ad af E o;go_enter Tryz.func176,Tryz.ntmps176;go_wp2_with fail;refine az.mono ?_;rintro e w1 ⟨v1,rfl,s,t⟩;go_wp2;go_ret;exact⟨_,rfl,s,t⟩
  ·have S:((nl x:Int)==1)=false:=by simp;omega
   have ao:cV 0 x=Lib.decDigits x:=NN au;have hT:bs.length+(cV 0 x).length<=8796093022208:=by
    have:=E3 0 x;omega
   have aw:=aB ao;have HT:=aB hT;have ar:=D.lt;clear ao hT;have ak:NatAt (w.alloc (.cells #[.int .u64 10000000000000000000] 181)) (.slice (some ⟨w.heap.size,0,none⟩) 1 1) (10^(19*2^([]:List Value).length)):=sY w 10000000000000000000 (by decide) (by decide) 181;have ab:OwnP ((w.alloc (.cells #[.int .u64 10000000000000000000] 181)).alloc (.cells #[.slice (some ⟨w.heap.size,0,none⟩) 1 1] 57)) w.heap.size (.slice (some ⟨w.heap.size+1,0,none⟩) 1 1) [.slice (some ⟨w.heap.size,0,none⟩) 1 1]:=by
    refine⟨⟨rfl,.inr ⟨w.heap.size+1,1,#[.slice (some ⟨w.heap.size,0,none⟩) 1 1],rfl,by omega,?_,aE,by decide,rfl,rfl⟩⟩,?_⟩
    ·have:=heap_alloc_new (w.alloc (.cells #[.int .u64 10000000000000000000] 181)) (.cells #[.slice (some ⟨w.heap.size,0,none⟩) 1 1] 57);simpa using this
    ·intro i u d;match i,d with
     |0,d=>
      simp at d;subst d;refine⟨ak.below ((aH _ _).alloc aE _),?_⟩;intro g e1 e2;simp[Value.ownBlock] at e1 e2;omega
   have ae:Below w.heap.size w ((w.alloc (.cells #[.int .u64 10000000000000000000] 181)).alloc (.cells #[.slice (some ⟨w.heap.size,0,none⟩) 1 1] 57)):=((aH _ _).alloc aE _).alloc (by simp) _;clear ak;go_enter Tryz.func176,Tryz.ntmps176;go_wp2_with fail;go_loopg [5] 40 (fun k q wr=>∃us,Hid (us.length+k=41)∧1<=us.length∧Hid (2^(us.length-1)<=4294967296*2)∧OwnP wr w.heap.size q us∧(∀u∈us,∀g,u.ownBlock=some g->w.heap.size<=g)∧Below w.heap.size w wr)
   case atStart=>
    refine⟨[.slice (some ⟨w.heap.size,0,none⟩) 1 1],rfl,by simp,by unfold Hid;simp,ab,?_,ae⟩;intro u d g e;rw[List.mem_singleton] at d;subst d;simp[Value.ownBlock] at e;omega
   case round=>
    obtain⟨us,HK,bp,V,y,P,f⟩:=hrel;clear ab ae;have bq:us.length<=34:=by
     rcases Nat.lt_or_ge 34 us.length with h|h
     ·exfalso;have s:2^34<=2^(us.length-1):=cE (by decide) (by omega);have t:=V.out;have h4:(2:Nat)^34=17179869184:=by decide
      omega
     ·exact h
    have HP:=aB y;have an:=y.powA;obtain⟨u,d⟩:∃u,us[us.length-1]? =some u:=⟨_,aL (by omega)⟩;obtain⟨M,al⟩:=y.2 _ _ d;have bg:u∈us:=cH d;have ah:PowFree j u5 us:=by
     refine⟨fun g I e=> ?_,fun C z g I e=> ?_⟩
     ·have:=(ar g I).2;have:=(World.ownsRow.lt y.1 g e).1;omega
     ·have:=(ar g I).2;have:=P C z g e;omega
    have O:=OD B j bs x _ _ us wr (by omega) (hG.on (f.mono F)) (aG F f.size) (D.below f) (HX.out.below f) an a0 ah (by omega) HT.out;rw[aw.out] at O;rcases y.1.2 with ⟨_,e⟩|⟨g,Y,Z,rfl,hb,L,hn,n,hs,aq⟩
    ·omega
    have gc:wr.cell? ⟨g,us.length-1,none⟩=some u:=by
     rw[cell_of_row wr g _ Z _ (0,0) L,<-Array.getElem?_toList];have o:(Z.toList.take (us.length*1))[us.length-1]? =us[us.length-1]? :=by rw[aq]
     rw[List.getElem?_take,if_pos (by omega)] at o;rw[o];exact d
    have a6:g<wr.heap.size:=(Array.getElem?_eq_some_iff.1 L).1;have am:cW^2^(us.length-1)<=10^(19*2^(us.length-1)):=by rw[qQ,<-Nat.pow_mul];exact aE
    have aj:=E0 am;have ap:10^(19*2^(us.length-1))*10^(19*2^(us.length-1))=10^(19*2^us.length):=by
     rw[<-Nat.pow_add];congr 1;obtain⟨m,n⟩:∃m,us.length=m+1:=⟨us.length-1,by omega⟩;rw[n,Nat.add_sub_cancel,cU];omega
    have ax:=aB ap;have a8:=DX (2^(us.length-1)) (Nat.pow_pos (by decide));have bj:nl (10^(19*2^(us.length-1)))<=8589934592:=by have:=V.out;omega
    have av:=aB aj;have HU:=aB d;have W:=aB O;clear hs L y ap a8 aq am aj d O an ah;obtain⟨Au,cu,bc,bn,_,_⟩:=id M;subst bc;generalize 10^(19*2^(us.length-1))=X at *;have i0:(0:Int)<=(us.length:Int)-1:=by omega
    by_cases K:30<nl x∧2*nl X<=nl x
    ·obtain⟨J,a5⟩:=K;have a4:(30:Int)<(nl x:Int):=by omega
     have bo:2*(nl X:Int)<=(nl x:Int):=by omega
     go_wp2_with fail;refine(nV X X _ _ _ M M (by unfold aI;omega)).mono ?_;rintro e U ⟨v2,rfl,Q,ag,H⟩;obtain⟨p,r,rfl,bm,bu,br⟩:=id Q;have bh:NatAt U (Value.slice p (nl (X*X)) r) (10^(19*2^us.length)):=by rw[<-ax.out];exact Q
     have a7:∀a,(Value.slice (some ⟨g,0,none⟩) us.length Y).ownBlock=some a->(Value.slice p (nl (X*X)) r).ownBlock≠some a:=by
      intro a e;have:g=a:=by simpa [Value.ownBlock] using e
      subst this;exact ag.ne2 a6 (al _ rfl) (al _ rfl)
     have bf:∀a,(Value.slice p (nl (X*X)) r).ownBlock=some a->w.heap.size<=a:=by
      intro a e;rcases Nat.lt_or_ge a wr.heap.size with h|h
      ·obtain⟨C,z,a3⟩:=ag a e h;have:C=Value.slice Au (nl X) cu:=by simpa using z
       subst this;exact P _ bg a a3
      ·exact aG f.size h
     have ac:=HP.out.belowE H;have a9:=Q.oneCell;have bv:=f.size;have bw:=H.size;go_wp2_with (at_builtin;refine fE rfl rfl 57 _ 1 24 Tryz.underlying231 wT rfl (by decide) w.heap.size (.slice (some ⟨g,0,none⟩) us.length Y) us.length us rfl (ac.1.alloc _) [Value.slice p (nl (X*X)) r] rfl (by simp) (j0 _ _ _) a9 (by omega) (by omega) (by simp;omega) ?_;intro S w3 N ai G);have ay:=OwnP.push ac bh a7 N ai G
     have a1:Below w.heap.size w w3:=((aC f H).alloc (by omega) _).grown ai (by simp;omega) (fun k hk=>by
      have:g=k:=by simpa [Value.ownBlock] using hk
      omega)
     go_wp2_with fail;go_roundg (41-(us++[Value.slice p (nl (X*X)) r]).length)
     case measure=>have:=HK.out;simp;omega
     case rel=>
      refine⟨us++[Value.slice p (nl (X*X)) r],by unfold Hid;simp;omega,by simp,?_,ay,?_,a1⟩
      ·unfold Hid;rw[aY,List.length_singleton,Nat.add_sub_cancel];obtain⟨m,n⟩:∃m,us.length=m+1:=⟨us.length-1,by omega⟩;have o:=av.out;rw[n,Nat.add_sub_cancel] at o;rw[n,cU];omega
      ·intro C z a e';rcases List.mem_append.1 z with h|h
       ·exact P C h a e'
       ·rw[List.mem_singleton] at h;subst h;exact bf a e'
    ·by_cases J:30<nl x
     ·have a5:¬2*(nl X:Int)<=(nl x:Int):=by omega
      clear K;go_wp2_with fail;refine W.out.mono ?_;rintro e U ⟨v2,rfl,s,t⟩;go_wp2;go_ret;exact⟨_,rfl,s,(TxtTo.below f).trans t⟩
     ·have a4:¬(30:Int)<(nl x:Int):=by omega
      clear K;go_wp2_with fail;refine W.out.mono ?_;rintro e U ⟨v2,rfl,s,t⟩;go_wp2;go_ret;exact⟨_,rfl,s,(TxtTo.below f).trans t⟩
